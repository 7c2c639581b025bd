/-
  THE LAW QuotaApart.
-/
import Derived.Test.YtgkeoenbcjfeaaaGreatQuotaLd
set_option linter.unusedVariables false
set_option maxRecDepth 10000
namespace Go.Proofs.YtgkeoenbcjfeaaaGreat
open Go Go.Sc Go.Proofs

theorem renew_ex {now : Int} {cnt : Nat} {bs : List BudD} {ls : List LeaD} {kb : List (ByteArray × Int)} {kl kl' : List (Nat × LeaD)} {s i : Nat} {sp e : Int} {x : LeaD} (h : QOk now cnt bs ls) (r : QRel kb kl bs ls) (h1 : RenewK now kb kl s i sp x e kl') :
    ∃ ls', QRel kb kl' bs ls' ∧ QOk now cnt bs ls' := by
  have : ∃ y f ls', RenewR now bs ls s i sp y f ls' := by
    by_cases c1 : spanOk sp
    · by_cases c2 : ∀ l ∈ ls, ¬ (l.id = i ∧ l.session = s)
      · exact ⟨_, _, _, .inr (.inl ⟨c1, c2, rfl, rfl, rfl⟩)⟩
      · have : ∃ k, k < ls.length ∧ (nth ls k).id = i ∧ (nth ls k).session = s := Classical.byContradiction fun q => c2 fun l hl hc => by
          obtain ⟨k, hk, e⟩ := List.getElem_of_mem hl
          exact q ⟨k, hk, by rw [nth_eq (List.getElem?_eq_getElem hk), e]; exact hc⟩
        obtain ⟨k, hk, k1, k2⟩ := this
        by_cases c3 : budOf (nth ls k).key bs < lentW (nth ls k).key ls
        · exact ⟨_, _, _, .inr (.inr ⟨c1, k, hk, k1, k2, .inl ⟨c3, rfl, rfl, rfl⟩⟩)⟩
        · exact ⟨_, _, _, .inr (.inr ⟨c1, k, hk, k1, k2, .inr ⟨by omega, rfl, rfl, rfl⟩⟩)⟩
    · exact ⟨_, _, _, .inl ⟨c1, rfl, rfl, rfl⟩⟩
  obtain ⟨y, f, ls', h2⟩ := this
  exact ⟨ls', (renew_rel h r h1 h2).2.2⟩
theorem back_ex {now : Int} {cnt : Nat} {bs : List BudD} {ls : List LeaD} {kb : List (ByteArray × Int)} {kl kl' : List (Nat × LeaD)} {s i : Nat} {e : Int} {x : LeaD} (h : QOk now cnt bs ls) (r : QRel kb kl bs ls) (h1 : BackK kl s i x e kl') :
    ∃ ls', QRel kb kl' bs ls' ∧ QOk now cnt bs ls' := by
  have : ∃ y f ls', BackR ls s i y f ls' := by
    by_cases c2 : ∀ l ∈ ls, ¬ (l.id = i ∧ l.session = s)
    · exact ⟨_, _, _, .inl ⟨c2, rfl, rfl, rfl⟩⟩
    · have : ∃ k, k < ls.length ∧ (nth ls k).id = i ∧ (nth ls k).session = s := Classical.byContradiction fun q => c2 fun l hl hc => by
        obtain ⟨k, hk, e⟩ := List.getElem_of_mem hl
        exact q ⟨k, hk, by rw [nth_eq (List.getElem?_eq_getElem hk), e]; exact hc⟩
      obtain ⟨k, hk, k1, k2⟩ := this
      exact ⟨_, _, _, .inr ⟨k, hk, k1, k2, rfl, rfl, rfl⟩⟩
  obtain ⟨y, f, ls', h2⟩ := this
  exact ⟨ls', (back_rel h r h1 h2).2.2⟩
/-- A table of one's own, and whatever table of the reference. -/
theorem qactU_s (b bm lm wb : Nat) (now now2 : Int) (cnt cnt2 : Nat) (kb : List (ByteArray × Int)) (kl : List (Nat × LeaD)) (bv lv : Value) (bs bs2 : List BudD) (ls ls2 : List LeaD) (a : QActD) (w : World) (ho : QOk now cnt bs ls) (hr : QRel kb kl bs ls) (ho2 : QOk now2 cnt2 bs2 ls2) (hw : a.wf) (hc : cnt ≤ 10000) (hcc : cnt2 ≤ 10000) (hin : Own w (fps [Res.row b 58 [.map (some bm), .map (some lm), .int .i64 now, .int .u64 (cnt : Nat)], Res.mp Value.string ekI bm kb, Res.mp ekU leaV lm kl, Res.row wb 30 [.int .i64 now2, .int .u64 (cnt2 : Nat), bv, lv], Res.vec 62 2 bv bs2.length (bs2.flatMap BudD.cells), Res.vec 49 5 lv ls2.length (ls2.flatMap LeaD.cells)]) [Res.row b 58 [.map (some bm), .map (some lm), .int .i64 now, .int .u64 (cnt : Nat)], Res.mp Value.string ekI bm kb, Res.mp ekU leaV lm kl, Res.row wb 30 [.int .i64 now2, .int .u64 (cnt2 : Nat), bv, lv], Res.vec 62 2 bv bs2.length (bs2.flatMap BudD.cells), Res.vec 49 5 lv ls2.length (ls2.flatMap LeaD.cells)] w) : Rets Tryz.prog 13 #[.pointer (some ⟨b, 0, none⟩), .pointer (some ⟨wb, 0, none⟩), .agg (QActD.cells a).toArray] w fun u_ w' => ∃ (now' : Int) (cnt' : Nat) (kb' : List (ByteArray × Int)) (kl' : List (Nat × LeaD)) (bs' : List BudD) (ls' : List LeaD) (r : Bool), u_ = .bool r ∧ QOk now' cnt' bs' ls' ∧ QRel kb' kl' bs' ls' ∧ cnt' ≤ cnt + 1 ∧ Own w (fps [Res.row b 58 [.map (some bm), .map (some lm), .int .i64 now, .int .u64 (cnt : Nat)], Res.mp Value.string ekI bm kb, Res.mp ekU leaV lm kl, Res.row wb 30 [.int .i64 now2, .int .u64 (cnt2 : Nat), bv, lv], Res.vec 62 2 bv bs2.length (bs2.flatMap BudD.cells), Res.vec 49 5 lv ls2.length (ls2.flatMap LeaD.cells)]) [Res.row b 58 [.map (some bm), .map (some lm), .int .i64 now', .int .u64 (cnt' : Nat)], Res.mp Value.string ekI bm kb', Res.mp ekU leaV lm kl'] w' := by
  have ht := ho.time
  have ht2 := ho2.time
  have hll := ho.llen
  have hll2 := ho2.llen
  have hkk := ho.knl hr
  have hkl : kl.length ≤ 128 := by rw [hr.llen]; exact ho.llen
  have hlen : 0 ≤ lentK a.key kl ∧ lentK a.key kl ≤ 9223372036854775807 := by rw [hr.lent]; exact ho.lent0 _
  have han := hw.n
  have has := hw.span
  have hc2 : cnt ≤ 1000000 := by omega
  have hc3 : cnt2 ≤ 1000000 := by omega
  refine fn_enter (args := [.pointer (some ⟨b, 0, none⟩), .pointer (some ⟨wb, 0, none⟩), .agg (QActD.cells a).toArray]) Tryz.func13 rfl Tryz.ntmps13 rfl (show Own w (fps [Res.row b 58 [.map (some bm), .map (some lm), .int .i64 now, .int .u64 (cnt : Nat)], Res.mp Value.string ekI bm kb, Res.mp ekU leaV lm kl, Res.row wb 30 [.int .i64 now2, .int .u64 (cnt2 : Nat), bv, lv], Res.vec 62 2 bv bs2.length (bs2.flatMap BudD.cells), Res.vec 49 5 lv ls2.length (ls2.flatMap LeaD.cells)]) [Res.row b 58 [.map (some bm), .map (some lm), .int .i64 now, .int .u64 (cnt : Nat)], Res.mp Value.string ekI bm kb, Res.mp ekU leaV lm kl, Res.row wb 30 [.int .i64 now2, .int .u64 (cnt2 : Nat), bv, lv], Res.vec 62 2 bv bs2.length (bs2.flatMap BudD.cells), Res.vec 49 5 lv ls2.length (ls2.flatMap LeaD.cells)] w from hin) ?_
  refine c_reg ?_
  refine l_box rfl rfl (fun b5 => ?_)
  refine l_as rfl ?_
  refine l_end ?_
  refine c_seq ?_
  refine c_reg ?_
  refine l_fld (o := 0) rfl (by kernel_rfl) rfl ?_
  refine l_ldo 6 (v := .int .i64 a.kind) rfl rfl rfl (by kernel_rfl) rfl ?_
  refine l_end ?_
  refine c_block ?_
  refine c_reg ?_
  refine l_eq rfl rfl rfl ?_
  refine l_as rfl ?_
  refine l_end ?_
  refine c_dec rfl (fun c1 => ?_) (fun c1 => ?_)
  ·
    refine c_reg ?_
    refine l_mv rfl ?_
    refine l_fld (o := 2) rfl (by kernel_rfl) rfl ?_
    refine l_ldo 6 (v := .int .i64 a.n) rfl rfl rfl (by kernel_rfl) rfl ?_
    refine l_call (by kernel_rfl) rfl rfl (fun w' hw => ?_)
    refine (pass_s b bm lm now cnt kl a.n w' (by first | assumption | omega | (simp <;> omega) | (constructor <;> (first | omega | (simp only [LenOk]; omega) | (simp <;> omega)))) (by first | assumption | omega | (simp <;> omega) | (constructor <;> (first | omega | (simp only [LenOk]; omega) | (simp <;> omega)))) (by first | assumption | omega | (simp <;> omega) | (constructor <;> (first | omega | (simp only [LenOk]; omega) | (simp <;> omega)))) (by first | assumption | omega | (simp <;> omega) | (constructor <;> (first | omega | (simp only [LenOk]; omega) | (simp <;> omega)))) (hw.give [0, 2] rfl (by decide))).mono ?_
    rintro _ w1 ⟨gv1_, gs2_, e3_, now'4_, kl'5_, rfl, hf3_3, hf3_3_1, hf3_3_2, hf3_3_3, hf3_3_4, hO⟩
    refine (?_ : CL _ _ _ _ _ _ (Own w (fps [Res.row b 58 [.map (some bm), .map (some lm), .int .i64 now, .int .u64 (cnt : Nat)], Res.mp Value.string ekI bm kb, Res.mp ekU leaV lm kl, Res.row wb 30 [.int .i64 now2, .int .u64 (cnt2 : Nat), bv, lv], Res.vec 62 2 bv bs2.length (bs2.flatMap BudD.cells), Res.vec 49 5 lv ls2.length (ls2.flatMap LeaD.cells)]) [Res.mp Value.string ekI bm kb, Res.row wb 30 [.int .i64 now2, .int .u64 (cnt2 : Nat), bv, lv], Res.vec 62 2 bv bs2.length (bs2.flatMap BudD.cells), Res.vec 49 5 lv ls2.length (ls2.flatMap LeaD.cells), Res.row b5 33 (QActD.cells a), Res.row b 58 [.map (some bm), .map (some lm), .int .i64 now'4_, .int .u64 (cnt : Nat)], Res.mp ekU leaV lm kl'5_, Res.vec 26 1 gv1_ gs2_.length (gs2_.flatMap U1)])) w1 (hw.frameL [0, 2] rfl hO)
    refine l_mv rfl ?_
    refine l_ext (vs := [gv1_, .int .i64 e3_]) rfl rfl rfl ?_
    refine l_ext (vs := [gv1_, .int .i64 e3_]) rfl rfl rfl ?_
    refine l_as rfl ?_
    refine l_as rfl ?_
    refine l_end ?_
    refine c_reg ?_
    refine l_mv rfl ?_
    refine l_fld (o := 2) rfl (by kernel_rfl) rfl ?_
    refine l_ldo 4 (v := .int .i64 a.n) rfl rfl rfl (by kernel_rfl) rfl ?_
    refine l_call (by kernel_rfl) rfl rfl (fun w' hw => ?_)
    refine (rpass_s wb now2 cnt2 bv lv bs2 ls2 a.n w' (by first | assumption | omega | (simp <;> omega) | (constructor <;> (first | omega | (simp only [LenOk]; omega) | (simp <;> omega)))) (by first | assumption | omega | (simp <;> omega) | (constructor <;> (first | omega | (simp only [LenOk]; omega) | (simp <;> omega)))) (by first | assumption | omega | (simp <;> omega) | (constructor <;> (first | omega | (simp only [LenOk]; omega) | (simp <;> omega)))) (hw.give [1, 3] rfl (by decide))).mono ?_
    rintro _ w1 ⟨gv6_, gs7_, e8_, now'9_, lv'10_, ls'11_, rfl, hf4_3, hf4_3_1, hf4_3_2, hf4_3_3, hO⟩
    refine (?_ : CL _ _ _ _ _ _ (Own w (fps [Res.row b 58 [.map (some bm), .map (some lm), .int .i64 now, .int .u64 (cnt : Nat)], Res.mp Value.string ekI bm kb, Res.mp ekU leaV lm kl, Res.row wb 30 [.int .i64 now2, .int .u64 (cnt2 : Nat), bv, lv], Res.vec 62 2 bv bs2.length (bs2.flatMap BudD.cells), Res.vec 49 5 lv ls2.length (ls2.flatMap LeaD.cells)]) [Res.mp Value.string ekI bm kb, Res.vec 62 2 bv bs2.length (bs2.flatMap BudD.cells), Res.row b5 33 (QActD.cells a), Res.row b 58 [.map (some bm), .map (some lm), .int .i64 now'4_, .int .u64 (cnt : Nat)], Res.mp ekU leaV lm kl'5_, Res.vec 26 1 gv1_ gs2_.length (gs2_.flatMap U1), Res.row wb 30 [.int .i64 now'9_, .int .u64 (cnt2 : Nat), bv, lv'10_], Res.vec 49 5 lv'10_ ls'11_.length (ls'11_.flatMap LeaD.cells), Res.vec 26 1 gv6_ gs7_.length (gs7_.flatMap U1)])) w1 (hw.frameL [1, 3] rfl hO)
    refine l_mv rfl ?_
    refine l_ext (vs := [gv6_, .int .i64 e8_]) rfl rfl rfl ?_
    refine l_ext (vs := [gv6_, .int .i64 e8_]) rfl rfl rfl ?_
    refine l_as rfl ?_
    refine l_as rfl ?_
    refine l_end ?_
    refine c_reg ?_
    refine l_mv rfl ?_
    refine l_mv rfl ?_
    refine l_call (by kernel_rfl) rfl rfl (fun w' hw => ?_)
    refine (rids_s gv1_ gs2_ gv6_ gs7_ w' (by rw [passG_eq ho hr hf3_3_3 hf3_3_4]; have := passG_len now a.n ls; omega) (by rw [hf4_3_3]; have := passG_len now2 a.n ls2; omega) (hw.rdVec0 5 rfl) (hw.rdVec0 8 rfl)).mono ?_
    rintro _ w1 ⟨rfl, hO⟩
    refine (?_ : CL _ _ _ _ _ _ (Own w (fps [Res.row b 58 [.map (some bm), .map (some lm), .int .i64 now, .int .u64 (cnt : Nat)], Res.mp Value.string ekI bm kb, Res.mp ekU leaV lm kl, Res.row wb 30 [.int .i64 now2, .int .u64 (cnt2 : Nat), bv, lv], Res.vec 62 2 bv bs2.length (bs2.flatMap BudD.cells), Res.vec 49 5 lv ls2.length (ls2.flatMap LeaD.cells)]) [Res.mp Value.string ekI bm kb, Res.vec 62 2 bv bs2.length (bs2.flatMap BudD.cells), Res.row b5 33 (QActD.cells a), Res.row b 58 [.map (some bm), .map (some lm), .int .i64 now'4_, .int .u64 (cnt : Nat)], Res.mp ekU leaV lm kl'5_, Res.vec 26 1 gv1_ gs2_.length (gs2_.flatMap U1), Res.row wb 30 [.int .i64 now'9_, .int .u64 (cnt2 : Nat), bv, lv'10_], Res.vec 49 5 lv'10_ ls'11_.length (ls'11_.flatMap LeaD.cells), Res.vec 26 1 gv6_ gs7_.length (gs7_.flatMap U1)])) w1 (hw.frame0 hO)
    refine l_mv rfl ?_
    refine l_band (q := gs2_ = gs7_) 3 3 [55, 54, 53] (e3_ = e8_) rfl rfl rfl rfl rfl rfl trivial rfl (fun h5_3 => ?_) (fun g5_7 => ?_)
    ·
      refine l_on rfl (gT h5_3) ?_
      refine l_mv rfl ?_
      refine l_on rfl (gT h5_3) ?_
      refine l_mv rfl ?_
      refine l_on rfl (gT h5_3) ?_
      refine l_eq rfl rfl rfl ?_
      exact l_nil (fun w' hw => ⟨(by repeat (first | exact Out.refl _ _ | refine Out.upd rfl ?_ | refine Out.msk rfl ?_)), rfl, hw⟩)
    refine l_as rfl ?_
    refine l_end ?_
    exact c_ret (ret1 (v := .bool (decide ((gs2_ = gs7_) ∧ (e3_ = e8_)))) rfl rfl (fun w' hw => ⟨passN now a.n, cnt, kb, kl'5_, bs, passL now a.n ls, _, rfl, ho.pass a.n han, (by rw [hf3_3_2]; exact hr.pass a.n), Nat.le_succ _, by have e1 := hf3_3_1; rw [e1] at hw; exact hw.sel [3, 0, 4] rfl (by decide)⟩))
  ·
    refine c_reg ?_
    refine l_eq rfl rfl rfl ?_
    refine l_as rfl ?_
    refine l_end ?_
    refine c_dec rfl (fun c2 => ?_) (fun c2 => ?_)
    ·
      refine c_reg ?_
      refine l_mv rfl ?_
      refine l_fld (o := 1) rfl (by kernel_rfl) rfl ?_
      refine l_ldo 6 (v := .string a.key) rfl rfl rfl (by kernel_rfl) rfl ?_
      refine l_fld (o := 2) rfl (by kernel_rfl) rfl ?_
      refine l_ldo 6 (v := .int .i64 a.n) rfl rfl rfl (by kernel_rfl) rfl ?_
      refine l_call (by kernel_rfl) rfl rfl (fun w' hw => ?_)
      refine (set_s b bm lm now cnt kb kl a.key a.n w' (hw.give [0, 1, 2] rfl (by decide))).mono ?_
      rintro _ w1 ⟨n12_, e13_, kb'14_, rfl, hf7_5, hf7_5_1, hf7_5_2, hO⟩
      refine (?_ : CL _ _ _ _ _ _ (Own w (fps [Res.row b 58 [.map (some bm), .map (some lm), .int .i64 now, .int .u64 (cnt : Nat)], Res.mp Value.string ekI bm kb, Res.mp ekU leaV lm kl, Res.row wb 30 [.int .i64 now2, .int .u64 (cnt2 : Nat), bv, lv], Res.vec 62 2 bv bs2.length (bs2.flatMap BudD.cells), Res.vec 49 5 lv ls2.length (ls2.flatMap LeaD.cells)]) [Res.row wb 30 [.int .i64 now2, .int .u64 (cnt2 : Nat), bv, lv], Res.vec 62 2 bv bs2.length (bs2.flatMap BudD.cells), Res.vec 49 5 lv ls2.length (ls2.flatMap LeaD.cells), Res.row b5 33 (QActD.cells a), Res.row b 58 [.map (some bm), .map (some lm), .int .i64 now, .int .u64 (cnt : Nat)], Res.mp Value.string ekI bm kb'14_, Res.mp ekU leaV lm kl])) w1 (hw.frameL [0, 1, 2] rfl hO)
      refine l_mv rfl ?_
      refine l_ext (vs := [.int .i64 n12_, .int .i64 e13_]) rfl rfl rfl ?_
      refine l_ext (vs := [.int .i64 n12_, .int .i64 e13_]) rfl rfl rfl ?_
      refine l_as rfl ?_
      refine l_as rfl ?_
      refine l_end ?_
      refine c_reg ?_
      refine l_mv rfl ?_
      refine l_fld (o := 1) rfl (by kernel_rfl) rfl ?_
      refine l_ldo 3 (v := .string a.key) rfl rfl rfl (by kernel_rfl) rfl ?_
      refine l_fld (o := 2) rfl (by kernel_rfl) rfl ?_
      refine l_ldo 3 (v := .int .i64 a.n) rfl rfl rfl (by kernel_rfl) rfl ?_
      refine l_call (by kernel_rfl) rfl rfl (fun w' hw => ?_)
      refine (rset_s wb now2 cnt2 bv lv bs2 ls2 a.key a.n w' (by first | assumption | omega | (simp <;> omega) | (constructor <;> (first | omega | (simp only [LenOk]; omega) | (simp <;> omega)))) (hw.give [0, 1, 2] rfl (by decide))).mono ?_
      rintro _ w1 ⟨n15_, e16_, bv'17_, bs'18_, rfl, hf8_5, hf8_5_1, hf8_5_2, hO⟩
      refine (?_ : CL _ _ _ _ _ _ (Own w (fps [Res.row b 58 [.map (some bm), .map (some lm), .int .i64 now, .int .u64 (cnt : Nat)], Res.mp Value.string ekI bm kb, Res.mp ekU leaV lm kl, Res.row wb 30 [.int .i64 now2, .int .u64 (cnt2 : Nat), bv, lv], Res.vec 62 2 bv bs2.length (bs2.flatMap BudD.cells), Res.vec 49 5 lv ls2.length (ls2.flatMap LeaD.cells)]) [Res.row b5 33 (QActD.cells a), Res.row b 58 [.map (some bm), .map (some lm), .int .i64 now, .int .u64 (cnt : Nat)], Res.mp Value.string ekI bm kb'14_, Res.mp ekU leaV lm kl, Res.row wb 30 [.int .i64 now2, .int .u64 (cnt2 : Nat), bv'17_, lv], Res.vec 62 2 bv'17_ bs'18_.length (bs'18_.flatMap BudD.cells), Res.vec 49 5 lv ls2.length (ls2.flatMap LeaD.cells)])) w1 (hw.frameL [0, 1, 2] rfl hO)
      refine l_mv rfl ?_
      refine l_ext (vs := [.int .i64 n15_, .int .i64 e16_]) rfl rfl rfl ?_
      refine l_ext (vs := [.int .i64 n15_, .int .i64 e16_]) rfl rfl rfl ?_
      refine l_as rfl ?_
      refine l_as rfl ?_
      refine l_end ?_
      refine c_reg ?_
      refine l_mv rfl ?_
      refine l_mv rfl ?_
      refine l_eq rfl rfl rfl ?_
      refine l_mv rfl ?_
      refine l_band (q := n12_ = n15_) 3 3 [83, 82, 81] (e13_ = e16_) rfl rfl rfl rfl rfl rfl trivial rfl (fun h9_3 => ?_) (fun g9_7 => ?_)
      ·
        refine l_on rfl (gT h9_3) ?_
        refine l_mv rfl ?_
        refine l_on rfl (gT h9_3) ?_
        refine l_mv rfl ?_
        refine l_on rfl (gT h9_3) ?_
        refine l_eq rfl rfl rfl ?_
        exact l_nil (fun w' hw => ⟨(by repeat (first | exact Out.refl _ _ | refine Out.upd rfl ?_ | refine Out.msk rfl ?_)), rfl, hw⟩)
      refine l_as rfl ?_
      refine l_end ?_
      exact c_ret (ret1 (v := .bool (decide ((n12_ = n15_) ∧ (e13_ = e16_)))) rfl rfl (fun w' hw => ⟨now, cnt, kb'14_, kl, setB a.key a.n bs, ls, _, rfl, ho.set _ _ han, (by rw [hf7_5_1]; exact QRel.set ho hr _ _), Nat.le_succ _, hw.sel [1, 2, 3] rfl (by decide)⟩))
    ·
      refine c_reg ?_
      refine l_eq rfl rfl rfl ?_
      refine l_as rfl ?_
      refine l_end ?_
      refine c_dec rfl (fun c3 => ?_) (fun c3 => ?_)
      ·
        refine c_reg ?_
        refine l_mv rfl ?_
        refine l_fld (o := 4) rfl (by kernel_rfl) rfl ?_
        refine l_ldo 6 (v := .int .u64 (a.session : Nat)) rfl rfl rfl (by kernel_rfl) rfl ?_
        refine l_fld (o := 1) rfl (by kernel_rfl) rfl ?_
        refine l_ldo 6 (v := .string a.key) rfl rfl rfl (by kernel_rfl) rfl ?_
        refine l_fld (o := 2) rfl (by kernel_rfl) rfl ?_
        refine l_ldo 6 (v := .int .i64 a.n) rfl rfl rfl (by kernel_rfl) rfl ?_
        refine l_fld (o := 3) rfl (by kernel_rfl) rfl ?_
        refine l_ldo 6 (v := .int .i64 a.span) rfl rfl rfl (by kernel_rfl) rfl ?_
        refine l_call (by kernel_rfl) rfl rfl (fun w' hw => ?_)
        refine (lend_s b bm lm now cnt kb kl a.session a.key a.n a.span w' (by first | assumption | omega | (simp <;> omega) | (constructor <;> (first | omega | (simp only [LenOk]; omega) | (simp <;> omega)))) (by first | assumption | omega | (simp <;> omega) | (constructor <;> (first | omega | (simp only [LenOk]; omega) | (simp <;> omega)))) (by first | assumption | omega | (simp <;> omega) | (constructor <;> (first | omega | (simp only [LenOk]; omega) | (simp <;> omega)))) (by first | assumption | omega | (simp <;> omega) | (constructor <;> (first | omega | (simp only [LenOk]; omega) | (simp <;> omega)))) (hw.give [0, 1, 2] rfl (by decide))).mono ?_
        rintro _ w1 ⟨x19_, e20_, cnt'21_, kl'22_, rfl, hf11_9, hf11_9_1, hf11_9_2, hf11_9_3, hO⟩
        refine (?_ : CL _ _ _ _ _ _ (Own w (fps [Res.row b 58 [.map (some bm), .map (some lm), .int .i64 now, .int .u64 (cnt : Nat)], Res.mp Value.string ekI bm kb, Res.mp ekU leaV lm kl, Res.row wb 30 [.int .i64 now2, .int .u64 (cnt2 : Nat), bv, lv], Res.vec 62 2 bv bs2.length (bs2.flatMap BudD.cells), Res.vec 49 5 lv ls2.length (ls2.flatMap LeaD.cells)]) [Res.row wb 30 [.int .i64 now2, .int .u64 (cnt2 : Nat), bv, lv], Res.vec 62 2 bv bs2.length (bs2.flatMap BudD.cells), Res.vec 49 5 lv ls2.length (ls2.flatMap LeaD.cells), Res.row b5 33 (QActD.cells a), Res.row b 58 [.map (some bm), .map (some lm), .int .i64 now, .int .u64 (cnt'21_ : Nat)], Res.mp Value.string ekI bm kb, Res.mp ekU leaV lm kl'22_])) w1 (hw.frameL [0, 1, 2] rfl hO)
        refine l_mv rfl ?_
        refine l_ext (vs := [.agg (LeaD.cells x19_).toArray, .int .i64 e20_]) rfl rfl rfl ?_
        refine l_ext (vs := [.agg (LeaD.cells x19_).toArray, .int .i64 e20_]) rfl rfl rfl ?_
        refine l_new (v := .agg #[.int .u64 (0 : Nat), .int .u64 (0 : Nat), .string (⟨#[]⟩ : ByteArray), .int .i64 0, .int .i64 0]) (by kernel_rfl) rfl (fun b15 => ?_)
        refine l_stN (cs := [.int .u64 (0 : Nat), .int .u64 (0 : Nat), .string (⟨#[]⟩ : ByteArray), .int .i64 0, .int .i64 0]) (vs := [.int .u64 (x19_.id : Nat), .int .u64 (x19_.session : Nat), .string x19_.key, .int .i64 x19_.amount, .int .i64 x19_.until_]) 7 rfl rfl rfl (by kernel_rfl) (allc_cons rfl (allc_cons rfl (allc_cons rfl (allc_cons rfl (allc_cons rfl allc_nil))))) (Nat.le_of_ble_eq_true rfl) ?_
        refine l_as rfl ?_
        refine l_end ?_
        refine c_reg ?_
        refine l_mv rfl ?_
        refine l_fld (o := 4) rfl (by kernel_rfl) rfl ?_
        refine l_ldo 3 (v := .int .u64 (a.session : Nat)) rfl rfl rfl (by kernel_rfl) rfl ?_
        refine l_fld (o := 1) rfl (by kernel_rfl) rfl ?_
        refine l_ldo 3 (v := .string a.key) rfl rfl rfl (by kernel_rfl) rfl ?_
        refine l_fld (o := 2) rfl (by kernel_rfl) rfl ?_
        refine l_ldo 3 (v := .int .i64 a.n) rfl rfl rfl (by kernel_rfl) rfl ?_
        refine l_fld (o := 3) rfl (by kernel_rfl) rfl ?_
        refine l_ldo 3 (v := .int .i64 a.span) rfl rfl rfl (by kernel_rfl) rfl ?_
        refine l_call (by kernel_rfl) rfl rfl (fun w' hw => ?_)
        refine (rlend_s wb now2 cnt2 bv lv bs2 ls2 a.session a.key a.n a.span w' (by first | assumption | omega | (simp <;> omega) | (constructor <;> (first | omega | (simp only [LenOk]; omega) | (simp <;> omega)))) (by first | assumption | omega | (simp <;> omega) | (constructor <;> (first | omega | (simp only [LenOk]; omega) | (simp <;> omega)))) (by first | assumption | omega | (simp <;> omega) | (constructor <;> (first | omega | (simp only [LenOk]; omega) | (simp <;> omega)))) (hw.give [0, 1, 2] rfl (by decide))).mono ?_
        rintro _ w1 ⟨x23_, e24_, cnt'25_, lv'26_, ls'27_, rfl, hf12_9, hf12_9_1, hf12_9_2, hf12_9_3, hO⟩
        refine (?_ : CL _ _ _ _ _ _ (Own w (fps [Res.row b 58 [.map (some bm), .map (some lm), .int .i64 now, .int .u64 (cnt : Nat)], Res.mp Value.string ekI bm kb, Res.mp ekU leaV lm kl, Res.row wb 30 [.int .i64 now2, .int .u64 (cnt2 : Nat), bv, lv], Res.vec 62 2 bv bs2.length (bs2.flatMap BudD.cells), Res.vec 49 5 lv ls2.length (ls2.flatMap LeaD.cells)]) [Res.row b5 33 (QActD.cells a), Res.row b 58 [.map (some bm), .map (some lm), .int .i64 now, .int .u64 (cnt'21_ : Nat)], Res.mp Value.string ekI bm kb, Res.mp ekU leaV lm kl'22_, Res.row b15 49 (LeaD.cells x19_), Res.row wb 30 [.int .i64 now2, .int .u64 (cnt'25_ : Nat), bv, lv'26_], Res.vec 62 2 bv bs2.length (bs2.flatMap BudD.cells), Res.vec 49 5 lv'26_ ls'27_.length (ls'27_.flatMap LeaD.cells)])) w1 (hw.frameL [0, 1, 2] rfl hO)
        refine l_mv rfl ?_
        refine l_ext (vs := [.agg (LeaD.cells x23_).toArray, .int .i64 e24_]) rfl rfl rfl ?_
        refine l_ext (vs := [.agg (LeaD.cells x23_).toArray, .int .i64 e24_]) rfl rfl rfl ?_
        refine l_new (v := .agg #[.int .u64 (0 : Nat), .int .u64 (0 : Nat), .string (⟨#[]⟩ : ByteArray), .int .i64 0, .int .i64 0]) (by kernel_rfl) rfl (fun b17 => ?_)
        refine l_stN (cs := [.int .u64 (0 : Nat), .int .u64 (0 : Nat), .string (⟨#[]⟩ : ByteArray), .int .i64 0, .int .i64 0]) (vs := [.int .u64 (x23_.id : Nat), .int .u64 (x23_.session : Nat), .string x23_.key, .int .i64 x23_.amount, .int .i64 x23_.until_]) 8 rfl rfl rfl (by kernel_rfl) (allc_cons rfl (allc_cons rfl (allc_cons rfl (allc_cons rfl (allc_cons rfl allc_nil))))) (Nat.le_of_ble_eq_true rfl) ?_
        refine l_as rfl ?_
        refine l_end ?_
        refine c_reg ?_
        refine l_ldr (cs := (LeaD.cells x19_)) 4 rfl rfl (by kernel_rfl) rfl ?_
        refine l_ldr (cs := (LeaD.cells x23_)) 8 rfl rfl (by kernel_rfl) rfl ?_
        refine l_val rfl (v_stp (LeaDEq x19_ x23_) (by kernel_rfl) (by kernel_rfl) rfl rfl rfl rfl) ?_
        refine l_mv rfl ?_
        refine l_band (q := x19_ = x23_) 3 3 [119, 118, 117] (e20_ = e24_) rfl rfl rfl rfl rfl rfl trivial rfl (fun h13_3 => ?_) (fun g13_7 => ?_)
        ·
          refine l_on rfl (gT h13_3) ?_
          refine l_mv rfl ?_
          refine l_on rfl (gT h13_3) ?_
          refine l_mv rfl ?_
          refine l_on rfl (gT h13_3) ?_
          refine l_eq rfl rfl rfl ?_
          exact l_nil (fun w' hw => ⟨(by repeat (first | exact Out.refl _ _ | refine Out.upd rfl ?_ | refine Out.msk rfl ?_)), rfl, hw⟩)
        refine l_as rfl ?_
        refine l_end ?_
        exact c_ret (ret1 (v := .bool (decide ((x19_ = x23_) ∧ (e20_ = e24_)))) rfl rfl (fun w' hw => ⟨now, cnt'21_, kb, kl'22_, bs, lendL e20_ x19_ ls, _, rfl, (by rw [hf11_9_2, hf11_9_1]; exact ho.lend (hf11_9.trans (lendE_eq ho hr _ _ _ _))), (by rw [hf11_9_3]; exact QRel.lend ho hr (fun h0 => by rw [hf11_9_1]; unfold lendX; rw [if_pos h0])), (by rw [hf11_9_2]; unfold lendC; split <;> omega), hw.sel [1, 2, 3] rfl (by decide)⟩))
      ·
        refine c_reg ?_
        refine l_eq rfl rfl rfl ?_
        refine l_as rfl ?_
        refine l_end ?_
        refine c_dec rfl (fun c4 => ?_) (fun c4 => ?_)
        ·
          refine c_reg ?_
          refine l_mv rfl ?_
          refine l_fld (o := 4) rfl (by kernel_rfl) rfl ?_
          refine l_ldo 6 (v := .int .u64 (a.session : Nat)) rfl rfl rfl (by kernel_rfl) rfl ?_
          refine l_fld (o := 5) rfl (by kernel_rfl) rfl ?_
          refine l_ldo 6 (v := .int .u64 (a.id : Nat)) rfl rfl rfl (by kernel_rfl) rfl ?_
          refine l_fld (o := 3) rfl (by kernel_rfl) rfl ?_
          refine l_ldo 6 (v := .int .i64 a.span) rfl rfl rfl (by kernel_rfl) rfl ?_
          refine l_call (by kernel_rfl) rfl rfl (fun w' hw => ?_)
          refine (renew_s b bm lm now cnt kb kl a.session a.id a.span w' (by first | assumption | omega | (simp <;> omega) | (constructor <;> (first | omega | (simp only [LenOk]; omega) | (simp <;> omega)))) (hw.give [0, 1, 2] rfl (by decide))).mono ?_
          rintro _ w1 ⟨x28_, e29_, kl'30_, rfl, hf15_7, hO⟩
          refine (?_ : CL _ _ _ _ _ _ (Own w (fps [Res.row b 58 [.map (some bm), .map (some lm), .int .i64 now, .int .u64 (cnt : Nat)], Res.mp Value.string ekI bm kb, Res.mp ekU leaV lm kl, Res.row wb 30 [.int .i64 now2, .int .u64 (cnt2 : Nat), bv, lv], Res.vec 62 2 bv bs2.length (bs2.flatMap BudD.cells), Res.vec 49 5 lv ls2.length (ls2.flatMap LeaD.cells)]) [Res.row wb 30 [.int .i64 now2, .int .u64 (cnt2 : Nat), bv, lv], Res.vec 62 2 bv bs2.length (bs2.flatMap BudD.cells), Res.vec 49 5 lv ls2.length (ls2.flatMap LeaD.cells), Res.row b5 33 (QActD.cells a), Res.row b 58 [.map (some bm), .map (some lm), .int .i64 now, .int .u64 (cnt : Nat)], Res.mp Value.string ekI bm kb, Res.mp ekU leaV lm kl'30_])) w1 (hw.frameL [0, 1, 2] rfl hO)
          refine l_mv rfl ?_
          refine l_ext (vs := [.agg (LeaD.cells x28_).toArray, .int .i64 e29_]) rfl rfl rfl ?_
          refine l_ext (vs := [.agg (LeaD.cells x28_).toArray, .int .i64 e29_]) rfl rfl rfl ?_
          refine l_new (v := .agg #[.int .u64 (0 : Nat), .int .u64 (0 : Nat), .string (⟨#[]⟩ : ByteArray), .int .i64 0, .int .i64 0]) (by kernel_rfl) rfl (fun b19 => ?_)
          refine l_stN (cs := [.int .u64 (0 : Nat), .int .u64 (0 : Nat), .string (⟨#[]⟩ : ByteArray), .int .i64 0, .int .i64 0]) (vs := [.int .u64 (x28_.id : Nat), .int .u64 (x28_.session : Nat), .string x28_.key, .int .i64 x28_.amount, .int .i64 x28_.until_]) 7 rfl rfl rfl (by kernel_rfl) (allc_cons rfl (allc_cons rfl (allc_cons rfl (allc_cons rfl (allc_cons rfl allc_nil))))) (Nat.le_of_ble_eq_true rfl) ?_
          refine l_as rfl ?_
          refine l_end ?_
          refine c_reg ?_
          refine l_mv rfl ?_
          refine l_fld (o := 4) rfl (by kernel_rfl) rfl ?_
          refine l_ldo 3 (v := .int .u64 (a.session : Nat)) rfl rfl rfl (by kernel_rfl) rfl ?_
          refine l_fld (o := 5) rfl (by kernel_rfl) rfl ?_
          refine l_ldo 3 (v := .int .u64 (a.id : Nat)) rfl rfl rfl (by kernel_rfl) rfl ?_
          refine l_fld (o := 3) rfl (by kernel_rfl) rfl ?_
          refine l_ldo 3 (v := .int .i64 a.span) rfl rfl rfl (by kernel_rfl) rfl ?_
          refine l_call (by kernel_rfl) rfl rfl (fun w' hw => ?_)
          refine (rrenew_s wb now2 cnt2 bv lv bs2 ls2 a.session a.id a.span w' (by first | assumption | omega | (simp <;> omega) | (constructor <;> (first | omega | (simp only [LenOk]; omega) | (simp <;> omega)))) (hw.give [0, 1, 2] rfl (by decide))).mono ?_
          rintro _ w1 ⟨x31_, e32_, ls'33_, rfl, hf16_7, hO⟩
          refine (?_ : CL _ _ _ _ _ _ (Own w (fps [Res.row b 58 [.map (some bm), .map (some lm), .int .i64 now, .int .u64 (cnt : Nat)], Res.mp Value.string ekI bm kb, Res.mp ekU leaV lm kl, Res.row wb 30 [.int .i64 now2, .int .u64 (cnt2 : Nat), bv, lv], Res.vec 62 2 bv bs2.length (bs2.flatMap BudD.cells), Res.vec 49 5 lv ls2.length (ls2.flatMap LeaD.cells)]) [Res.row b5 33 (QActD.cells a), Res.row b 58 [.map (some bm), .map (some lm), .int .i64 now, .int .u64 (cnt : Nat)], Res.mp Value.string ekI bm kb, Res.mp ekU leaV lm kl'30_, Res.row b19 49 (LeaD.cells x28_), Res.row wb 30 [.int .i64 now2, .int .u64 (cnt2 : Nat), bv, lv], Res.vec 62 2 bv bs2.length (bs2.flatMap BudD.cells), Res.vec 49 5 lv ls'33_.length (ls'33_.flatMap LeaD.cells)])) w1 (hw.frameL [0, 1, 2] rfl hO)
          refine l_mv rfl ?_
          refine l_ext (vs := [.agg (LeaD.cells x31_).toArray, .int .i64 e32_]) rfl rfl rfl ?_
          refine l_ext (vs := [.agg (LeaD.cells x31_).toArray, .int .i64 e32_]) rfl rfl rfl ?_
          refine l_new (v := .agg #[.int .u64 (0 : Nat), .int .u64 (0 : Nat), .string (⟨#[]⟩ : ByteArray), .int .i64 0, .int .i64 0]) (by kernel_rfl) rfl (fun b21 => ?_)
          refine l_stN (cs := [.int .u64 (0 : Nat), .int .u64 (0 : Nat), .string (⟨#[]⟩ : ByteArray), .int .i64 0, .int .i64 0]) (vs := [.int .u64 (x31_.id : Nat), .int .u64 (x31_.session : Nat), .string x31_.key, .int .i64 x31_.amount, .int .i64 x31_.until_]) 8 rfl rfl rfl (by kernel_rfl) (allc_cons rfl (allc_cons rfl (allc_cons rfl (allc_cons rfl (allc_cons rfl allc_nil))))) (Nat.le_of_ble_eq_true rfl) ?_
          refine l_as rfl ?_
          refine l_end ?_
          refine c_reg ?_
          refine l_ldr (cs := (LeaD.cells x28_)) 4 rfl rfl (by kernel_rfl) rfl ?_
          refine l_ldr (cs := (LeaD.cells x31_)) 8 rfl rfl (by kernel_rfl) rfl ?_
          refine l_val rfl (v_stp (LeaDEq x28_ x31_) (by kernel_rfl) (by kernel_rfl) rfl rfl rfl rfl) ?_
          refine l_mv rfl ?_
          refine l_band (q := x28_ = x31_) 3 3 [151, 150, 149] (e29_ = e32_) rfl rfl rfl rfl rfl rfl trivial rfl (fun h17_3 => ?_) (fun g17_7 => ?_)
          ·
            refine l_on rfl (gT h17_3) ?_
            refine l_mv rfl ?_
            refine l_on rfl (gT h17_3) ?_
            refine l_mv rfl ?_
            refine l_on rfl (gT h17_3) ?_
            refine l_eq rfl rfl rfl ?_
            exact l_nil (fun w' hw => ⟨(by repeat (first | exact Out.refl _ _ | refine Out.upd rfl ?_ | refine Out.msk rfl ?_)), rfl, hw⟩)
          refine l_as rfl ?_
          refine l_end ?_
          exact c_ret (ret1 (v := .bool (decide ((x28_ = x31_) ∧ (e29_ = e32_)))) rfl rfl (fun w' hw => ⟨now, cnt, kb, kl'30_, bs, (renew_ex ho hr hf15_7).choose, _, rfl, (renew_ex ho hr hf15_7).choose_spec.2, (renew_ex ho hr hf15_7).choose_spec.1, Nat.le_succ _, hw.sel [1, 2, 3] rfl (by decide)⟩))
        ·
          refine c_reg ?_
          refine l_eq rfl rfl rfl ?_
          refine l_as rfl ?_
          refine l_end ?_
          refine c_dec rfl (fun c5 => ?_) (fun c5 => ?_)
          ·
            refine c_reg ?_
            refine l_mv rfl ?_
            refine l_fld (o := 4) rfl (by kernel_rfl) rfl ?_
            refine l_ldo 6 (v := .int .u64 (a.session : Nat)) rfl rfl rfl (by kernel_rfl) rfl ?_
            refine l_fld (o := 5) rfl (by kernel_rfl) rfl ?_
            refine l_ldo 6 (v := .int .u64 (a.id : Nat)) rfl rfl rfl (by kernel_rfl) rfl ?_
            refine l_call (by kernel_rfl) rfl rfl (fun w' hw => ?_)
            refine (back_s b bm lm now cnt kl a.session a.id w' (hw.give [0, 2] rfl (by decide))).mono ?_
            rintro _ w1 ⟨x34_, e35_, kl'36_, rfl, hf19_5, hO⟩
            refine (?_ : CL _ _ _ _ _ _ (Own w (fps [Res.row b 58 [.map (some bm), .map (some lm), .int .i64 now, .int .u64 (cnt : Nat)], Res.mp Value.string ekI bm kb, Res.mp ekU leaV lm kl, Res.row wb 30 [.int .i64 now2, .int .u64 (cnt2 : Nat), bv, lv], Res.vec 62 2 bv bs2.length (bs2.flatMap BudD.cells), Res.vec 49 5 lv ls2.length (ls2.flatMap LeaD.cells)]) [Res.mp Value.string ekI bm kb, Res.row wb 30 [.int .i64 now2, .int .u64 (cnt2 : Nat), bv, lv], Res.vec 62 2 bv bs2.length (bs2.flatMap BudD.cells), Res.vec 49 5 lv ls2.length (ls2.flatMap LeaD.cells), Res.row b5 33 (QActD.cells a), Res.row b 58 [.map (some bm), .map (some lm), .int .i64 now, .int .u64 (cnt : Nat)], Res.mp ekU leaV lm kl'36_])) w1 (hw.frameL [0, 2] rfl hO)
            refine l_mv rfl ?_
            refine l_ext (vs := [.agg (LeaD.cells x34_).toArray, .int .i64 e35_]) rfl rfl rfl ?_
            refine l_ext (vs := [.agg (LeaD.cells x34_).toArray, .int .i64 e35_]) rfl rfl rfl ?_
            refine l_new (v := .agg #[.int .u64 (0 : Nat), .int .u64 (0 : Nat), .string (⟨#[]⟩ : ByteArray), .int .i64 0, .int .i64 0]) (by kernel_rfl) rfl (fun b23 => ?_)
            refine l_stN (cs := [.int .u64 (0 : Nat), .int .u64 (0 : Nat), .string (⟨#[]⟩ : ByteArray), .int .i64 0, .int .i64 0]) (vs := [.int .u64 (x34_.id : Nat), .int .u64 (x34_.session : Nat), .string x34_.key, .int .i64 x34_.amount, .int .i64 x34_.until_]) 7 rfl rfl rfl (by kernel_rfl) (allc_cons rfl (allc_cons rfl (allc_cons rfl (allc_cons rfl (allc_cons rfl allc_nil))))) (Nat.le_of_ble_eq_true rfl) ?_
            refine l_as rfl ?_
            refine l_end ?_
            refine c_reg ?_
            refine l_mv rfl ?_
            refine l_fld (o := 4) rfl (by kernel_rfl) rfl ?_
            refine l_ldo 4 (v := .int .u64 (a.session : Nat)) rfl rfl rfl (by kernel_rfl) rfl ?_
            refine l_fld (o := 5) rfl (by kernel_rfl) rfl ?_
            refine l_ldo 4 (v := .int .u64 (a.id : Nat)) rfl rfl rfl (by kernel_rfl) rfl ?_
            refine l_call (by kernel_rfl) rfl rfl (fun w' hw => ?_)
            refine (rback_s wb now2 cnt2 bv lv bs2 ls2 a.session a.id w' (by first | assumption | omega | (simp <;> omega) | (constructor <;> (first | omega | (simp only [LenOk]; omega) | (simp <;> omega)))) (hw.give [1, 3] rfl (by decide))).mono ?_
            rintro _ w1 ⟨x37_, e38_, lv'39_, ls'40_, rfl, hf20_5, hO⟩
            refine (?_ : CL _ _ _ _ _ _ (Own w (fps [Res.row b 58 [.map (some bm), .map (some lm), .int .i64 now, .int .u64 (cnt : Nat)], Res.mp Value.string ekI bm kb, Res.mp ekU leaV lm kl, Res.row wb 30 [.int .i64 now2, .int .u64 (cnt2 : Nat), bv, lv], Res.vec 62 2 bv bs2.length (bs2.flatMap BudD.cells), Res.vec 49 5 lv ls2.length (ls2.flatMap LeaD.cells)]) [Res.mp Value.string ekI bm kb, Res.vec 62 2 bv bs2.length (bs2.flatMap BudD.cells), Res.row b5 33 (QActD.cells a), Res.row b 58 [.map (some bm), .map (some lm), .int .i64 now, .int .u64 (cnt : Nat)], Res.mp ekU leaV lm kl'36_, Res.row b23 49 (LeaD.cells x34_), Res.row wb 30 [.int .i64 now2, .int .u64 (cnt2 : Nat), bv, lv'39_], Res.vec 49 5 lv'39_ ls'40_.length (ls'40_.flatMap LeaD.cells)])) w1 (hw.frameL [1, 3] rfl hO)
            refine l_mv rfl ?_
            refine l_ext (vs := [.agg (LeaD.cells x37_).toArray, .int .i64 e38_]) rfl rfl rfl ?_
            refine l_ext (vs := [.agg (LeaD.cells x37_).toArray, .int .i64 e38_]) rfl rfl rfl ?_
            refine l_new (v := .agg #[.int .u64 (0 : Nat), .int .u64 (0 : Nat), .string (⟨#[]⟩ : ByteArray), .int .i64 0, .int .i64 0]) (by kernel_rfl) rfl (fun b25 => ?_)
            refine l_stN (cs := [.int .u64 (0 : Nat), .int .u64 (0 : Nat), .string (⟨#[]⟩ : ByteArray), .int .i64 0, .int .i64 0]) (vs := [.int .u64 (x37_.id : Nat), .int .u64 (x37_.session : Nat), .string x37_.key, .int .i64 x37_.amount, .int .i64 x37_.until_]) 8 rfl rfl rfl (by kernel_rfl) (allc_cons rfl (allc_cons rfl (allc_cons rfl (allc_cons rfl (allc_cons rfl allc_nil))))) (Nat.le_of_ble_eq_true rfl) ?_
            refine l_as rfl ?_
            refine l_end ?_
            refine c_reg ?_
            refine l_ldr (cs := (LeaD.cells x34_)) 5 rfl rfl (by kernel_rfl) rfl ?_
            refine l_ldr (cs := (LeaD.cells x37_)) 8 rfl rfl (by kernel_rfl) rfl ?_
            refine l_val rfl (v_stp (LeaDEq x34_ x37_) (by kernel_rfl) (by kernel_rfl) rfl rfl rfl rfl) ?_
            refine l_mv rfl ?_
            refine l_band (q := x34_ = x37_) 3 3 [179, 178, 177] (e35_ = e38_) rfl rfl rfl rfl rfl rfl trivial rfl (fun h21_3 => ?_) (fun g21_7 => ?_)
            ·
              refine l_on rfl (gT h21_3) ?_
              refine l_mv rfl ?_
              refine l_on rfl (gT h21_3) ?_
              refine l_mv rfl ?_
              refine l_on rfl (gT h21_3) ?_
              refine l_eq rfl rfl rfl ?_
              exact l_nil (fun w' hw => ⟨(by repeat (first | exact Out.refl _ _ | refine Out.upd rfl ?_ | refine Out.msk rfl ?_)), rfl, hw⟩)
            refine l_as rfl ?_
            refine l_end ?_
            exact c_ret (ret1 (v := .bool (decide ((x34_ = x37_) ∧ (e35_ = e38_)))) rfl rfl (fun w' hw => ⟨now, cnt, kb, kl'36_, bs, (back_ex ho hr hf19_5).choose, _, rfl, (back_ex ho hr hf19_5).choose_spec.2, (back_ex ho hr hf19_5).choose_spec.1, Nat.le_succ _, hw.sel [3, 0, 4] rfl (by decide)⟩))
          ·
            refine c_seq ?_
            refine c_reg ?_
            refine l_eq rfl rfl rfl ?_
            refine l_as rfl ?_
            refine l_end ?_
            refine c_dec rfl (fun c6 => ?_) (fun c6 => ?_)
            ·
              refine c_skipC ?_
              refine c_dec rfl (fun c7 => ?_) (fun c7 => ?_)
              ·
                refine c_reg ?_
                refine l_as rfl ?_
                refine l_end ?_
                exact c_ret (ret1 (v := .bool true) rfl rfl (fun w' hw => ⟨now, cnt, kb, kl, bs, ls, _, rfl, ho, hr, Nat.le_succ _, hw.sel [0, 1, 2] rfl (by decide)⟩))
              ·
                refine c_skipC ?_
                refine c_reg ?_
                refine l_mv rfl ?_
                refine l_fld (o := 1) rfl (by kernel_rfl) rfl ?_
                refine l_ldo 6 (v := .string a.key) rfl rfl rfl (by kernel_rfl) rfl ?_
                refine l_call (by kernel_rfl) rfl rfl (fun w' hw => ?_)
                refine (tlent_s b bm lm now cnt kb kl a.key w' (hw.give [0, 1, 2] rfl (by decide))).mono ?_
                rintro _ w1 ⟨n41_, rfl, hf25_3, hO⟩
                refine (?_ : CL _ _ _ _ _ _ (Own w (fps [Res.row b 58 [.map (some bm), .map (some lm), .int .i64 now, .int .u64 (cnt : Nat)], Res.mp Value.string ekI bm kb, Res.mp ekU leaV lm kl, Res.row wb 30 [.int .i64 now2, .int .u64 (cnt2 : Nat), bv, lv], Res.vec 62 2 bv bs2.length (bs2.flatMap BudD.cells), Res.vec 49 5 lv ls2.length (ls2.flatMap LeaD.cells)]) [Res.row wb 30 [.int .i64 now2, .int .u64 (cnt2 : Nat), bv, lv], Res.vec 62 2 bv bs2.length (bs2.flatMap BudD.cells), Res.vec 49 5 lv ls2.length (ls2.flatMap LeaD.cells), Res.row b5 33 (QActD.cells a), Res.row b 58 [.map (some bm), .map (some lm), .int .i64 now, .int .u64 (cnt : Nat)], Res.mp Value.string ekI bm kb, Res.mp ekU leaV lm kl])) w1 (hw.frameL [0, 1, 2] rfl hO)
                refine l_mv rfl ?_
                refine l_ext (vs := [.int .i64 ((getA a.key kb).getD 0), .int .i64 n41_]) rfl rfl rfl ?_
                refine l_ext (vs := [.int .i64 ((getA a.key kb).getD 0), .int .i64 n41_]) rfl rfl rfl ?_
                refine l_as rfl ?_
                refine l_as rfl ?_
                refine l_end ?_
                refine c_reg ?_
                refine l_mv rfl ?_
                refine l_fld (o := 1) rfl (by kernel_rfl) rfl ?_
                refine l_ldo 3 (v := .string a.key) rfl rfl rfl (by kernel_rfl) rfl ?_
                refine l_call (by kernel_rfl) rfl rfl (fun w' hw => ?_)
                refine (rlent_s wb now2 cnt2 bv lv bs2 ls2 a.key w' (by first | assumption | omega | (simp <;> omega) | (constructor <;> (first | omega | (simp only [LenOk]; omega) | (simp <;> omega)))) (hw.give [0, 1, 2] rfl (by decide))).mono ?_
                rintro _ w1 ⟨rfl, hO⟩
                refine (?_ : CL _ _ _ _ _ _ (Own w (fps [Res.row b 58 [.map (some bm), .map (some lm), .int .i64 now, .int .u64 (cnt : Nat)], Res.mp Value.string ekI bm kb, Res.mp ekU leaV lm kl, Res.row wb 30 [.int .i64 now2, .int .u64 (cnt2 : Nat), bv, lv], Res.vec 62 2 bv bs2.length (bs2.flatMap BudD.cells), Res.vec 49 5 lv ls2.length (ls2.flatMap LeaD.cells)]) [Res.row b5 33 (QActD.cells a), Res.row b 58 [.map (some bm), .map (some lm), .int .i64 now, .int .u64 (cnt : Nat)], Res.mp Value.string ekI bm kb, Res.mp ekU leaV lm kl, Res.row wb 30 [.int .i64 now2, .int .u64 (cnt2 : Nat), bv, lv], Res.vec 62 2 bv bs2.length (bs2.flatMap BudD.cells), Res.vec 49 5 lv ls2.length (ls2.flatMap LeaD.cells)])) w1 (hw.frameL [0, 1, 2] rfl hO)
                refine l_mv rfl ?_
                refine l_ext (vs := [.int .i64 (budOf a.key bs2), .int .i64 (lentW a.key ls2)]) rfl rfl rfl ?_
                refine l_ext (vs := [.int .i64 (budOf a.key bs2), .int .i64 (lentW a.key ls2)]) rfl rfl rfl ?_
                refine l_as rfl ?_
                refine l_as rfl ?_
                refine l_end ?_
                refine c_reg ?_
                refine l_mv rfl ?_
                refine l_mv rfl ?_
                refine l_eq rfl rfl rfl ?_
                refine l_mv rfl ?_
                refine l_band (q := ((getA a.key kb).getD 0) = (budOf a.key bs2)) 3 3 [204, 203, 202] (n41_ = (lentW a.key ls2)) rfl rfl rfl rfl rfl rfl trivial rfl (fun h27_3 => ?_) (fun g27_7 => ?_)
                ·
                  refine l_on rfl (gT h27_3) ?_
                  refine l_mv rfl ?_
                  refine l_on rfl (gT h27_3) ?_
                  refine l_mv rfl ?_
                  refine l_on rfl (gT h27_3) ?_
                  refine l_eq rfl rfl rfl ?_
                  exact l_nil (fun w' hw => ⟨(by repeat (first | exact Out.refl _ _ | refine Out.upd rfl ?_ | refine Out.msk rfl ?_)), rfl, hw⟩)
                refine l_as rfl ?_
                refine l_end ?_
                exact c_ret (ret1 (v := .bool (decide ((((getA a.key kb).getD 0) = (budOf a.key bs2)) ∧ (n41_ = (lentW a.key ls2))))) rfl rfl (fun w' hw => ⟨now, cnt, kb, kl, bs, ls, _, rfl, ho, hr, Nat.le_succ _, hw.sel [1, 2, 3] rfl (by decide)⟩))
            ·
              refine c_last ?_
              refine l_eq rfl rfl rfl ?_
              refine l_as rfl ?_
              refine l_end ?_
              refine c_dec rfl (fun c8 => ?_) (fun c8 => ?_)
              ·
                refine c_reg ?_
                refine l_as rfl ?_
                refine l_end ?_
                exact c_ret (ret1 (v := .bool true) rfl rfl (fun w' hw => ⟨now, cnt, kb, kl, bs, ls, _, rfl, ho, hr, Nat.le_succ _, hw.sel [0, 1, 2] rfl (by decide)⟩))
              ·
                refine c_skipC ?_
                refine c_reg ?_
                refine l_mv rfl ?_
                refine l_fld (o := 1) rfl (by kernel_rfl) rfl ?_
                refine l_ldo 6 (v := .string a.key) rfl rfl rfl (by kernel_rfl) rfl ?_
                refine l_call (by kernel_rfl) rfl rfl (fun w' hw => ?_)
                refine (tlent_s b bm lm now cnt kb kl a.key w' (hw.give [0, 1, 2] rfl (by decide))).mono ?_
                rintro _ w1 ⟨n42_, rfl, hf25_3, hO⟩
                refine (?_ : CL _ _ _ _ _ _ (Own w (fps [Res.row b 58 [.map (some bm), .map (some lm), .int .i64 now, .int .u64 (cnt : Nat)], Res.mp Value.string ekI bm kb, Res.mp ekU leaV lm kl, Res.row wb 30 [.int .i64 now2, .int .u64 (cnt2 : Nat), bv, lv], Res.vec 62 2 bv bs2.length (bs2.flatMap BudD.cells), Res.vec 49 5 lv ls2.length (ls2.flatMap LeaD.cells)]) [Res.row wb 30 [.int .i64 now2, .int .u64 (cnt2 : Nat), bv, lv], Res.vec 62 2 bv bs2.length (bs2.flatMap BudD.cells), Res.vec 49 5 lv ls2.length (ls2.flatMap LeaD.cells), Res.row b5 33 (QActD.cells a), Res.row b 58 [.map (some bm), .map (some lm), .int .i64 now, .int .u64 (cnt : Nat)], Res.mp Value.string ekI bm kb, Res.mp ekU leaV lm kl])) w1 (hw.frameL [0, 1, 2] rfl hO)
                refine l_mv rfl ?_
                refine l_ext (vs := [.int .i64 ((getA a.key kb).getD 0), .int .i64 n42_]) rfl rfl rfl ?_
                refine l_ext (vs := [.int .i64 ((getA a.key kb).getD 0), .int .i64 n42_]) rfl rfl rfl ?_
                refine l_as rfl ?_
                refine l_as rfl ?_
                refine l_end ?_
                refine c_reg ?_
                refine l_mv rfl ?_
                refine l_fld (o := 1) rfl (by kernel_rfl) rfl ?_
                refine l_ldo 3 (v := .string a.key) rfl rfl rfl (by kernel_rfl) rfl ?_
                refine l_call (by kernel_rfl) rfl rfl (fun w' hw => ?_)
                refine (rlent_s wb now2 cnt2 bv lv bs2 ls2 a.key w' (by first | assumption | omega | (simp <;> omega) | (constructor <;> (first | omega | (simp only [LenOk]; omega) | (simp <;> omega)))) (hw.give [0, 1, 2] rfl (by decide))).mono ?_
                rintro _ w1 ⟨rfl, hO⟩
                refine (?_ : CL _ _ _ _ _ _ (Own w (fps [Res.row b 58 [.map (some bm), .map (some lm), .int .i64 now, .int .u64 (cnt : Nat)], Res.mp Value.string ekI bm kb, Res.mp ekU leaV lm kl, Res.row wb 30 [.int .i64 now2, .int .u64 (cnt2 : Nat), bv, lv], Res.vec 62 2 bv bs2.length (bs2.flatMap BudD.cells), Res.vec 49 5 lv ls2.length (ls2.flatMap LeaD.cells)]) [Res.row b5 33 (QActD.cells a), Res.row b 58 [.map (some bm), .map (some lm), .int .i64 now, .int .u64 (cnt : Nat)], Res.mp Value.string ekI bm kb, Res.mp ekU leaV lm kl, Res.row wb 30 [.int .i64 now2, .int .u64 (cnt2 : Nat), bv, lv], Res.vec 62 2 bv bs2.length (bs2.flatMap BudD.cells), Res.vec 49 5 lv ls2.length (ls2.flatMap LeaD.cells)])) w1 (hw.frameL [0, 1, 2] rfl hO)
                refine l_mv rfl ?_
                refine l_ext (vs := [.int .i64 (budOf a.key bs2), .int .i64 (lentW a.key ls2)]) rfl rfl rfl ?_
                refine l_ext (vs := [.int .i64 (budOf a.key bs2), .int .i64 (lentW a.key ls2)]) rfl rfl rfl ?_
                refine l_as rfl ?_
                refine l_as rfl ?_
                refine l_end ?_
                refine c_reg ?_
                refine l_mv rfl ?_
                refine l_mv rfl ?_
                refine l_eq rfl rfl rfl ?_
                refine l_mv rfl ?_
                refine l_band (q := ((getA a.key kb).getD 0) = (budOf a.key bs2)) 3 3 [204, 203, 202] (n42_ = (lentW a.key ls2)) rfl rfl rfl rfl rfl rfl trivial rfl (fun h27_3 => ?_) (fun g27_7 => ?_)
                ·
                  refine l_on rfl (gT h27_3) ?_
                  refine l_mv rfl ?_
                  refine l_on rfl (gT h27_3) ?_
                  refine l_mv rfl ?_
                  refine l_on rfl (gT h27_3) ?_
                  refine l_eq rfl rfl rfl ?_
                  exact l_nil (fun w' hw => ⟨(by repeat (first | exact Out.refl _ _ | refine Out.upd rfl ?_ | refine Out.msk rfl ?_)), rfl, hw⟩)
                refine l_as rfl ?_
                refine l_end ?_
                exact c_ret (ret1 (v := .bool (decide ((((getA a.key kb).getD 0) = (budOf a.key bs2)) ∧ (n42_ = (lentW a.key ls2))))) rfl rfl (fun w' hw => ⟨now, cnt, kb, kl, bs, ls, _, rfl, ho, hr, Nat.le_succ _, hw.sel [1, 2, 3] rfl (by decide)⟩))
/-- Nothing there: all is refused. -/
theorem passN_s (n : Int) (w : World) : Rets Tryz.prog 15 #[.pointer none, .int .i64 n] w fun u_ w' => u_ = .tuple #[.slice none 0 0, .int .i64 1] ∧ Own w [] [] w' := by
  refine fn_enter (args := [.pointer none, .int .i64 n]) Tryz.func15 rfl Tryz.ntmps15 rfl (Own.start w) ?_
  refine c_reg ?_
  refine l_as rfl ?_
  refine l_as rfl ?_
  refine l_end ?_
  refine c_seq ?_
  refine c_block ?_
  refine c_reg ?_
  refine l_mv rfl ?_
  refine l_nilp (by kernel_rfl) rfl rfl rfl ?_
  refine l_mv rfl ?_
  refine l_off rfl rfl rfl rfl ?_
  refine l_off rfl rfl rfl rfl ?_
  refine l_pickT rfl rfl ?_
  refine l_mv rfl ?_
  refine l_off rfl rfl rfl rfl ?_
  refine l_off rfl rfl rfl rfl ?_
  refine l_pickT rfl rfl ?_
  refine l_as rfl ?_
  refine l_end ?_
  refine c_yes rfl ?_
  refine c_reg ?_
  refine l_as rfl ?_
  refine l_as rfl ?_
  refine l_end ?_
  exact c_ret (ret2 (v := .slice none 0 0) (v' := .int .i64 1) rfl rfl rfl (fun w' hw => ⟨rfl, hw.drop⟩))
theorem setN_s (k : ByteArray) (a : Int) (w : World) : Rets Tryz.prog 16 #[.pointer none, .string k, .int .i64 a] w fun u_ w' => u_ = .tuple #[.int .i64 0, .int .i64 1] ∧ Own w [] [] w' := by
  refine fn_enter (args := [.pointer none, .string k, .int .i64 a]) Tryz.func16 rfl Tryz.ntmps16 rfl (Own.start w) ?_
  refine c_reg ?_
  refine l_as rfl ?_
  refine l_as rfl ?_
  refine l_end ?_
  refine c_seq ?_
  refine c_reg ?_
  refine l_mv rfl ?_
  refine l_nilp (by kernel_rfl) rfl rfl rfl ?_
  refine l_mv rfl ?_
  refine l_off rfl rfl rfl rfl ?_
  refine l_off rfl rfl rfl rfl ?_
  refine l_off rfl rfl rfl rfl ?_
  refine l_pickT rfl rfl ?_
  refine l_mv rfl ?_
  refine l_off rfl rfl rfl rfl ?_
  refine l_off rfl rfl rfl rfl ?_
  refine l_pickT rfl rfl ?_
  refine l_end ?_
  refine c_yes rfl ?_
  refine c_reg ?_
  refine l_as rfl ?_
  refine l_as rfl ?_
  refine l_end ?_
  exact c_ret (ret2 (v := .int .i64 0) (v' := .int .i64 1) rfl rfl rfl (fun w' hw => ⟨rfl, hw.drop⟩))
theorem lendN_s (s : Nat) (k : ByteArray) (a sp : Int) (w : World) : Rets Tryz.prog 17 #[.pointer none, .int .u64 (s : Nat), .string k, .int .i64 a, .int .i64 sp] w fun u_ w' => u_ = .tuple #[.agg (LeaD.cells LeaD.zero).toArray, .int .i64 1] ∧ Own w [] [] w' := by
  refine fn_enter (args := [.pointer none, .int .u64 (s : Nat), .string k, .int .i64 a, .int .i64 sp]) Tryz.func17 rfl Tryz.ntmps17 rfl (Own.start w) ?_
  refine c_reg ?_
  refine l_new (v := .agg #[.int .u64 (0 : Nat), .int .u64 (0 : Nat), .string (⟨#[]⟩ : ByteArray), .int .i64 0, .int .i64 0]) (by kernel_rfl) rfl (fun b10 => ?_)
  refine l_as rfl ?_
  refine l_end ?_
  refine c_seq ?_
  refine c_reg ?_
  refine l_mv rfl ?_
  refine l_nilp (by kernel_rfl) rfl rfl rfl ?_
  refine l_mv rfl ?_
  refine l_off rfl rfl rfl rfl ?_
  refine l_off rfl rfl rfl rfl ?_
  refine l_pickT rfl rfl ?_
  refine l_mv rfl ?_
  refine l_off rfl rfl rfl rfl ?_
  refine l_off rfl rfl rfl rfl ?_
  refine l_off rfl rfl rfl rfl ?_
  refine l_pickT rfl rfl ?_
  refine l_mv rfl ?_
  refine l_off rfl rfl rfl rfl ?_
  refine l_off rfl rfl rfl rfl ?_
  refine l_pickT rfl rfl ?_
  refine l_mv rfl ?_
  refine l_off rfl rfl rfl rfl ?_
  refine l_off rfl rfl rfl rfl ?_
  refine l_off rfl rfl rfl rfl ?_
  refine l_pickT rfl rfl ?_
  refine l_end ?_
  refine c_yes rfl ?_
  refine c_reg ?_
  refine l_bld (cs := [.int .u64 (0 : Nat), .int .u64 (0 : Nat), .string (⟨#[]⟩ : ByteArray), .int .i64 0, .int .i64 0]) (z := [.int .u64 (0 : Nat), .int .u64 (0 : Nat), .string (⟨#[]⟩ : ByteArray), .int .i64 0, .int .i64 0]) (pl := [(0, 1), (1, 1), (2, 1), (3, 1), (4, 1)]) (by kernel_rfl) (by kernel_rfl) rfl ?_
  refine l_stN (cs := [.int .u64 (0 : Nat), .int .u64 (0 : Nat), .string (⟨#[]⟩ : ByteArray), .int .i64 0, .int .i64 0]) (vs := [.int .u64 (0 : Nat), .int .u64 (0 : Nat), .string (⟨#[]⟩ : ByteArray), .int .i64 0, .int .i64 0]) 0 rfl rfl rfl (by kernel_rfl) (allc_cons rfl (allc_cons rfl (allc_cons rfl (allc_cons rfl (allc_cons rfl allc_nil))))) (Nat.le_of_ble_eq_true rfl) ?_
  refine l_as rfl ?_
  refine l_end ?_
  exact c_ret (retc2 (cs := [.int .u64 (0 : Nat), .int .u64 (0 : Nat), .string (⟨#[]⟩ : ByteArray), .int .i64 0, .int .i64 0]) (v := .int .i64 1) rfl rfl rfl (by kernel_rfl) (Own.rowCells (i := 0) rfl) (fun w' hw => ⟨rfl, hw.drop⟩))
theorem renewN_s (s i : Nat) (sp : Int) (w : World) : Rets Tryz.prog 18 #[.pointer none, .int .u64 (s : Nat), .int .u64 (i : Nat), .int .i64 sp] w fun u_ w' => u_ = .tuple #[.agg (LeaD.cells LeaD.zero).toArray, .int .i64 1] ∧ Own w [] [] w' := by
  refine fn_enter (args := [.pointer none, .int .u64 (s : Nat), .int .u64 (i : Nat), .int .i64 sp]) Tryz.func18 rfl Tryz.ntmps18 rfl (Own.start w) ?_
  refine c_reg ?_
  refine l_new (v := .agg #[.int .u64 (0 : Nat), .int .u64 (0 : Nat), .string (⟨#[]⟩ : ByteArray), .int .i64 0, .int .i64 0]) (by kernel_rfl) rfl (fun b8 => ?_)
  refine l_as rfl ?_
  refine l_end ?_
  refine c_seq ?_
  refine c_reg ?_
  refine l_mv rfl ?_
  refine l_nilp (by kernel_rfl) rfl rfl rfl ?_
  refine l_mv rfl ?_
  refine l_off rfl rfl rfl rfl ?_
  refine l_off rfl rfl rfl rfl ?_
  refine l_off rfl rfl rfl rfl ?_
  refine l_pickT rfl rfl ?_
  refine l_end ?_
  refine c_yes rfl ?_
  refine c_reg ?_
  refine l_bld (cs := [.int .u64 (0 : Nat), .int .u64 (0 : Nat), .string (⟨#[]⟩ : ByteArray), .int .i64 0, .int .i64 0]) (z := [.int .u64 (0 : Nat), .int .u64 (0 : Nat), .string (⟨#[]⟩ : ByteArray), .int .i64 0, .int .i64 0]) (pl := [(0, 1), (1, 1), (2, 1), (3, 1), (4, 1)]) (by kernel_rfl) (by kernel_rfl) rfl ?_
  refine l_stN (cs := [.int .u64 (0 : Nat), .int .u64 (0 : Nat), .string (⟨#[]⟩ : ByteArray), .int .i64 0, .int .i64 0]) (vs := [.int .u64 (0 : Nat), .int .u64 (0 : Nat), .string (⟨#[]⟩ : ByteArray), .int .i64 0, .int .i64 0]) 0 rfl rfl rfl (by kernel_rfl) (allc_cons rfl (allc_cons rfl (allc_cons rfl (allc_cons rfl (allc_cons rfl allc_nil))))) (Nat.le_of_ble_eq_true rfl) ?_
  refine l_as rfl ?_
  refine l_end ?_
  exact c_ret (retc2 (cs := [.int .u64 (0 : Nat), .int .u64 (0 : Nat), .string (⟨#[]⟩ : ByteArray), .int .i64 0, .int .i64 0]) (v := .int .i64 1) rfl rfl rfl (by kernel_rfl) (Own.rowCells (i := 0) rfl) (fun w' hw => ⟨rfl, hw.drop⟩))
theorem backN_s (s i : Nat) (w : World) : Rets Tryz.prog 19 #[.pointer none, .int .u64 (s : Nat), .int .u64 (i : Nat)] w fun u_ w' => u_ = .tuple #[.agg (LeaD.cells LeaD.zero).toArray, .int .i64 1] ∧ Own w [] [] w' := by
  refine fn_enter (args := [.pointer none, .int .u64 (s : Nat), .int .u64 (i : Nat)]) Tryz.func19 rfl Tryz.ntmps19 rfl (Own.start w) ?_
  refine c_reg ?_
  refine l_new (v := .agg #[.int .u64 (0 : Nat), .int .u64 (0 : Nat), .string (⟨#[]⟩ : ByteArray), .int .i64 0, .int .i64 0]) (by kernel_rfl) rfl (fun b6 => ?_)
  refine l_as rfl ?_
  refine l_end ?_
  refine c_seq ?_
  refine c_reg ?_
  refine l_mv rfl ?_
  refine l_nilp (by kernel_rfl) rfl rfl rfl ?_
  refine l_end ?_
  refine c_yes rfl ?_
  refine c_reg ?_
  refine l_bld (cs := [.int .u64 (0 : Nat), .int .u64 (0 : Nat), .string (⟨#[]⟩ : ByteArray), .int .i64 0, .int .i64 0]) (z := [.int .u64 (0 : Nat), .int .u64 (0 : Nat), .string (⟨#[]⟩ : ByteArray), .int .i64 0, .int .i64 0]) (pl := [(0, 1), (1, 1), (2, 1), (3, 1), (4, 1)]) (by kernel_rfl) (by kernel_rfl) rfl ?_
  refine l_stN (cs := [.int .u64 (0 : Nat), .int .u64 (0 : Nat), .string (⟨#[]⟩ : ByteArray), .int .i64 0, .int .i64 0]) (vs := [.int .u64 (0 : Nat), .int .u64 (0 : Nat), .string (⟨#[]⟩ : ByteArray), .int .i64 0, .int .i64 0]) 0 rfl rfl rfl (by kernel_rfl) (allc_cons rfl (allc_cons rfl (allc_cons rfl (allc_cons rfl (allc_cons rfl allc_nil))))) (Nat.le_of_ble_eq_true rfl) ?_
  refine l_as rfl ?_
  refine l_end ?_
  exact c_ret (retc2 (cs := [.int .u64 (0 : Nat), .int .u64 (0 : Nat), .string (⟨#[]⟩ : ByteArray), .int .i64 0, .int .i64 0]) (v := .int .i64 1) rfl rfl rfl (by kernel_rfl) (Own.rowCells (i := 0) rfl) (fun w' hw => ⟨rfl, hw.drop⟩))
theorem loadN_s (now : Int) (last : Nat) (u v : Value) (w : World) : Rets Tryz.prog 8 #[.pointer none, .int .i64 now, .int .u64 (last : Nat), u, v] w fun u_ w' => u_ = .int .i64 1 ∧ Own w [] [] w' := by
  refine fn_enter (args := [.pointer none, .int .i64 now, .int .u64 (last : Nat), u, v]) Tryz.func8 rfl Tryz.ntmps8 rfl (Own.start w) ?_
  refine c_reg ?_
  refine l_as rfl ?_
  refine l_end ?_
  refine c_seq ?_
  refine c_reg ?_
  refine l_mv rfl ?_
  refine l_nilp (by kernel_rfl) rfl rfl rfl ?_
  refine l_end ?_
  refine c_yes rfl ?_
  refine c_reg ?_
  refine l_as rfl ?_
  refine l_end ?_
  exact c_ret (ret1 (v := .int .i64 1) rfl rfl (fun w' hw => ⟨rfl, hw.drop⟩))
theorem timeN_s (w : World) : Rets Tryz.prog 9 #[.pointer none] w fun u_ w' => u_ = .int .i64 0 ∧ Own w [] [] w' := by
  refine fn_enter (args := [.pointer none]) Tryz.func9 rfl Tryz.ntmps9 rfl (Own.start w) ?_
  refine c_reg ?_
  refine l_as rfl ?_
  refine l_end ?_
  refine c_seq ?_
  refine c_reg ?_
  refine l_mv rfl ?_
  refine l_nilp (by kernel_rfl) rfl rfl rfl ?_
  refine l_end ?_
  refine c_yes rfl ?_
  refine c_reg ?_
  refine l_as rfl ?_
  refine l_end ?_
  exact c_ret (ret1 (v := .int .i64 0) rfl rfl (fun w' hw => ⟨rfl, hw.drop⟩))
theorem lastN_s (w : World) : Rets Tryz.prog 10 #[.pointer none] w fun u_ w' => u_ = .int .u64 (0 : Nat) ∧ Own w [] [] w' := by
  refine fn_enter (args := [.pointer none]) Tryz.func10 rfl Tryz.ntmps10 rfl (Own.start w) ?_
  refine c_reg ?_
  refine l_as rfl ?_
  refine l_end ?_
  refine c_seq ?_
  refine c_reg ?_
  refine l_mv rfl ?_
  refine l_nilp (by kernel_rfl) rfl rfl rfl ?_
  refine l_end ?_
  refine c_yes rfl ?_
  refine c_reg ?_
  refine l_as rfl ?_
  refine l_end ?_
  exact c_ret (ret1 (v := .int .u64 (0 : Nat)) rfl rfl (fun w' hw => ⟨rfl, hw.drop⟩))
theorem leasesN_s (w : World) : Rets Tryz.prog 12 #[.pointer none] w fun u_ w' => u_ = .slice none 0 0 ∧ Own w [] [] w' := by
  refine fn_enter (args := [.pointer none]) Tryz.func12 rfl Tryz.ntmps12 rfl (Own.start w) ?_
  refine c_reg ?_
  refine l_as rfl ?_
  refine l_end ?_
  refine c_seq ?_
  refine c_reg ?_
  refine l_mv rfl ?_
  refine l_nilp (by kernel_rfl) rfl rfl rfl ?_
  refine l_end ?_
  refine c_yes rfl ?_
  refine c_reg ?_
  refine l_as rfl ?_
  refine l_end ?_
  exact c_ret (ret1 (v := .slice none 0 0) rfl rfl (fun w' hw => ⟨rfl, hw.drop⟩))
theorem budgetsN_s (w : World) : Rets Tryz.prog 11 #[.pointer none] w fun u_ w' => u_ = .slice none 0 0 ∧ Own w [] [] w' := by
  refine fn_enter (args := [.pointer none]) Tryz.func11 rfl Tryz.ntmps11 rfl (Own.start w) ?_
  refine c_reg ?_
  refine l_as rfl ?_
  refine l_end ?_
  refine c_seq ?_
  refine c_reg ?_
  refine l_mv rfl ?_
  refine l_nilp (by kernel_rfl) rfl rfl rfl ?_
  refine l_end ?_
  refine c_yes rfl ?_
  refine c_reg ?_
  refine l_as rfl ?_
  refine l_end ?_
  exact c_ret (ret1 (v := .slice none 0 0) rfl rfl (fun w' hw => ⟨rfl, hw.drop⟩))
theorem copyN_s (w : World) : Rets Tryz.prog 7 #[.pointer none] w fun u_ w' => u_ = .pointer none ∧ Own w [] [] w' := by
  refine fn_enter (args := [.pointer none]) Tryz.func7 rfl Tryz.ntmps7 rfl (Own.start w) ?_
  refine c_reg ?_
  refine l_as rfl ?_
  refine l_end ?_
  refine c_seq ?_
  refine c_reg ?_
  refine l_mv rfl ?_
  refine l_nilp (by kernel_rfl) rfl rfl rfl ?_
  refine l_end ?_
  refine c_yes rfl ?_
  refine c_reg ?_
  refine l_as rfl ?_
  refine l_end ?_
  exact c_ret (ret1 (v := .pointer none) rfl rfl (fun w' hw => ⟨rfl, hw.drop⟩))
theorem quotaApart_s (v : Value) (acts : List QActD) (u : Value) (more : List QActD) (w : World) (hl : acts.length ≤ 100000000) (hwf : ∀ a ∈ acts, a.wf) (hl2 : more.length ≤ 100000000) (hwf2 : ∀ a ∈ more, a.wf) (hv : Rd w [] (Res.sl v acts.length (acts.flatMap QActD.cells))) (hu : Rd w [] (Res.sl u more.length (more.flatMap QActD.cells))) : Rets Tryz.prog 4 #[v, u] w fun u_ w' => u_ = .bool true ∧ Own w [] [] w' := by
  refine fn_enter (args := [v, u]) Tryz.func4 rfl Tryz.ntmps4 rfl (Own.start w) ?_
  refine c_reg ?_
  refine l_as rfl ?_
  refine l_end ?_
  refine c_reg ?_
  refine l_call (by kernel_rfl) rfl rfl (fun w' hw => ?_)
  refine (new_s w').mono ?_
  rintro _ w1 ⟨b1_, bm2_, lm3_, rfl, hO⟩
  refine (?_ : CL _ _ _ _ _ _ (Own w [] [Res.row b1_ 58 [.map (some bm2_), .map (some lm3_), .int .i64 0, .int .u64 (0 : Nat)], Res.mp Value.string ekI bm2_ ([] : List (ByteArray × Int)), Res.mp ekU leaV lm3_ ([] : List (Nat × LeaD))])) w1 (hw.frame0 hO)
  refine l_bld (cs := [.int .i64 0, .int .u64 (0 : Nat), .slice none 0 0, .slice none 0 0]) (z := [.int .i64 0, .int .u64 (0 : Nat), .slice none 0 0, .slice none 0 0]) (pl := [(0, 1), (1, 1), (2, 1), (3, 1)]) (by kernel_rfl) (by kernel_rfl) rfl ?_
  refine l_box rfl rfl (fun b24 => ?_)
  refine l_as rfl ?_
  refine l_as rfl ?_
  refine l_end ?_
  refine c_seq ?_
  refine c_reg ?_
  refine l_as rfl ?_
  refine l_end ?_
  refine c_block ?_
  refine c_loop9 (fun (i : Nat) (now : Int) (cnt : Nat) (kb : List (ByteArray × Int)) (kl : List (Nat × LeaD)) (bv lv : Value) (bs : List BudD) (ls : List LeaD) => [(0, v), (1, u), (5, .pointer (some ⟨b1_, 0, none⟩)), (6, .pointer (some ⟨b24, 0, none⟩)), (7, .int .i64 (i : Nat))]) (fun (i : Nat) (now : Int) (cnt : Nat) (kb : List (ByteArray × Int)) (kl : List (Nat × LeaD)) (bv lv : Value) (bs : List BudD) (ls : List LeaD) => (i ≤ acts.length ∧ i ≤ 100) ∧ Grown i now cnt kb kl bs ls ∧ QSrt bs) (fun (i : Nat) (now : Int) (cnt : Nat) (kb : List (ByteArray × Int)) (kl : List (Nat × LeaD)) (bv lv : Value) (bs : List BudD) (ls : List LeaD) => [Res.row b1_ 58 [.map (some bm2_), .map (some lm3_), .int .i64 now, .int .u64 (cnt : Nat)], Res.mp Value.string ekI bm2_ kb, Res.mp ekU leaV lm3_ kl, Res.row b24 30 [.int .i64 now, .int .u64 (cnt : Nat), bv, lv], Res.vec 62 2 bv bs.length (bs.flatMap BudD.cells), Res.vec 49 5 lv ls.length (ls.flatMap LeaD.cells)]) (fun (i : Nat) (now : Int) (cnt : Nat) (kb : List (ByteArray × Int)) (kl : List (Nat × LeaD)) (bv lv : Value) (bs : List BudD) (ls : List LeaD) => acts.length - i) (fun w' hw => ⟨0, 0, 0, [], [], .slice none 0 0, .slice none 0 0, [], [], ⟨rfl, rfl, rfl, rfl, rfl, trivial⟩, ⟨by omega, ⟨QOk.start, QRel.start, by omega⟩, QSrt.start⟩, (own_nil (own_nil hw 62 2) 49 5)⟩) (fun i now cnt kb kl bv lv bs ls g hΦ => ?_)
  have hi := hΦ.1
  have ho := hΦ.2.1.ok
  have hr := hΦ.2.1.rel
  have hcn := hΦ.2.1.cnt
  have ht := ho.time
  have hs := hΦ.2.2
  refine c_seq ?_
  refine c_reg ?_
  refine l_mv rfl ?_
  refine l_mv rfl ?_
  refine l_lenS (len := acts.length) (cs := (acts.flatMap QActD.cells)) (by kernel_rfl) rfl (fun w' hw' => Own.rd hv hw') rfl ?_
  refine l_lss rfl rfl rfl ?_
  refine l_mv rfl ?_
  refine l_band (q := ((i : Nat) : Int) < ((acts.length : Nat) : Int)) 2 4 [31, 30] (((i : Nat) : Int) < 100) rfl rfl rfl rfl rfl rfl trivial rfl (fun h3_4 => ?_) (fun g3_7 => ?_)
  ·
    refine l_on rfl (gT h3_4) ?_
    refine l_mv rfl ?_
    refine l_on rfl (gT h3_4) ?_
    refine l_lss rfl rfl rfl ?_
    exact l_nil (fun w' hw => ⟨(by repeat (first | exact Out.refl _ _ | refine Out.upd rfl ?_ | refine Out.msk rfl ?_)), rfl, hw⟩)
  refine l_mv rfl ?_
  refine l_band (q := (((i : Nat) : Int) < ((acts.length : Nat) : Int)) ∧ (((i : Nat) : Int) < 100)) 2 8 [35, 34] (true = true) rfl rfl rfl rfl rfl rfl trivial rfl (fun h3_8 => ?_) (fun g3_11 => ?_)
  ·
    refine l_on rfl (gT h3_8) ?_
    refine l_mv rfl ?_
    refine l_on rfl (gT h3_8) ?_
    refine l_nilnp (by kernel_rfl) rfl rfl rfl ?_
    exact l_nil (fun w' hw => ⟨(by repeat (first | exact Out.refl _ _ | refine Out.upd rfl ?_ | refine Out.msk rfl ?_)), (bool_dec _), hw⟩)
  refine l_end ?_
  refine c_dec rfl (fun c1 => ?_) (fun c1 => ?_)
  ·
    refine c_skipC ?_
    refine c_seq ?_
    refine c_block ?_
    refine c_last ?_
    refine l_mv rfl ?_
    refine l_mv rfl ?_
    refine l_mv rfl ?_
    refine l_mv rfl ?_
    refine l_idxS (j := i) (sz := 6) (len := acts.length) (cs := (acts.flatMap QActD.cells)) rfl rfl (by kernel_rfl) (fun w' hw' => Own.rd hv hw') rfl (by omega) rfl ?_
    refine l_ldSN (v := v) (off := offV v + i * 6) (i * 6 + 0) (cs := (acts.flatMap QActD.cells)) (QActD.cells (nth acts i)) rfl (by omega) (fun w' hw' => Own.rd hv hw') (flat_atN (sz := 6) (fun _ => rfl) (nth_some (by omega)) (o := 0) (us := (QActD.cells (nth acts i))) (fun k u h => by rw [Nat.zero_add]; exact h)) (by kernel_rfl) rfl ?_
    refine l_call (by kernel_rfl) rfl rfl (fun w' hw => ?_)
    refine (qact_s b1_ bm2_ lm3_ b24 now cnt kb kl bv lv bs ls (nth acts i) w' ho hr (hwf _ (nth_mem (by omega))) (by omega) (hw.give [0, 1, 2, 3, 4, 5] rfl (by decide))).mono ?_
    rintro _ w1 ⟨now'4_, cnt'5_, kb'6_, kl'7_, bv'8_, lv'9_, bs'10_, ls'11_, rfl, hf5_6, hf5_6_1, hf5_6_2, hf5_6_3, hf5_6_4, hO⟩
    refine (?_ : CL _ _ _ _ _ _ (Own w [] [Res.row b1_ 58 [.map (some bm2_), .map (some lm3_), .int .i64 now'4_, .int .u64 (cnt'5_ : Nat)], Res.mp Value.string ekI bm2_ kb'6_, Res.mp ekU leaV lm3_ kl'7_, Res.row b24 30 [.int .i64 now'4_, .int .u64 (cnt'5_ : Nat), bv'8_, lv'9_], Res.vec 62 2 bv'8_ bs'10_.length (bs'10_.flatMap BudD.cells), Res.vec 49 5 lv'9_ ls'11_.length (ls'11_.flatMap LeaD.cells)])) w1 (hw.frameL [0, 1, 2, 3, 4, 5] rfl hO)
    refine l_end ?_
    refine c_last ?_
    refine l_mv rfl ?_
    refine l_add rfl rfl (wi64 (by omega)) rfl ?_
    refine l_as rfl ?_
    exact l_nil (fun w' hw => ⟨i + 1, now'4_, cnt'5_, kb'6_, kl'7_, bv'8_, lv'9_, bs'10_, ls'11_, ⟨rfl, rfl, rfl, rfl, rfl, trivial⟩, ⟨by omega, ⟨hf5_6, hf5_6_1, by have := hf5_6_2; omega⟩, hf5_6_4 hs⟩, hw, (by omega)⟩)
  ·
    refine c_exitC rfl ?_
    refine c_reg ?_
    refine l_mv rfl ?_
    refine l_call (by kernel_rfl) rfl rfl (fun w' hw => ?_)
    refine (copy_s b1_ bm2_ lm3_ now cnt kb kl w' (hw.give [0, 1, 2] rfl (by decide))).mono ?_
    rintro _ w1 ⟨b'12_, bm'13_, lm'14_, rfl, hO⟩
    refine (?_ : CL _ _ _ _ _ _ (Own w [] [Res.row b24 30 [.int .i64 now, .int .u64 (cnt : Nat), bv, lv], Res.vec 62 2 bv bs.length (bs.flatMap BudD.cells), Res.vec 49 5 lv ls.length (ls.flatMap LeaD.cells), Res.row b1_ 58 [.map (some bm2_), .map (some lm3_), .int .i64 now, .int .u64 (cnt : Nat)], Res.mp Value.string ekI bm2_ kb, Res.mp ekU leaV lm3_ kl, Res.row b'12_ 58 [.map (some bm'13_), .map (some lm'14_), .int .i64 now, .int .u64 (cnt : Nat)], Res.mp Value.string ekI bm'13_ kb, Res.mp ekU leaV lm'14_ kl])) w1 (hw.frameL [0, 1, 2] rfl hO)
    refine l_as rfl ?_
    refine l_end ?_
    refine c_seq ?_
    refine c_reg ?_
    refine l_as rfl ?_
    refine l_end ?_
    refine c_block ?_
    refine c_loop7 (fun (j : Nat) (nowC : Int) (cntC : Nat) (kbC : List (ByteArray × Int)) (klC : List (Nat × LeaD)) (bsC : List BudD) (lsC : List LeaD) => [(1, u), (5, .pointer (some ⟨b1_, 0, none⟩)), (6, .pointer (some ⟨b24, 0, none⟩)), (8, .pointer (some ⟨b'12_, 0, none⟩)), (9, .int .i64 (j : Nat))]) (fun (j : Nat) (nowC : Int) (cntC : Nat) (kbC : List (ByteArray × Int)) (klC : List (Nat × LeaD)) (bsC : List BudD) (lsC : List LeaD) => (j ≤ more.length ∧ j ≤ 100) ∧ QOk nowC cntC bsC lsC ∧ QRel kbC klC bsC lsC ∧ cntC ≤ 100 + j) (fun (j : Nat) (nowC : Int) (cntC : Nat) (kbC : List (ByteArray × Int)) (klC : List (Nat × LeaD)) (bsC : List BudD) (lsC : List LeaD) => [Res.row b24 30 [.int .i64 now, .int .u64 (cnt : Nat), bv, lv], Res.vec 62 2 bv bs.length (bs.flatMap BudD.cells), Res.vec 49 5 lv ls.length (ls.flatMap LeaD.cells), Res.row b1_ 58 [.map (some bm2_), .map (some lm3_), .int .i64 now, .int .u64 (cnt : Nat)], Res.mp Value.string ekI bm2_ kb, Res.mp ekU leaV lm3_ kl, Res.row b'12_ 58 [.map (some bm'13_), .map (some lm'14_), .int .i64 nowC, .int .u64 (cntC : Nat)], Res.mp Value.string ekI bm'13_ kbC, Res.mp ekU leaV lm'14_ klC]) (fun (j : Nat) (nowC : Int) (cntC : Nat) (kbC : List (ByteArray × Int)) (klC : List (Nat × LeaD)) (bsC : List BudD) (lsC : List LeaD) => more.length - j) (fun w' hw => ⟨0, now, cnt, kb, kl, bs, ls, ⟨rfl, rfl, rfl, rfl, rfl, trivial⟩, ⟨by omega, ho, hr, by omega⟩, hw⟩) (fun j nowC cntC kbC klC bsC lsC g hΦ => ?_)
    have hj := hΦ.1
    have hoC := hΦ.2.1
    have hrC := hΦ.2.2.1
    have hcC := hΦ.2.2.2
    refine c_seq ?_
    refine c_reg ?_
    refine l_mv rfl ?_
    refine l_mv rfl ?_
    refine l_lenS (len := more.length) (cs := (more.flatMap QActD.cells)) (by kernel_rfl) rfl (fun w' hw' => Own.rd hu hw') rfl ?_
    refine l_lss rfl rfl rfl ?_
    refine l_mv rfl ?_
    refine l_band (q := ((j : Nat) : Int) < ((more.length : Nat) : Int)) 2 4 [54, 53] (((j : Nat) : Int) < 100) rfl rfl rfl rfl rfl rfl trivial rfl (fun h8_4 => ?_) (fun g8_7 => ?_)
    ·
      refine l_on rfl (gT h8_4) ?_
      refine l_mv rfl ?_
      refine l_on rfl (gT h8_4) ?_
      refine l_lss rfl rfl rfl ?_
      exact l_nil (fun w' hw => ⟨(by repeat (first | exact Out.refl _ _ | refine Out.upd rfl ?_ | refine Out.msk rfl ?_)), rfl, hw⟩)
    refine l_mv rfl ?_
    refine l_band (q := (((j : Nat) : Int) < ((more.length : Nat) : Int)) ∧ (((j : Nat) : Int) < 100)) 2 8 [58, 57] (true = true) rfl rfl rfl rfl rfl rfl trivial rfl (fun h8_8 => ?_) (fun g8_11 => ?_)
    ·
      refine l_on rfl (gT h8_8) ?_
      refine l_mv rfl ?_
      refine l_on rfl (gT h8_8) ?_
      refine l_nilnp (by kernel_rfl) rfl rfl rfl ?_
      exact l_nil (fun w' hw => ⟨(by repeat (first | exact Out.refl _ _ | refine Out.upd rfl ?_ | refine Out.msk rfl ?_)), (bool_dec _), hw⟩)
    refine l_end ?_
    refine c_dec rfl (fun c2 => ?_) (fun c2 => ?_)
    ·
      refine c_skipC ?_
      refine c_seq ?_
      refine c_block ?_
      refine c_last ?_
      refine l_mv rfl ?_
      refine l_bld (cs := [.int .i64 0, .int .u64 (0 : Nat), .slice none 0 0, .slice none 0 0]) (z := [.int .i64 0, .int .u64 (0 : Nat), .slice none 0 0, .slice none 0 0]) (pl := [(0, 1), (1, 1), (2, 1), (3, 1)]) (by kernel_rfl) (by kernel_rfl) rfl ?_
      refine l_box rfl rfl (fun b64 => ?_)
      refine l_mv rfl ?_
      refine l_mv rfl ?_
      refine l_idxS (j := j) (sz := 6) (len := more.length) (cs := (more.flatMap QActD.cells)) rfl rfl (by kernel_rfl) (fun w' hw' => Own.rd hu hw') rfl (by omega) rfl ?_
      refine l_ldSN (v := u) (off := offV u + j * 6) (j * 6 + 0) (cs := (more.flatMap QActD.cells)) (QActD.cells (nth more j)) rfl (by omega) (fun w' hw' => Own.rd hu hw') (flat_atN (sz := 6) (fun _ => rfl) (nth_some (by omega)) (o := 0) (us := (QActD.cells (nth more j))) (fun k u h => by rw [Nat.zero_add]; exact h)) (by kernel_rfl) rfl ?_
      refine l_addnil 62 2 ?_
      refine l_addnil 49 5 ?_
      refine l_call (by kernel_rfl) rfl rfl (fun w' hw => ?_)
      refine (qactU_s b'12_ bm'13_ lm'14_ b64 nowC 0 cntC 0 kbC klC (.slice none 0 0) (.slice none 0 0) _ [] _ [] (nth more j) w' hoC hrC QOk.start (hwf2 _ (nth_mem (by omega))) (by omega) (by omega) (hw.give [6, 7, 8, 9, 10, 11] rfl (by decide))).mono ?_
      rintro _ w1 ⟨now'15_, cnt'16_, kb'17_, kl'18_, bs'19_, ls'20_, r21_, rfl, hf10_7, hf10_7_1, hf10_7_2, hO⟩
      refine (?_ : CL _ _ _ _ _ _ (Own w [] [Res.row b24 30 [.int .i64 now, .int .u64 (cnt : Nat), bv, lv], Res.vec 62 2 bv bs.length (bs.flatMap BudD.cells), Res.vec 49 5 lv ls.length (ls.flatMap LeaD.cells), Res.row b1_ 58 [.map (some bm2_), .map (some lm3_), .int .i64 now, .int .u64 (cnt : Nat)], Res.mp Value.string ekI bm2_ kb, Res.mp ekU leaV lm3_ kl, Res.row b'12_ 58 [.map (some bm'13_), .map (some lm'14_), .int .i64 now'15_, .int .u64 (cnt'16_ : Nat)], Res.mp Value.string ekI bm'13_ kb'17_, Res.mp ekU leaV lm'14_ kl'18_])) w1 (hw.frameL [6, 7, 8, 9, 10, 11] rfl hO)
      refine l_end ?_
      refine c_last ?_
      refine l_mv rfl ?_
      refine l_add rfl rfl (wi64 (by omega)) rfl ?_
      refine l_as rfl ?_
      exact l_nil (fun w' hw => ⟨j + 1, now'15_, cnt'16_, kb'17_, kl'18_, bs'19_, ls'20_, ⟨rfl, rfl, rfl, rfl, rfl, trivial⟩, ⟨by omega, hf10_7, hf10_7_1, by have := hf10_7_2; omega⟩, hw, (by omega)⟩)
    ·
      refine c_exitC rfl ?_
      refine c_reg ?_
      refine l_as rfl ?_
      refine l_end ?_
      refine c_reg ?_
      refine l_mv rfl ?_
      refine l_call (by kernel_rfl) rfl rfl (fun w' hw => ?_)
      refine (passN_s 1 w').mono ?_
      rintro _ w1 ⟨rfl, hO⟩
      refine (?_ : CL _ _ _ _ _ _ (Own w [] [Res.row b24 30 [.int .i64 now, .int .u64 (cnt : Nat), bv, lv], Res.vec 62 2 bv bs.length (bs.flatMap BudD.cells), Res.vec 49 5 lv ls.length (ls.flatMap LeaD.cells), Res.row b1_ 58 [.map (some bm2_), .map (some lm3_), .int .i64 now, .int .u64 (cnt : Nat)], Res.mp Value.string ekI bm2_ kb, Res.mp ekU leaV lm3_ kl, Res.row b'12_ 58 [.map (some bm'13_), .map (some lm'14_), .int .i64 nowC, .int .u64 (cntC : Nat)], Res.mp Value.string ekI bm'13_ kbC, Res.mp ekU leaV lm'14_ klC])) w1 (hw.frame0 hO)
      refine l_mv rfl ?_
      refine l_ext (vs := [.slice none 0 0, .int .i64 1]) rfl rfl rfl ?_
      refine l_ext (vs := [.slice none 0 0, .int .i64 1]) rfl rfl rfl ?_
      refine l_as rfl ?_
      refine l_as rfl ?_
      refine l_end ?_
      refine c_reg ?_
      refine l_mv rfl ?_
      refine l_call (by kernel_rfl) rfl rfl (fun w' hw => ?_)
      refine (setN_s (⟨#[107]⟩ : ByteArray) 1 w').mono ?_
      rintro _ w1 ⟨rfl, hO⟩
      refine (?_ : CL _ _ _ _ _ _ (Own w [] [Res.row b24 30 [.int .i64 now, .int .u64 (cnt : Nat), bv, lv], Res.vec 62 2 bv bs.length (bs.flatMap BudD.cells), Res.vec 49 5 lv ls.length (ls.flatMap LeaD.cells), Res.row b1_ 58 [.map (some bm2_), .map (some lm3_), .int .i64 now, .int .u64 (cnt : Nat)], Res.mp Value.string ekI bm2_ kb, Res.mp ekU leaV lm3_ kl, Res.row b'12_ 58 [.map (some bm'13_), .map (some lm'14_), .int .i64 nowC, .int .u64 (cntC : Nat)], Res.mp Value.string ekI bm'13_ kbC, Res.mp ekU leaV lm'14_ klC])) w1 (hw.frame0 hO)
      refine l_mv rfl ?_
      refine l_ext (vs := [.int .i64 0, .int .i64 1]) rfl rfl rfl ?_
      refine l_ext (vs := [.int .i64 0, .int .i64 1]) rfl rfl rfl ?_
      refine l_as rfl ?_
      refine l_as rfl ?_
      refine l_end ?_
      refine c_reg ?_
      refine l_mv rfl ?_
      refine l_call (by kernel_rfl) rfl rfl (fun w' hw => ?_)
      refine (lendN_s 1 (⟨#[107]⟩ : ByteArray) 1 1 w').mono ?_
      rintro _ w1 ⟨rfl, hO⟩
      refine (?_ : CL _ _ _ _ _ _ (Own w [] [Res.row b24 30 [.int .i64 now, .int .u64 (cnt : Nat), bv, lv], Res.vec 62 2 bv bs.length (bs.flatMap BudD.cells), Res.vec 49 5 lv ls.length (ls.flatMap LeaD.cells), Res.row b1_ 58 [.map (some bm2_), .map (some lm3_), .int .i64 now, .int .u64 (cnt : Nat)], Res.mp Value.string ekI bm2_ kb, Res.mp ekU leaV lm3_ kl, Res.row b'12_ 58 [.map (some bm'13_), .map (some lm'14_), .int .i64 nowC, .int .u64 (cntC : Nat)], Res.mp Value.string ekI bm'13_ kbC, Res.mp ekU leaV lm'14_ klC])) w1 (hw.frame0 hO)
      refine l_mv rfl ?_
      refine l_ext (vs := [.agg (LeaD.cells LeaD.zero).toArray, .int .i64 1]) rfl rfl rfl ?_
      refine l_ext (vs := [.agg (LeaD.cells LeaD.zero).toArray, .int .i64 1]) rfl rfl rfl ?_
      refine l_new (v := .agg #[.int .u64 (0 : Nat), .int .u64 (0 : Nat), .string (⟨#[]⟩ : ByteArray), .int .i64 0, .int .i64 0]) (by kernel_rfl) rfl (fun b15 => ?_)
      refine l_stN (cs := [.int .u64 (0 : Nat), .int .u64 (0 : Nat), .string (⟨#[]⟩ : ByteArray), .int .i64 0, .int .i64 0]) (vs := [.int .u64 (LeaD.zero.id : Nat), .int .u64 (LeaD.zero.session : Nat), .string LeaD.zero.key, .int .i64 LeaD.zero.amount, .int .i64 LeaD.zero.until_]) 9 rfl rfl rfl (by kernel_rfl) (allc_cons rfl (allc_cons rfl (allc_cons rfl (allc_cons rfl (allc_cons rfl allc_nil))))) (Nat.le_of_ble_eq_true rfl) ?_
      refine l_as rfl ?_
      refine l_end ?_
      refine c_reg ?_
      refine l_mv rfl ?_
      refine l_call (by kernel_rfl) rfl rfl (fun w' hw => ?_)
      refine (renewN_s 1 1 1 w').mono ?_
      rintro _ w1 ⟨rfl, hO⟩
      refine (?_ : CL _ _ _ _ _ _ (Own w [] [Res.row b24 30 [.int .i64 now, .int .u64 (cnt : Nat), bv, lv], Res.vec 62 2 bv bs.length (bs.flatMap BudD.cells), Res.vec 49 5 lv ls.length (ls.flatMap LeaD.cells), Res.row b1_ 58 [.map (some bm2_), .map (some lm3_), .int .i64 now, .int .u64 (cnt : Nat)], Res.mp Value.string ekI bm2_ kb, Res.mp ekU leaV lm3_ kl, Res.row b'12_ 58 [.map (some bm'13_), .map (some lm'14_), .int .i64 nowC, .int .u64 (cntC : Nat)], Res.mp Value.string ekI bm'13_ kbC, Res.mp ekU leaV lm'14_ klC, Res.row b15 49 (LeaD.cells LeaD.zero)])) w1 (hw.frame0 hO)
      refine l_mv rfl ?_
      refine l_ext (vs := [.agg (LeaD.cells LeaD.zero).toArray, .int .i64 1]) rfl rfl rfl ?_
      refine l_ext (vs := [.agg (LeaD.cells LeaD.zero).toArray, .int .i64 1]) rfl rfl rfl ?_
      refine l_new (v := .agg #[.int .u64 (0 : Nat), .int .u64 (0 : Nat), .string (⟨#[]⟩ : ByteArray), .int .i64 0, .int .i64 0]) (by kernel_rfl) rfl (fun b17 => ?_)
      refine l_stN (cs := [.int .u64 (0 : Nat), .int .u64 (0 : Nat), .string (⟨#[]⟩ : ByteArray), .int .i64 0, .int .i64 0]) (vs := [.int .u64 (LeaD.zero.id : Nat), .int .u64 (LeaD.zero.session : Nat), .string LeaD.zero.key, .int .i64 LeaD.zero.amount, .int .i64 LeaD.zero.until_]) 10 rfl rfl rfl (by kernel_rfl) (allc_cons rfl (allc_cons rfl (allc_cons rfl (allc_cons rfl (allc_cons rfl allc_nil))))) (Nat.le_of_ble_eq_true rfl) ?_
      refine l_as rfl ?_
      refine l_end ?_
      refine c_reg ?_
      refine l_mv rfl ?_
      refine l_call (by kernel_rfl) rfl rfl (fun w' hw => ?_)
      refine (backN_s 1 1 w').mono ?_
      rintro _ w1 ⟨rfl, hO⟩
      refine (?_ : CL _ _ _ _ _ _ (Own w [] [Res.row b24 30 [.int .i64 now, .int .u64 (cnt : Nat), bv, lv], Res.vec 62 2 bv bs.length (bs.flatMap BudD.cells), Res.vec 49 5 lv ls.length (ls.flatMap LeaD.cells), Res.row b1_ 58 [.map (some bm2_), .map (some lm3_), .int .i64 now, .int .u64 (cnt : Nat)], Res.mp Value.string ekI bm2_ kb, Res.mp ekU leaV lm3_ kl, Res.row b'12_ 58 [.map (some bm'13_), .map (some lm'14_), .int .i64 nowC, .int .u64 (cntC : Nat)], Res.mp Value.string ekI bm'13_ kbC, Res.mp ekU leaV lm'14_ klC, Res.row b15 49 (LeaD.cells LeaD.zero), Res.row b17 49 (LeaD.cells LeaD.zero)])) w1 (hw.frame0 hO)
      refine l_mv rfl ?_
      refine l_ext (vs := [.agg (LeaD.cells LeaD.zero).toArray, .int .i64 1]) rfl rfl rfl ?_
      refine l_ext (vs := [.agg (LeaD.cells LeaD.zero).toArray, .int .i64 1]) rfl rfl rfl ?_
      refine l_new (v := .agg #[.int .u64 (0 : Nat), .int .u64 (0 : Nat), .string (⟨#[]⟩ : ByteArray), .int .i64 0, .int .i64 0]) (by kernel_rfl) rfl (fun b19 => ?_)
      refine l_stN (cs := [.int .u64 (0 : Nat), .int .u64 (0 : Nat), .string (⟨#[]⟩ : ByteArray), .int .i64 0, .int .i64 0]) (vs := [.int .u64 (LeaD.zero.id : Nat), .int .u64 (LeaD.zero.session : Nat), .string LeaD.zero.key, .int .i64 LeaD.zero.amount, .int .i64 LeaD.zero.until_]) 11 rfl rfl rfl (by kernel_rfl) (allc_cons rfl (allc_cons rfl (allc_cons rfl (allc_cons rfl (allc_cons rfl allc_nil))))) (Nat.le_of_ble_eq_true rfl) ?_
      refine l_as rfl ?_
      refine l_end ?_
      refine c_reg ?_
      refine l_as rfl ?_
      refine l_end ?_
      refine c_reg ?_
      refine l_call (by kernel_rfl) rfl rfl (fun w' hw => ?_)
      refine (answers_s w').mono ?_
      rintro _ w1 ⟨rfl, hO⟩
      refine (?_ : CL _ _ _ _ _ _ (Own w [] [Res.row b24 30 [.int .i64 now, .int .u64 (cnt : Nat), bv, lv], Res.vec 62 2 bv bs.length (bs.flatMap BudD.cells), Res.vec 49 5 lv ls.length (ls.flatMap LeaD.cells), Res.row b1_ 58 [.map (some bm2_), .map (some lm3_), .int .i64 now, .int .u64 (cnt : Nat)], Res.mp Value.string ekI bm2_ kb, Res.mp ekU leaV lm3_ kl, Res.row b'12_ 58 [.map (some bm'13_), .map (some lm'14_), .int .i64 nowC, .int .u64 (cntC : Nat)], Res.mp Value.string ekI bm'13_ kbC, Res.mp ekU leaV lm'14_ klC, Res.row b15 49 (LeaD.cells LeaD.zero), Res.row b17 49 (LeaD.cells LeaD.zero), Res.row b19 49 (LeaD.cells LeaD.zero)])) w1 (hw.frame0 hO)
      refine l_mv rfl ?_
      refine l_on rfl rfl ?_
      refine l_mv rfl ?_
      refine l_on rfl rfl ?_
      refine l_nilnp (by kernel_rfl) rfl rfl rfl ?_
      refine l_pickT rfl rfl ?_
      refine l_mv rfl ?_
      refine l_on rfl rfl ?_
      refine l_mv rfl ?_
      refine l_on rfl rfl ?_
      refine l_mv rfl ?_
      refine l_on rfl rfl ?_
      refine l_call (by kernel_rfl) rfl rfl (fun w' hw => ?_)
      refine (alike_s b1_ bm2_ lm3_ b24 now now cnt cnt kb kl bv lv bs ls w' rfl rfl (by first | assumption | omega | (simp <;> omega) | (constructor <;> (first | omega | (simp only [LenOk]; omega) | (simp <;> omega)))) (by first | assumption | omega | (simp <;> omega) | (constructor <;> (first | omega | (simp only [LenOk]; omega) | (simp <;> omega)))) (by first | assumption | omega | (simp <;> omega) | (constructor <;> (first | omega | (simp only [LenOk]; omega) | (simp <;> omega)))) (hw.give [3, 4, 5, 0, 1, 2] rfl (by decide))).mono ?_
      rintro _ w1 ⟨rfl, hO⟩
      refine (?_ : CL _ _ _ _ _ _ (Own w [] [Res.row b'12_ 58 [.map (some bm'13_), .map (some lm'14_), .int .i64 nowC, .int .u64 (cntC : Nat)], Res.mp Value.string ekI bm'13_ kbC, Res.mp ekU leaV lm'14_ klC, Res.row b15 49 (LeaD.cells LeaD.zero), Res.row b17 49 (LeaD.cells LeaD.zero), Res.row b19 49 (LeaD.cells LeaD.zero), Res.row b1_ 58 [.map (some bm2_), .map (some lm3_), .int .i64 now, .int .u64 (cnt : Nat)], Res.mp Value.string ekI bm2_ kb, Res.mp ekU leaV lm3_ kl, Res.row b24 30 [.int .i64 now, .int .u64 (cnt : Nat), bv, lv], Res.vec 62 2 bv bs.length (bs.flatMap BudD.cells), Res.vec 49 5 lv ls.length (ls.flatMap LeaD.cells)])) w1 (hw.frameL [3, 4, 5, 0, 1, 2] rfl hO)
      refine l_pickT rfl rfl ?_
      refine l_mv rfl ?_
      refine l_on rfl rfl ?_
      refine l_mv rfl ?_
      refine l_on rfl rfl ?_
      refine l_mv rfl ?_
      refine l_on rfl rfl ?_
      refine l_eq rfl rfl rfl ?_
      refine l_pickT rfl rfl ?_
      refine l_mv rfl ?_
      refine l_band (q := 1 = 1) 3 15 [113, 112, 111] (1 = 1) rfl rfl rfl rfl rfl rfl trivial rfl (fun h18_15 => ?_) (fun g18_19 => ?_)
      ·
        refine l_on rfl (gT h18_15) ?_
        refine l_mv rfl ?_
        refine l_on rfl (gT h18_15) ?_
        refine l_mv rfl ?_
        refine l_on rfl (gT h18_15) ?_
        refine l_eq rfl rfl rfl ?_
        exact l_nil (fun w' hw => ⟨(by repeat (first | exact Out.refl _ _ | refine Out.upd rfl ?_ | refine Out.msk rfl ?_)), rfl, hw⟩)
      refine l_mv rfl ?_
      refine l_band (q := (1 = 1) ∧ (1 = 1)) 3 20 [118, 117, 116] (1 = 1) rfl rfl rfl rfl rfl rfl trivial rfl (fun h18_20 => ?_) (fun g18_24 => ?_)
      ·
        refine l_on rfl (gT h18_20) ?_
        refine l_mv rfl ?_
        refine l_on rfl (gT h18_20) ?_
        refine l_mv rfl ?_
        refine l_on rfl (gT h18_20) ?_
        refine l_eq rfl rfl rfl ?_
        exact l_nil (fun w' hw => ⟨(by repeat (first | exact Out.refl _ _ | refine Out.upd rfl ?_ | refine Out.msk rfl ?_)), rfl, hw⟩)
      refine l_mv rfl ?_
      refine l_band (q := ((1 = 1) ∧ (1 = 1)) ∧ (1 = 1)) 3 25 [123, 122, 121] (1 = 1) rfl rfl rfl rfl rfl rfl trivial rfl (fun h18_25 => ?_) (fun g18_29 => ?_)
      ·
        refine l_on rfl (gT h18_25) ?_
        refine l_mv rfl ?_
        refine l_on rfl (gT h18_25) ?_
        refine l_mv rfl ?_
        refine l_on rfl (gT h18_25) ?_
        refine l_eq rfl rfl rfl ?_
        exact l_nil (fun w' hw => ⟨(by repeat (first | exact Out.refl _ _ | refine Out.upd rfl ?_ | refine Out.msk rfl ?_)), rfl, hw⟩)
      refine l_mv rfl ?_
      refine l_band (q := (((1 = 1) ∧ (1 = 1)) ∧ (1 = 1)) ∧ (1 = 1)) 3 30 [128, 127, 126] (1 = 1) rfl rfl rfl rfl rfl rfl trivial rfl (fun h18_30 => ?_) (fun g18_34 => ?_)
      ·
        refine l_on rfl (gT h18_30) ?_
        refine l_mv rfl ?_
        refine l_on rfl (gT h18_30) ?_
        refine l_mv rfl ?_
        refine l_on rfl (gT h18_30) ?_
        refine l_eq rfl rfl rfl ?_
        exact l_nil (fun w' hw => ⟨(by repeat (first | exact Out.refl _ _ | refine Out.upd rfl ?_ | refine Out.msk rfl ?_)), rfl, hw⟩)
      refine l_mv rfl ?_
      refine l_band (q := ((((1 = 1) ∧ (1 = 1)) ∧ (1 = 1)) ∧ (1 = 1)) ∧ (1 = 1)) 4 35 [134, 133, 132, 131] (1 = 1) rfl rfl rfl rfl rfl rfl trivial rfl (fun h18_35 => ?_) (fun g18_40 => ?_)
      ·
        refine l_on rfl (gT h18_35) ?_
        refine l_mv rfl ?_
        refine l_on rfl (gT h18_35) ?_
        refine l_call (by kernel_rfl) rfl rfl (fun w' hw => ?_)
        refine (loadN_s 0 0 (.slice none 0 0) (.slice none 0 0) w').mono ?_
        rintro _ w1 ⟨rfl, hO⟩
        refine (?_ : CL _ _ _ _ _ _ (Own w [] [Res.row b'12_ 58 [.map (some bm'13_), .map (some lm'14_), .int .i64 nowC, .int .u64 (cntC : Nat)], Res.mp Value.string ekI bm'13_ kbC, Res.mp ekU leaV lm'14_ klC, Res.row b15 49 (LeaD.cells LeaD.zero), Res.row b17 49 (LeaD.cells LeaD.zero), Res.row b19 49 (LeaD.cells LeaD.zero), Res.row b1_ 58 [.map (some bm2_), .map (some lm3_), .int .i64 now, .int .u64 (cnt : Nat)], Res.mp Value.string ekI bm2_ kb, Res.mp ekU leaV lm3_ kl, Res.row b24 30 [.int .i64 now, .int .u64 (cnt : Nat), bv, lv], Res.vec 62 2 bv bs.length (bs.flatMap BudD.cells), Res.vec 49 5 lv ls.length (ls.flatMap LeaD.cells)])) w1 (hw.frame0 hO)
        refine l_on rfl (gT h18_35) ?_
        refine l_mv rfl ?_
        refine l_on rfl (gT h18_35) ?_
        refine l_eq rfl rfl rfl ?_
        exact l_nil (fun w' hw => ⟨(by repeat (first | exact Out.refl _ _ | refine Out.upd rfl ?_ | refine Out.msk rfl ?_)), rfl, hw⟩)
      refine l_mv rfl ?_
      refine l_band (q := (((((1 = 1) ∧ (1 = 1)) ∧ (1 = 1)) ∧ (1 = 1)) ∧ (1 = 1)) ∧ (1 = 1)) 3 41 [139, 138, 137] (0 = 0) rfl rfl rfl rfl rfl rfl trivial rfl (fun h18_41 => ?_) (fun g18_45 => ?_)
      ·
        refine l_on rfl (gT h18_41) ?_
        refine l_mv rfl ?_
        refine l_on rfl (gT h18_41) ?_
        refine l_call (by kernel_rfl) rfl rfl (fun w' hw => ?_)
        refine (timeN_s w').mono ?_
        rintro _ w1 ⟨rfl, hO⟩
        refine (?_ : CL _ _ _ _ _ _ (Own w [] [Res.row b'12_ 58 [.map (some bm'13_), .map (some lm'14_), .int .i64 nowC, .int .u64 (cntC : Nat)], Res.mp Value.string ekI bm'13_ kbC, Res.mp ekU leaV lm'14_ klC, Res.row b15 49 (LeaD.cells LeaD.zero), Res.row b17 49 (LeaD.cells LeaD.zero), Res.row b19 49 (LeaD.cells LeaD.zero), Res.row b1_ 58 [.map (some bm2_), .map (some lm3_), .int .i64 now, .int .u64 (cnt : Nat)], Res.mp Value.string ekI bm2_ kb, Res.mp ekU leaV lm3_ kl, Res.row b24 30 [.int .i64 now, .int .u64 (cnt : Nat), bv, lv], Res.vec 62 2 bv bs.length (bs.flatMap BudD.cells), Res.vec 49 5 lv ls.length (ls.flatMap LeaD.cells)])) w1 (hw.frame0 hO)
        refine l_on rfl (gT h18_41) ?_
        refine l_eq rfl rfl rfl ?_
        exact l_nil (fun w' hw => ⟨(by repeat (first | exact Out.refl _ _ | refine Out.upd rfl ?_ | refine Out.msk rfl ?_)), rfl, hw⟩)
      refine l_mv rfl ?_
      refine l_band (q := ((((((1 = 1) ∧ (1 = 1)) ∧ (1 = 1)) ∧ (1 = 1)) ∧ (1 = 1)) ∧ (1 = 1)) ∧ (0 = 0)) 3 46 [144, 143, 142] (((0 : Nat) : Int) = ((0 : Nat) : Int)) rfl rfl rfl rfl rfl rfl trivial rfl (fun h18_46 => ?_) (fun g18_50 => ?_)
      ·
        refine l_on rfl (gT h18_46) ?_
        refine l_mv rfl ?_
        refine l_on rfl (gT h18_46) ?_
        refine l_call (by kernel_rfl) rfl rfl (fun w' hw => ?_)
        refine (lastN_s w').mono ?_
        rintro _ w1 ⟨rfl, hO⟩
        refine (?_ : CL _ _ _ _ _ _ (Own w [] [Res.row b'12_ 58 [.map (some bm'13_), .map (some lm'14_), .int .i64 nowC, .int .u64 (cntC : Nat)], Res.mp Value.string ekI bm'13_ kbC, Res.mp ekU leaV lm'14_ klC, Res.row b15 49 (LeaD.cells LeaD.zero), Res.row b17 49 (LeaD.cells LeaD.zero), Res.row b19 49 (LeaD.cells LeaD.zero), Res.row b1_ 58 [.map (some bm2_), .map (some lm3_), .int .i64 now, .int .u64 (cnt : Nat)], Res.mp Value.string ekI bm2_ kb, Res.mp ekU leaV lm3_ kl, Res.row b24 30 [.int .i64 now, .int .u64 (cnt : Nat), bv, lv], Res.vec 62 2 bv bs.length (bs.flatMap BudD.cells), Res.vec 49 5 lv ls.length (ls.flatMap LeaD.cells)])) w1 (hw.frame0 hO)
        refine l_on rfl (gT h18_46) ?_
        refine l_eq rfl rfl rfl ?_
        exact l_nil (fun w' hw => ⟨(by repeat (first | exact Out.refl _ _ | refine Out.upd rfl ?_ | refine Out.msk rfl ?_)), rfl, hw⟩)
      refine l_mv rfl ?_
      refine l_band (q := (((((((1 = 1) ∧ (1 = 1)) ∧ (1 = 1)) ∧ (1 = 1)) ∧ (1 = 1)) ∧ (1 = 1)) ∧ (0 = 0)) ∧ (((0 : Nat) : Int) = ((0 : Nat) : Int))) 4 51 [150, 149, 148, 147] (((0 : Nat) : Int) = 0) rfl rfl rfl rfl rfl rfl trivial rfl (fun h18_51 => ?_) (fun g18_56 => ?_)
      ·
        refine l_on rfl (gT h18_51) ?_
        refine l_mv rfl ?_
        refine l_on rfl (gT h18_51) ?_
        refine l_call (by kernel_rfl) rfl rfl (fun w' hw => ?_)
        refine (leasesN_s w').mono ?_
        rintro _ w1 ⟨rfl, hO⟩
        refine (?_ : CL _ _ _ _ _ _ (Own w [] [Res.row b'12_ 58 [.map (some bm'13_), .map (some lm'14_), .int .i64 nowC, .int .u64 (cntC : Nat)], Res.mp Value.string ekI bm'13_ kbC, Res.mp ekU leaV lm'14_ klC, Res.row b15 49 (LeaD.cells LeaD.zero), Res.row b17 49 (LeaD.cells LeaD.zero), Res.row b19 49 (LeaD.cells LeaD.zero), Res.row b1_ 58 [.map (some bm2_), .map (some lm3_), .int .i64 now, .int .u64 (cnt : Nat)], Res.mp Value.string ekI bm2_ kb, Res.mp ekU leaV lm3_ kl, Res.row b24 30 [.int .i64 now, .int .u64 (cnt : Nat), bv, lv], Res.vec 62 2 bv bs.length (bs.flatMap BudD.cells), Res.vec 49 5 lv ls.length (ls.flatMap LeaD.cells)])) w1 (hw.frame0 hO)
        refine l_on rfl (gT h18_51) ?_
        refine l_len (by kernel_rfl) rfl rfl ?_
        refine l_on rfl (gT h18_51) ?_
        refine l_eq rfl rfl rfl ?_
        exact l_nil (fun w' hw => ⟨(by repeat (first | exact Out.refl _ _ | refine Out.upd rfl ?_ | refine Out.msk rfl ?_)), rfl, hw⟩)
      refine l_mv rfl ?_
      refine l_band (q := ((((((((1 = 1) ∧ (1 = 1)) ∧ (1 = 1)) ∧ (1 = 1)) ∧ (1 = 1)) ∧ (1 = 1)) ∧ (0 = 0)) ∧ (((0 : Nat) : Int) = ((0 : Nat) : Int))) ∧ (((0 : Nat) : Int) = 0)) 4 57 [156, 155, 154, 153] (((0 : Nat) : Int) = 0) rfl rfl rfl rfl rfl rfl trivial rfl (fun h18_57 => ?_) (fun g18_62 => ?_)
      ·
        refine l_on rfl (gT h18_57) ?_
        refine l_mv rfl ?_
        refine l_on rfl (gT h18_57) ?_
        refine l_call (by kernel_rfl) rfl rfl (fun w' hw => ?_)
        refine (budgetsN_s w').mono ?_
        rintro _ w1 ⟨rfl, hO⟩
        refine (?_ : CL _ _ _ _ _ _ (Own w [] [Res.row b'12_ 58 [.map (some bm'13_), .map (some lm'14_), .int .i64 nowC, .int .u64 (cntC : Nat)], Res.mp Value.string ekI bm'13_ kbC, Res.mp ekU leaV lm'14_ klC, Res.row b15 49 (LeaD.cells LeaD.zero), Res.row b17 49 (LeaD.cells LeaD.zero), Res.row b19 49 (LeaD.cells LeaD.zero), Res.row b1_ 58 [.map (some bm2_), .map (some lm3_), .int .i64 now, .int .u64 (cnt : Nat)], Res.mp Value.string ekI bm2_ kb, Res.mp ekU leaV lm3_ kl, Res.row b24 30 [.int .i64 now, .int .u64 (cnt : Nat), bv, lv], Res.vec 62 2 bv bs.length (bs.flatMap BudD.cells), Res.vec 49 5 lv ls.length (ls.flatMap LeaD.cells)])) w1 (hw.frame0 hO)
        refine l_on rfl (gT h18_57) ?_
        refine l_len (by kernel_rfl) rfl rfl ?_
        refine l_on rfl (gT h18_57) ?_
        refine l_eq rfl rfl rfl ?_
        exact l_nil (fun w' hw => ⟨(by repeat (first | exact Out.refl _ _ | refine Out.upd rfl ?_ | refine Out.msk rfl ?_)), rfl, hw⟩)
      refine l_mv rfl ?_
      refine l_band (q := (((((((((1 = 1) ∧ (1 = 1)) ∧ (1 = 1)) ∧ (1 = 1)) ∧ (1 = 1)) ∧ (1 = 1)) ∧ (0 = 0)) ∧ (((0 : Nat) : Int) = ((0 : Nat) : Int))) ∧ (((0 : Nat) : Int) = 0)) ∧ (((0 : Nat) : Int) = 0)) 3 63 [161, 160, 159] (true = true) rfl rfl rfl rfl rfl rfl trivial rfl (fun h18_63 => ?_) (fun g18_67 => ?_)
      ·
        refine l_on rfl (gT h18_63) ?_
        refine l_mv rfl ?_
        refine l_on rfl (gT h18_63) ?_
        refine l_call (by kernel_rfl) rfl rfl (fun w' hw => ?_)
        refine (copyN_s w').mono ?_
        rintro _ w1 ⟨rfl, hO⟩
        refine (?_ : CL _ _ _ _ _ _ (Own w [] [Res.row b'12_ 58 [.map (some bm'13_), .map (some lm'14_), .int .i64 nowC, .int .u64 (cntC : Nat)], Res.mp Value.string ekI bm'13_ kbC, Res.mp ekU leaV lm'14_ klC, Res.row b15 49 (LeaD.cells LeaD.zero), Res.row b17 49 (LeaD.cells LeaD.zero), Res.row b19 49 (LeaD.cells LeaD.zero), Res.row b1_ 58 [.map (some bm2_), .map (some lm3_), .int .i64 now, .int .u64 (cnt : Nat)], Res.mp Value.string ekI bm2_ kb, Res.mp ekU leaV lm3_ kl, Res.row b24 30 [.int .i64 now, .int .u64 (cnt : Nat), bv, lv], Res.vec 62 2 bv bs.length (bs.flatMap BudD.cells), Res.vec 49 5 lv ls.length (ls.flatMap LeaD.cells)])) w1 (hw.frame0 hO)
        refine l_on rfl (gT h18_63) ?_
        refine l_nilp (by kernel_rfl) rfl rfl rfl ?_
        exact l_nil (fun w' hw => ⟨(by repeat (first | exact Out.refl _ _ | refine Out.upd rfl ?_ | refine Out.msk rfl ?_)), (bool_dec _), hw⟩)
      refine l_as rfl ?_
      refine l_end ?_
      exact c_ret (ret1 (v := .bool (decide (((((((((((1 = 1) ∧ (1 = 1)) ∧ (1 = 1)) ∧ (1 = 1)) ∧ (1 = 1)) ∧ (1 = 1)) ∧ (0 = 0)) ∧ (((0 : Nat) : Int) = ((0 : Nat) : Int))) ∧ (((0 : Nat) : Int) = 0)) ∧ (((0 : Nat) : Int) = 0)) ∧ (true = true)))) rfl rfl (fun w' hw => ⟨(by simp), hw.drop⟩))
end Go.Proofs.YtgkeoenbcjfeaaaGreat
