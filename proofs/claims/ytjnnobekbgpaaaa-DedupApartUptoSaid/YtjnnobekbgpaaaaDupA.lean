/-
  THE LAW DedupApart.
-/
import Derived.Test.YtjnnobekbgpaaaaDupR
set_option linter.unusedVariables false
set_option maxRecDepth 10000
namespace Go.Proofs.Ytjnnobekbgpaaaa
open Go Go.Sc Go.Proofs

theorem apart {kl kl' : List (Nat × RepD)} {l : List RepD} {r x y : RepD} {s q : Nat} {e f : Int} {n : Nat} (ho : COk l) (hr : CRel kl l) (hs : s ≠ r.session) (h1 : findK kl s q = (x, e)) (hk : kl' = doneK kl r) (h2 : findK kl' s q = (y, f)) (hn : n = kl.length) :
    x = y ∧ (e = f ∨ ((e = 8 ∧ f = 7) ∧ ((n : Nat) : Int) = 31)) := by
  unfold doneK at hk
  split at hk
  · rename_i c
    have hn := ho.nd hr
    unfold findK at h1 h2
    rw [hk, getA_put, if_neg hs, putA_len] at h2
    by_cases c0 : s = 0 ∨ q = 0
    · rw [if_pos c0] at h1 h2
      have := h1.symm.trans h2; exact ⟨(Prod.mk.inj this).1, .inl (Prod.mk.inj this).2⟩
    · rw [if_neg c0] at h1 h2
      cases hg : getA s kl with
      | some z =>
        rw [hg] at h1 h2
        have := h1.symm.trans h2; exact ⟨(Prod.mk.inj this).1, .inl (Prod.mk.inj this).2⟩
      | none =>
        rw [hg] at h1 h2
        have h1 : (if 32 ≤ kl.length then (RepD.zero, (7 : Int)) else (RepD.zero, 8)) = (x, e) := h1
        have h2 : (if 32 ≤ kl.length + (if getA r.session kl = none then 1 else 0) then (RepD.zero, (7 : Int)) else (RepD.zero, 8)) = (y, f) := h2
        have hl := ho.len
        have hlen : kl.length = l.length := by rw [hr.length_eq, KR_len]
        by_cases c1 : 32 ≤ kl.length
        · rw [if_pos c1] at h1; rw [if_pos (by omega)] at h2
          have := h1.symm.trans h2; exact ⟨(Prod.mk.inj this).1, .inl (Prod.mk.inj this).2⟩
        · rw [if_neg c1] at h1
          by_cases c2 : 32 ≤ kl.length + (if getA r.session kl = none then 1 else 0)
          · rw [if_pos c2] at h2
            have e1 := Prod.mk.inj h1; have e2 := Prod.mk.inj h2
            refine ⟨e1.1.symm.trans e2.1, .inr ⟨⟨e1.2.symm, e2.2.symm⟩, ?_⟩⟩
            split at c2 <;> omega
          · rw [if_neg c2] at h2
            have := h1.symm.trans h2; exact ⟨(Prod.mk.inj this).1, .inl (Prod.mk.inj this).2⟩
  · rw [hk, h1] at h2; exact ⟨(Prod.mk.inj h2).1, .inl (Prod.mk.inj h2).2⟩
theorem dedupApart_s (v : Value) (acts : List DActD) (r : RepD) (s q : Nat) (w : World) (hl : acts.length ≤ 100000000) (hwf : ∀ a ∈ acts, a.r.wf) (hx : r.wf) (hv : Rd w [] (Res.sl v acts.length (acts.flatMap DActD.cells))) : Rets Try.prog 4 #[v, .agg (RepD.cells r).toArray, .int .u64 (s : Nat), .int .u64 (q : Nat)] w fun u_ w' => u_ = .bool true ∧ Own w [] [] w' := by
  refine fn_enter (args := [v, .agg (RepD.cells r).toArray, .int .u64 (s : Nat), .int .u64 (q : Nat)]) Try.func4 rfl Try.ntmps4 rfl (Own.start w) ?_
  refine c_reg ?_
  refine l_box rfl rfl (fun b5 => ?_)
  refine l_as rfl ?_
  refine l_end ?_
  refine c_reg ?_
  refine l_mv rfl ?_
  refine l_call (by kernel_rfl) rfl rfl (fun w' hw => ?_)
  refine (dgrown_s v acts w' (by first | assumption | omega | (simp <;> omega) | (constructor <;> (first | omega | (simp only [LenOk]; omega) | (simp <;> omega)))) (by first | assumption | omega | (simp <;> omega) | (constructor <;> (first | omega | (simp only [LenOk]; omega) | (simp <;> omega)))) (hw.rd0 hv)).mono ?_
  rintro _ w1 ⟨b1_, m2_, wb3_, kl4_, lv5_, l6_, rfl, hf1_1, hf1_1_1, hO⟩
  have ho := hf1_1
  have hr := hf1_1_1
  have hkl : kl4_.length ≤ 1000000 := by rw [hr.length_eq, KR_len]; have := ho.len; omega
  refine (?_ : CL _ _ _ _ _ _ (Own w [] [Res.row b5 26 (RepD.cells r), Res.row b1_ 56 [.map (some m2_)], Res.mp ekR repA m2_ kl4_, Res.row wb3_ 42 [lv5_], Res.vec 26 6 lv5_ l6_.length (l6_.flatMap RepD.cells)])) w1 (hw.frame0 hO)
  refine l_mv rfl ?_
  refine l_ext (vs := [.pointer (some ⟨b1_, 0, none⟩), .pointer (some ⟨wb3_, 0, none⟩)]) rfl rfl rfl ?_
  refine l_ext (vs := [.pointer (some ⟨b1_, 0, none⟩), .pointer (some ⟨wb3_, 0, none⟩)]) rfl rfl rfl ?_
  refine l_as rfl ?_
  refine l_as rfl ?_
  refine l_end ?_
  refine c_seq ?_
  refine c_reg ?_
  refine l_call (by kernel_rfl) rfl rfl (fun w' hw => ?_)
  refine (danswers_s w').mono ?_
  rintro _ w1 ⟨rfl, hO⟩
  refine (?_ : CL _ _ _ _ _ _ (Own w [] [Res.row b5 26 (RepD.cells r), Res.row b1_ 56 [.map (some m2_)], Res.mp ekR repA m2_ kl4_, Res.row wb3_ 42 [lv5_], Res.vec 26 6 lv5_ l6_.length (l6_.flatMap RepD.cells)])) w1 (hw.frame0 hO)
  refine l_not (b := true) rfl rfl ?_
  refine l_mv rfl ?_
  refine l_on rfl rfl ?_
  refine l_mv rfl ?_
  refine l_on rfl rfl ?_
  refine l_nilp (by kernel_rfl) rfl rfl rfl ?_
  refine l_pickF rfl rfl ?_
  refine l_mv rfl ?_
  refine l_on rfl rfl ?_
  refine l_mv rfl ?_
  refine l_on rfl rfl ?_
  refine l_fld (o := 0) rfl (by kernel_rfl) rfl ?_
  refine l_on rfl rfl ?_
  refine l_ldo 0 (v := .int .u64 (r.session : Nat)) rfl rfl rfl (by kernel_rfl) rfl ?_
  refine l_on rfl rfl ?_
  refine l_eq rfl rfl rfl ?_
  refine l_pickF rfl rfl ?_
  refine l_end ?_
  refine c_dec rfl (fun c1 => ?_) (fun c1 => ?_)
  ·
    refine c_reg ?_
    refine l_call (by kernel_rfl) rfl rfl (fun w' hw => ?_)
    refine (danswers_s w').mono ?_
    rintro _ w1 ⟨rfl, hO⟩
    refine (?_ : CL _ _ _ _ _ _ (Own w [] [Res.row b5 26 (RepD.cells r), Res.row b1_ 56 [.map (some m2_)], Res.mp ekR repA m2_ kl4_, Res.row wb3_ 42 [lv5_], Res.vec 26 6 lv5_ l6_.length (l6_.flatMap RepD.cells)])) w1 (hw.frame0 hO)
    refine l_mv rfl ?_
    refine l_on rfl rfl ?_
    refine l_mv rfl ?_
    refine l_on rfl rfl ?_
    refine l_nilnp (by kernel_rfl) rfl rfl rfl ?_
    refine l_pickT rfl rfl ?_
    refine l_as rfl ?_
    refine l_end ?_
    exact c_ret (ret1 (v := .bool true) rfl rfl (fun w' hw => ⟨rfl, hw.drop⟩))
  ·
    refine c_skipC ?_
    refine c_reg ?_
    refine l_mv rfl ?_
    refine l_mv rfl ?_
    refine l_mv rfl ?_
    refine l_call (by kernel_rfl) rfl rfl (fun w' hw => ?_)
    refine (dfind_s b1_ m2_ kl4_ s q w' (hw.give [1, 2] rfl (by decide))).mono ?_
    rintro _ w1 ⟨x7_, e8_, rfl, hf4_3, hO⟩
    refine (?_ : CL _ _ _ _ _ _ (Own w [] [Res.row b5 26 (RepD.cells r), Res.row wb3_ 42 [lv5_], Res.vec 26 6 lv5_ l6_.length (l6_.flatMap RepD.cells), Res.row b1_ 56 [.map (some m2_)], Res.mp ekR repA m2_ kl4_])) w1 (hw.frameL [1, 2] rfl hO)
    refine l_mv rfl ?_
    refine l_ext (vs := [.agg (RepD.cells x7_).toArray, .int .i64 e8_]) rfl rfl rfl ?_
    refine l_ext (vs := [.agg (RepD.cells x7_).toArray, .int .i64 e8_]) rfl rfl rfl ?_
    refine l_new (v := .agg #[.int .u64 (0 : Nat), .int .u64 (0 : Nat), .int .i64 0, .int .u64 (0 : Nat), .int .i64 0, .int .i64 0]) (by kernel_rfl) rfl (fun b11 => ?_)
    refine l_stN (cs := [.int .u64 (0 : Nat), .int .u64 (0 : Nat), .int .i64 0, .int .u64 (0 : Nat), .int .i64 0, .int .i64 0]) (vs := [.int .u64 (x7_.session : Nat), .int .u64 (x7_.seq : Nat), .int .i64 x7_.e, .int .u64 (x7_.lease : Nat), .int .i64 x7_.amount, .int .i64 x7_.until_]) 5 rfl rfl rfl (by kernel_rfl) (allc_cons rfl (allc_cons rfl (allc_cons rfl (allc_cons rfl (allc_cons rfl (allc_cons rfl allc_nil)))))) (Nat.le_of_ble_eq_true rfl) ?_
    refine l_as rfl ?_
    refine l_end ?_
    refine c_reg ?_
    refine l_mv rfl ?_
    refine l_call (by kernel_rfl) rfl rfl (fun w' hw => ?_)
    refine (dall_s b1_ m2_ kl4_ w' (by first | assumption | omega | (simp <;> omega) | (constructor <;> (first | omega | (simp only [LenOk]; omega) | (simp <;> omega)))) (hw.give [3, 4] rfl (by decide))).mono ?_
    rintro v9_ w1 ⟨_, l10_, ks11_, rfl, hf5_1, hf5_1_1, hf5_1_2, hO⟩
    have hln : l10_.length = kl4_.length := by rw [hf5_1_2, List.length_map, hf5_1.length_eq, List.length_map]
    refine (?_ : CL _ _ _ _ _ _ (Own w [] [Res.row b5 26 (RepD.cells r), Res.row wb3_ 42 [lv5_], Res.vec 26 6 lv5_ l6_.length (l6_.flatMap RepD.cells), Res.row b11 26 (RepD.cells x7_), Res.row b1_ 56 [.map (some m2_)], Res.mp ekR repA m2_ kl4_, Res.vec 26 6 v9_ l10_.length (l10_.flatMap RepD.cells)])) w1 (hw.frameL [3, 4] rfl hO)
    refine l_lenS (len := l10_.length) (cs := (l10_.flatMap RepD.cells)) (by kernel_rfl) rfl (fun w' hw' => Vec.sl (Own.holds hw' 6 _ rfl)) rfl ?_
    refine l_as rfl ?_
    refine l_end ?_
    refine c_reg ?_
    refine l_mv rfl ?_
    refine l_ldr (cs := (RepD.cells r)) 0 rfl rfl (by kernel_rfl) rfl ?_
    refine l_call (by kernel_rfl) rfl rfl (fun w' hw => ?_)
    refine (ddone_s b1_ m2_ kl4_ r w' (by first | assumption | omega | (simp <;> omega) | (constructor <;> (first | omega | (simp only [LenOk]; omega) | (simp <;> omega)))) (hw.give [4, 5] rfl (by decide))).mono ?_
    rintro _ w1 ⟨e12_, kl'13_, rfl, hf6_2, hf6_2_1, hO⟩
    refine (?_ : CL _ _ _ _ _ _ (Own w [] [Res.row b5 26 (RepD.cells r), Res.row wb3_ 42 [lv5_], Res.vec 26 6 lv5_ l6_.length (l6_.flatMap RepD.cells), Res.row b11 26 (RepD.cells x7_), Res.vec 26 6 v9_ l10_.length (l10_.flatMap RepD.cells), Res.row b1_ 56 [.map (some m2_)], Res.mp ekR repA m2_ kl'13_])) w1 (hw.frameL [4, 5] rfl hO)
    refine l_end ?_
    refine c_reg ?_
    refine l_mv rfl ?_
    refine l_mv rfl ?_
    refine l_mv rfl ?_
    refine l_call (by kernel_rfl) rfl rfl (fun w' hw => ?_)
    refine (dfind_s b1_ m2_ kl'13_ s q w' (hw.give [5, 6] rfl (by decide))).mono ?_
    rintro _ w1 ⟨x14_, e15_, rfl, hf7_3, hO⟩
    refine (?_ : CL _ _ _ _ _ _ (Own w [] [Res.row b5 26 (RepD.cells r), Res.row wb3_ 42 [lv5_], Res.vec 26 6 lv5_ l6_.length (l6_.flatMap RepD.cells), Res.row b11 26 (RepD.cells x7_), Res.vec 26 6 v9_ l10_.length (l10_.flatMap RepD.cells), Res.row b1_ 56 [.map (some m2_)], Res.mp ekR repA m2_ kl'13_])) w1 (hw.frameL [5, 6] rfl hO)
    refine l_mv rfl ?_
    refine l_ext (vs := [.agg (RepD.cells x14_).toArray, .int .i64 e15_]) rfl rfl rfl ?_
    refine l_ext (vs := [.agg (RepD.cells x14_).toArray, .int .i64 e15_]) rfl rfl rfl ?_
    refine l_new (v := .agg #[.int .u64 (0 : Nat), .int .u64 (0 : Nat), .int .i64 0, .int .u64 (0 : Nat), .int .i64 0, .int .i64 0]) (by kernel_rfl) rfl (fun b14 => ?_)
    refine l_stN (cs := [.int .u64 (0 : Nat), .int .u64 (0 : Nat), .int .i64 0, .int .u64 (0 : Nat), .int .i64 0, .int .i64 0]) (vs := [.int .u64 (x14_.session : Nat), .int .u64 (x14_.seq : Nat), .int .i64 x14_.e, .int .u64 (x14_.lease : Nat), .int .i64 x14_.amount, .int .i64 x14_.until_]) 7 rfl rfl rfl (by kernel_rfl) (allc_cons rfl (allc_cons rfl (allc_cons rfl (allc_cons rfl (allc_cons rfl (allc_cons rfl allc_nil)))))) (Nat.le_of_ble_eq_true rfl) ?_
    refine l_as rfl ?_
    refine l_end ?_
    refine c_reg ?_
    refine l_mv rfl ?_
    refine l_eq rfl rfl rfl ?_
    refine l_mv rfl ?_
    refine l_band (q := e8_ = 8) 2 2 [63, 62] (e15_ = 7) rfl rfl rfl rfl rfl rfl trivial rfl (fun h8_2 => ?_) (fun g8_5 => ?_)
    ·
      refine l_on rfl (gT h8_2) ?_
      refine l_mv rfl ?_
      refine l_on rfl (gT h8_2) ?_
      refine l_eq rfl rfl rfl ?_
      exact l_nil (fun w' hw => ⟨(by repeat (first | exact Out.refl _ _ | refine Out.upd rfl ?_ | refine Out.msk rfl ?_)), rfl, hw⟩)
    refine l_mv rfl ?_
    refine l_band (q := (e8_ = 8) ∧ (e15_ = 7)) 2 6 [67, 66] (((l10_.length : Nat) : Int) = 31) rfl rfl rfl rfl rfl rfl trivial rfl (fun h8_6 => ?_) (fun g8_9 => ?_)
    ·
      refine l_on rfl (gT h8_6) ?_
      refine l_mv rfl ?_
      refine l_on rfl (gT h8_6) ?_
      refine l_eq rfl rfl rfl ?_
      exact l_nil (fun w' hw => ⟨(by repeat (first | exact Out.refl _ _ | refine Out.upd rfl ?_ | refine Out.msk rfl ?_)), rfl, hw⟩)
    refine l_as rfl ?_
    refine l_end ?_
    refine c_reg ?_
    refine l_ldr (cs := (RepD.cells x7_)) 3 rfl rfl (by kernel_rfl) rfl ?_
    refine l_ldr (cs := (RepD.cells x14_)) 7 rfl rfl (by kernel_rfl) rfl ?_
    refine l_val rfl (v_stp (RepDEq x7_ x14_) (by kernel_rfl) (by kernel_rfl) rfl rfl rfl rfl) ?_
    refine l_mv rfl ?_
    refine l_band (q := x7_ = x14_) 6 3 [78, 77, 76, 75, 74, 73] ((e8_ = e15_) ∨ (((e8_ = 8) ∧ (e15_ = 7)) ∧ (((l10_.length : Nat) : Int) = 31))) rfl rfl rfl rfl rfl rfl trivial rfl (fun h9_3 => ?_) (fun g9_10 => ?_)
    ·
      refine l_on rfl (gT h9_3) ?_
      refine l_mv rfl ?_
      refine l_on rfl (gT h9_3) ?_
      refine l_mv rfl ?_
      refine l_on rfl (gT h9_3) ?_
      refine l_eq rfl rfl rfl ?_
      refine l_on rfl (gT h9_3) ?_
      refine l_mv rfl ?_
      refine l_bor (q := e8_ = e15_) 1 7 [77] (((e8_ = 8) ∧ (e15_ = 7)) ∧ (((l10_.length : Nat) : Int) = 31)) rfl rfl rfl rfl rfl rfl ⟨_, rfl, rfl, gT h9_3⟩ rfl (fun h9_7 => ?_) (fun g9_9 => ?_)
      ·
        refine l_on rfl (gF h9_7) ?_
        refine l_mv rfl ?_
        exact l_nil (fun w' hw => ⟨(by repeat (first | exact Out.refl _ _ | refine Out.upd rfl ?_ | refine Out.msk rfl ?_)), rfl, hw⟩)
      exact l_nil (fun w' hw => ⟨(by repeat (first | exact Out.refl _ _ | refine Out.upd rfl ?_ | refine Out.msk rfl ?_)), rfl, hw⟩)
    refine l_as rfl ?_
    refine l_end ?_
    exact c_ret (ret1 (v := .bool (decide ((x7_ = x14_) ∧ ((e8_ = e15_) ∨ (((e8_ = 8) ∧ (e15_ = 7)) ∧ (((l10_.length : Nat) : Int) = 31)))))) rfl rfl (fun w' hw => ⟨(by congr 1; exact decide_eq_true (apart ho hr (by omega) hf4_3 hf6_2_1 hf7_3 hln)), hw.drop⟩))
end Go.Proofs.Ytjnnobekbgpaaaa
