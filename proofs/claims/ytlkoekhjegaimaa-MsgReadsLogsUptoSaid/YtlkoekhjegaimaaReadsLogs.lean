/-
  THE WALK OF MsgReadsLogs.
-/
import Derived.Test.YtlkoekhjegaimaaDec
set_option linter.unusedVariables false
set_option maxRecDepth 10000
namespace Go.Proofs.Ytlkoekhjegaimaa
open Go Go.Sc Go.Proofs

theorem ValPost.getD {α : Type} {d : Option α} {x z : α} {e : Int} (h : ValPost d x z e) : x = d.getD z := by
  rcases h with ⟨_, h⟩ | ⟨_, h, rfl⟩ <;> rw [h] <;> rfl
theorem RefPost.getD {α : Type} {d : Option α} {x : α} {f : Bool} (h : RefPost d x f) (z : α) (hf : (!f) = false) : x = d.getD z := by
  rw [h.yes (by cases f; cases hf; rfl)]; rfl
theorem RefPost.getZ {α : Type} {d : Option α} {x : α} {f : Bool} (h : RefPost d x f) (z : α) (hf : (!f) = true) : z = d.getD z := by
  rw [h.no (by cases f; rfl; cases hf)]; rfl
theorem reads1 {α : Type} {d : Option α} {x x' z : α} {e : Int} {f : Bool} (h : ValPost d x z e) (h' : RefPost d x' f) : f = true → e = 0 := fun q => h.iff.2 (by rw [h'.yes q]; rfl)
theorem reads2 {α : Type} {d : Option α} {x x' z : α} {e : Int} {f : Bool} (h : ValPost d x z e) (h' : RefPost d x' f) : f = false → e = 4 := fun q => by
  rcases h with ⟨_, h⟩ | ⟨h, _⟩
  · rw [h'.no q] at h; cases h
  · exact h
theorem HrdDEq (r s : HrdD) : eqL [(0, some (some .u64)), (1, some (some .i64))] r.cells s.cells = decide (r = s) := by
  obtain ⟨a, b⟩ := r
  obtain ⟨a', b'⟩ := s
  simp [eqL, HrdD.cells, eqC, HrdD.mk.injEq, Bool.decide_and]
  have h : ∀ m n : Nat, decide ((m : Int) = n) = decide (m = n) := fun m n => decide_eq_decide.2 (by omega)
  simp only [h]

set_option maxHeartbeats 2000000 in
theorem msgReadsLogs_s (v : Value) (b : List UInt8) (w : World) (hl : b.length ≤ 1000000000) (hb : Rd w [] (Res.sl v b.length (b.map vb))) : Rets Try.prog 5 #[v] w fun u_ w' => u_ = .bool true ∧ Own w [] [] w' := by
  refine fn_enter (args := [v]) Try.func5 rfl Try.ntmps5 rfl (Own.start w) ?_
  refine c_reg ?_
  refine l_as rfl ?_
  refine l_end ?_
  refine c_reg ?_
  refine l_bsl (e := 5) (sz := 1) (vs := []) (by kernel_rfl) rfl rfl (by simp [Value.cells]) (by decide) rfl (fun b20 => ?_)
  refine l_mv rfl ?_
  refine l_appM (l := ([] : List UInt8)) (l' := b) 0 (by kernel_rfl) rfl rfl rfl (fun w' hw' => Own.rd hb hw') (by first | omega | (simp; omega)) rfl (fun v22 => ?_)
  refine l_call (by kernel_rfl) rfl rfl (fun w' hw => ?_)
  refine (toEnt_s v22 b w' (by first | assumption | omega | (simp <;> omega) | (constructor <;> (first | omega | (simp only [LenOk]; omega) | (simp <;> omega)))) (hw.rdVec0 0 rfl)).mono ?_
  rintro _ w1 ⟨i1_, t2_, k3_, d4_, dv5_, dl6_, e7_, rfl, hf1_3, hf1_3_1, hf1_3_2, hO⟩
  refine (?_ : CL _ _ _ _ _ _ (Own w [] [Res.vec 5 1 v22 b.length (b.map vb), Res.vec 5 1 dv5_ dl6_.length (dl6_.map vb)])) w1 (hw.frame0 hO)
  refine l_mv rfl ?_
  refine l_ext (vs := [.agg #[.int .u64 (i1_ : Nat), .int .u64 (t2_ : Nat), .int .i64 k3_, .int .i64 d4_, dv5_], .int .i64 e7_]) rfl rfl rfl ?_
  refine l_ext (vs := [.agg #[.int .u64 (i1_ : Nat), .int .u64 (t2_ : Nat), .int .i64 k3_, .int .i64 d4_, dv5_], .int .i64 e7_]) rfl rfl rfl ?_
  refine l_new (v := .agg #[.int .u64 (0 : Nat), .int .u64 (0 : Nat), .int .i64 0, .int .i64 0, .slice none 0 0]) (by kernel_rfl) rfl (fun b3 => ?_)
  refine l_haveO (fun w' hw => Own.cell1Vec (i := 1) rfl hw) (fun hc1_ => ?_)
  refine l_stN (cs := [.int .u64 (0 : Nat), .int .u64 (0 : Nat), .int .i64 0, .int .i64 0, .slice none 0 0]) (vs := [.int .u64 (i1_ : Nat), .int .u64 (t2_ : Nat), .int .i64 k3_, .int .i64 d4_, dv5_]) 2 rfl rfl rfl (by kernel_rfl) (allc_cons rfl (allc_cons rfl (allc_cons rfl (allc_cons rfl (allc_cons hc1_ allc_nil))))) (Nat.le_of_ble_eq_true rfl) ?_
  refine l_as rfl ?_
  refine l_end ?_
  refine c_reg ?_
  refine l_mv rfl ?_
  refine l_call (by kernel_rfl) rfl rfl (fun w' hw => ?_)
  refine (rtoEnt_s v b w' (by first | assumption | omega | (simp <;> omega) | (constructor <;> (first | omega | (simp only [LenOk]; omega) | (simp <;> omega)))) (hw.rd0 hb)).mono ?_
  rintro _ w1 ⟨i8_, t9_, k10_, d11_, dv12_, dl13_, f14_, rfl, hf2_1, hf2_1_1, hf2_1_2, hO⟩
  refine (?_ : CL _ _ _ _ _ _ (Own w [] [Res.vec 5 1 v22 b.length (b.map vb), Res.vec 5 1 dv5_ dl6_.length (dl6_.map vb), Res.row b3 50 [.int .u64 (i1_ : Nat), .int .u64 (t2_ : Nat), .int .i64 k3_, .int .i64 d4_, dv5_], Res.vec 5 1 dv12_ dl13_.length (dl13_.map vb)])) w1 (hw.frame0 hO)
  refine l_mv rfl ?_
  refine l_ext (vs := [.agg #[.int .u64 (i8_ : Nat), .int .u64 (t9_ : Nat), .int .i64 k10_, .int .i64 d11_, dv12_], .bool f14_]) rfl rfl rfl ?_
  refine l_ext (vs := [.agg #[.int .u64 (i8_ : Nat), .int .u64 (t9_ : Nat), .int .i64 k10_, .int .i64 d11_, dv12_], .bool f14_]) rfl rfl rfl ?_
  refine l_new (v := .agg #[.int .u64 (0 : Nat), .int .u64 (0 : Nat), .int .i64 0, .int .i64 0, .slice none 0 0]) (by kernel_rfl) rfl (fun b5 => ?_)
  refine l_haveO (fun w' hw => Own.cell1Vec (i := 3) rfl hw) (fun hc2_ => ?_)
  refine l_stN (cs := [.int .u64 (0 : Nat), .int .u64 (0 : Nat), .int .i64 0, .int .i64 0, .slice none 0 0]) (vs := [.int .u64 (i8_ : Nat), .int .u64 (t9_ : Nat), .int .i64 k10_, .int .i64 d11_, dv12_]) 4 rfl rfl rfl (by kernel_rfl) (allc_cons rfl (allc_cons rfl (allc_cons rfl (allc_cons rfl (allc_cons hc2_ allc_nil))))) (Nat.le_of_ble_eq_true rfl) ?_
  refine l_as rfl ?_
  refine l_end ?_
  refine c_reg ?_
  refine l_bsl (e := 5) (sz := 1) (vs := []) (by kernel_rfl) rfl rfl (by simp [Value.cells]) (by decide) rfl (fun b32 => ?_)
  refine l_mv rfl ?_
  refine l_appM (l := ([] : List UInt8)) (l' := b) 5 (by kernel_rfl) rfl rfl rfl (fun w' hw' => Own.rd hb hw') (by first | omega | (simp; omega)) rfl (fun v34 => ?_)
  refine l_call (by kernel_rfl) rfl rfl (fun w' hw => ?_)
  refine (toConf_s v34 b w' (by first | assumption | omega | (simp <;> omega) | (constructor <;> (first | omega | (simp only [LenOk]; omega) | (simp <;> omega)))) (hw.rdVec0 5 rfl)).mono ?_
  rintro _ w1 ⟨r115_, l116_, r217_, l218_, e19_, rfl, hf3_3, hf3_3_1, hf3_3_2, hO⟩
  refine (?_ : CL _ _ _ _ _ _ (Own w [] [Res.vec 5 1 v22 b.length (b.map vb), Res.vec 5 1 dv5_ dl6_.length (dl6_.map vb), Res.row b3 50 [.int .u64 (i1_ : Nat), .int .u64 (t2_ : Nat), .int .i64 k3_, .int .i64 d4_, dv5_], Res.vec 5 1 dv12_ dl13_.length (dl13_.map vb), Res.row b5 50 [.int .u64 (i8_ : Nat), .int .u64 (t9_ : Nat), .int .i64 k10_, .int .i64 d11_, dv12_], Res.vec 5 1 v34 b.length (b.map vb), Res.vec 3 1 r115_ l116_.length (l116_.flatMap I1), Res.vec 3 1 r217_ l218_.length (l218_.flatMap I1)])) w1 (hw.frame0 hO)
  refine l_mv rfl ?_
  refine l_ext (vs := [.agg #[r115_, r217_], .int .i64 e19_]) rfl rfl rfl ?_
  refine l_ext (vs := [.agg #[r115_, r217_], .int .i64 e19_]) rfl rfl rfl ?_
  refine l_new (v := .agg #[.slice none 0 0, .slice none 0 0]) (by kernel_rfl) rfl (fun b7 => ?_)
  refine l_haveO (fun w' hw => Own.cell1Vec (i := 6) rfl hw) (fun hc3_ => ?_)
  refine l_haveO (fun w' hw => Own.cell1Vec (i := 7) rfl hw) (fun hc4_ => ?_)
  refine l_stN (cs := [.slice none 0 0, .slice none 0 0]) (vs := [r115_, r217_]) 8 rfl rfl rfl (by kernel_rfl) (allc_cons hc3_ (allc_cons hc4_ allc_nil)) (Nat.le_of_ble_eq_true rfl) ?_
  refine l_as rfl ?_
  refine l_end ?_
  refine c_reg ?_
  refine l_mv rfl ?_
  refine l_call (by kernel_rfl) rfl rfl (fun w' hw => ?_)
  refine (rtoConf_s v b w' (by first | assumption | omega | (simp <;> omega) | (constructor <;> (first | omega | (simp only [LenOk]; omega) | (simp <;> omega)))) (hw.rd0 hb)).mono ?_
  rintro _ w1 ⟨r120_, l121_, r222_, l223_, f24_, rfl, hf4_1, hf4_1_1, hf4_1_2, hO⟩
  refine (?_ : CL _ _ _ _ _ _ (Own w [] [Res.vec 5 1 v22 b.length (b.map vb), Res.vec 5 1 dv5_ dl6_.length (dl6_.map vb), Res.row b3 50 [.int .u64 (i1_ : Nat), .int .u64 (t2_ : Nat), .int .i64 k3_, .int .i64 d4_, dv5_], Res.vec 5 1 dv12_ dl13_.length (dl13_.map vb), Res.row b5 50 [.int .u64 (i8_ : Nat), .int .u64 (t9_ : Nat), .int .i64 k10_, .int .i64 d11_, dv12_], Res.vec 5 1 v34 b.length (b.map vb), Res.vec 3 1 r115_ l116_.length (l116_.flatMap I1), Res.vec 3 1 r217_ l218_.length (l218_.flatMap I1), Res.row b7 53 [r115_, r217_], Res.vec 3 1 r120_ l121_.length (l121_.flatMap I1), Res.vec 3 1 r222_ l223_.length (l223_.flatMap I1)])) w1 (hw.frame0 hO)
  refine l_mv rfl ?_
  refine l_ext (vs := [.agg #[r120_, r222_], .bool f24_]) rfl rfl rfl ?_
  refine l_ext (vs := [.agg #[r120_, r222_], .bool f24_]) rfl rfl rfl ?_
  refine l_new (v := .agg #[.slice none 0 0, .slice none 0 0]) (by kernel_rfl) rfl (fun b9 => ?_)
  refine l_haveO (fun w' hw => Own.cell1Vec (i := 9) rfl hw) (fun hc5_ => ?_)
  refine l_haveO (fun w' hw => Own.cell1Vec (i := 10) rfl hw) (fun hc6_ => ?_)
  refine l_stN (cs := [.slice none 0 0, .slice none 0 0]) (vs := [r120_, r222_]) 11 rfl rfl rfl (by kernel_rfl) (allc_cons hc5_ (allc_cons hc6_ allc_nil)) (Nat.le_of_ble_eq_true rfl) ?_
  refine l_as rfl ?_
  refine l_end ?_
  refine c_reg ?_
  refine l_bsl (e := 5) (sz := 1) (vs := []) (by kernel_rfl) rfl rfl (by simp [Value.cells]) (by decide) rfl (fun b44 => ?_)
  refine l_mv rfl ?_
  refine l_appM (l := ([] : List UInt8)) (l' := b) 12 (by kernel_rfl) rfl rfl rfl (fun w' hw' => Own.rd hb hw') (by first | omega | (simp; omega)) rfl (fun v46 => ?_)
  refine l_call (by kernel_rfl) rfl rfl (fun w' hw => ?_)
  refine (toSht_s v46 b w' (by first | assumption | omega | (simp <;> omega) | (constructor <;> (first | omega | (simp only [LenOk]; omega) | (simp <;> omega)))) (hw.rdVec0 12 rfl)).mono ?_
  rintro _ w1 ⟨i25_, t26_, r127_, l128_, r229_, l230_, dv31_, dl32_, e33_, rfl, hf5_3, hf5_3_1, hf5_3_2, hf5_3_3, hO⟩
  refine (?_ : CL _ _ _ _ _ _ (Own w [] [Res.vec 5 1 v22 b.length (b.map vb), Res.vec 5 1 dv5_ dl6_.length (dl6_.map vb), Res.row b3 50 [.int .u64 (i1_ : Nat), .int .u64 (t2_ : Nat), .int .i64 k3_, .int .i64 d4_, dv5_], Res.vec 5 1 dv12_ dl13_.length (dl13_.map vb), Res.row b5 50 [.int .u64 (i8_ : Nat), .int .u64 (t9_ : Nat), .int .i64 k10_, .int .i64 d11_, dv12_], Res.vec 5 1 v34 b.length (b.map vb), Res.vec 3 1 r115_ l116_.length (l116_.flatMap I1), Res.vec 3 1 r217_ l218_.length (l218_.flatMap I1), Res.row b7 53 [r115_, r217_], Res.vec 3 1 r120_ l121_.length (l121_.flatMap I1), Res.vec 3 1 r222_ l223_.length (l223_.flatMap I1), Res.row b9 53 [r120_, r222_], Res.vec 5 1 v46 b.length (b.map vb), Res.vec 3 1 r127_ l128_.length (l128_.flatMap I1), Res.vec 3 1 r229_ l230_.length (l230_.flatMap I1), Res.vec 5 1 dv31_ dl32_.length (dl32_.map vb)])) w1 (hw.frame0 hO)
  refine l_mv rfl ?_
  refine l_ext (vs := [.agg #[.int .u64 (i25_ : Nat), .int .u64 (t26_ : Nat), r127_, r229_, dv31_], .int .i64 e33_]) rfl rfl rfl ?_
  refine l_ext (vs := [.agg #[.int .u64 (i25_ : Nat), .int .u64 (t26_ : Nat), r127_, r229_, dv31_], .int .i64 e33_]) rfl rfl rfl ?_
  refine l_new (v := .agg #[.int .u64 (0 : Nat), .int .u64 (0 : Nat), .slice none 0 0, .slice none 0 0, .slice none 0 0]) (by kernel_rfl) rfl (fun b11 => ?_)
  refine l_haveO (fun w' hw => Own.cell1Vec (i := 13) rfl hw) (fun hc7_ => ?_)
  refine l_haveO (fun w' hw => Own.cell1Vec (i := 14) rfl hw) (fun hc8_ => ?_)
  refine l_haveO (fun w' hw => Own.cell1Vec (i := 15) rfl hw) (fun hc9_ => ?_)
  refine l_stN (cs := [.int .u64 (0 : Nat), .int .u64 (0 : Nat), .slice none 0 0, .slice none 0 0, .slice none 0 0]) (vs := [.int .u64 (i25_ : Nat), .int .u64 (t26_ : Nat), r127_, r229_, dv31_]) 16 rfl rfl rfl (by kernel_rfl) (allc_cons rfl (allc_cons rfl (allc_cons hc7_ (allc_cons hc8_ (allc_cons hc9_ allc_nil))))) (Nat.le_of_ble_eq_true rfl) ?_
  refine l_as rfl ?_
  refine l_end ?_
  refine c_reg ?_
  refine l_mv rfl ?_
  refine l_call (by kernel_rfl) rfl rfl (fun w' hw => ?_)
  refine (rtoSht_s v b w' (by first | assumption | omega | (simp <;> omega) | (constructor <;> (first | omega | (simp only [LenOk]; omega) | (simp <;> omega)))) (hw.rd0 hb)).mono ?_
  rintro _ w1 ⟨i34_, t35_, r136_, l137_, r238_, l239_, dv40_, dl41_, f42_, rfl, hf6_1, hf6_1_1, hf6_1_2, hf6_1_3, hO⟩
  refine (?_ : CL _ _ _ _ _ _ (Own w [] [Res.vec 5 1 v22 b.length (b.map vb), Res.vec 5 1 dv5_ dl6_.length (dl6_.map vb), Res.row b3 50 [.int .u64 (i1_ : Nat), .int .u64 (t2_ : Nat), .int .i64 k3_, .int .i64 d4_, dv5_], Res.vec 5 1 dv12_ dl13_.length (dl13_.map vb), Res.row b5 50 [.int .u64 (i8_ : Nat), .int .u64 (t9_ : Nat), .int .i64 k10_, .int .i64 d11_, dv12_], Res.vec 5 1 v34 b.length (b.map vb), Res.vec 3 1 r115_ l116_.length (l116_.flatMap I1), Res.vec 3 1 r217_ l218_.length (l218_.flatMap I1), Res.row b7 53 [r115_, r217_], Res.vec 3 1 r120_ l121_.length (l121_.flatMap I1), Res.vec 3 1 r222_ l223_.length (l223_.flatMap I1), Res.row b9 53 [r120_, r222_], Res.vec 5 1 v46 b.length (b.map vb), Res.vec 3 1 r127_ l128_.length (l128_.flatMap I1), Res.vec 3 1 r229_ l230_.length (l230_.flatMap I1), Res.vec 5 1 dv31_ dl32_.length (dl32_.map vb), Res.row b11 55 [.int .u64 (i25_ : Nat), .int .u64 (t26_ : Nat), r127_, r229_, dv31_], Res.vec 3 1 r136_ l137_.length (l137_.flatMap I1), Res.vec 3 1 r238_ l239_.length (l239_.flatMap I1), Res.vec 5 1 dv40_ dl41_.length (dl41_.map vb)])) w1 (hw.frame0 hO)
  refine l_mv rfl ?_
  refine l_ext (vs := [.agg #[.int .u64 (i34_ : Nat), .int .u64 (t35_ : Nat), r136_, r238_, dv40_], .bool f42_]) rfl rfl rfl ?_
  refine l_ext (vs := [.agg #[.int .u64 (i34_ : Nat), .int .u64 (t35_ : Nat), r136_, r238_, dv40_], .bool f42_]) rfl rfl rfl ?_
  refine l_new (v := .agg #[.int .u64 (0 : Nat), .int .u64 (0 : Nat), .slice none 0 0, .slice none 0 0, .slice none 0 0]) (by kernel_rfl) rfl (fun b13 => ?_)
  refine l_haveO (fun w' hw => Own.cell1Vec (i := 17) rfl hw) (fun hc10_ => ?_)
  refine l_haveO (fun w' hw => Own.cell1Vec (i := 18) rfl hw) (fun hc11_ => ?_)
  refine l_haveO (fun w' hw => Own.cell1Vec (i := 19) rfl hw) (fun hc12_ => ?_)
  refine l_stN (cs := [.int .u64 (0 : Nat), .int .u64 (0 : Nat), .slice none 0 0, .slice none 0 0, .slice none 0 0]) (vs := [.int .u64 (i34_ : Nat), .int .u64 (t35_ : Nat), r136_, r238_, dv40_]) 20 rfl rfl rfl (by kernel_rfl) (allc_cons rfl (allc_cons rfl (allc_cons hc10_ (allc_cons hc11_ (allc_cons hc12_ allc_nil))))) (Nat.le_of_ble_eq_true rfl) ?_
  refine l_as rfl ?_
  refine l_end ?_
  refine c_reg ?_
  refine l_bsl (e := 5) (sz := 1) (vs := []) (by kernel_rfl) rfl rfl (by simp [Value.cells]) (by decide) rfl (fun b56 => ?_)
  refine l_mv rfl ?_
  refine l_appM (l := ([] : List UInt8)) (l' := b) 21 (by kernel_rfl) rfl rfl rfl (fun w' hw' => Own.rd hb hw') (by first | omega | (simp; omega)) rfl (fun v58 => ?_)
  refine l_call (by kernel_rfl) rfl rfl (fun w' hw => ?_)
  refine (toHrd_s v58 b w' (by first | assumption | omega | (simp <;> omega) | (constructor <;> (first | omega | (simp only [LenOk]; omega) | (simp <;> omega)))) (hw.rdVec0 21 rfl)).mono ?_
  rintro _ w1 ⟨t43_, k44_, e45_, rfl, hf7_3, hf7_3_1, hO⟩
  refine (?_ : CL _ _ _ _ _ _ (Own w [] [Res.vec 5 1 v22 b.length (b.map vb), Res.vec 5 1 dv5_ dl6_.length (dl6_.map vb), Res.row b3 50 [.int .u64 (i1_ : Nat), .int .u64 (t2_ : Nat), .int .i64 k3_, .int .i64 d4_, dv5_], Res.vec 5 1 dv12_ dl13_.length (dl13_.map vb), Res.row b5 50 [.int .u64 (i8_ : Nat), .int .u64 (t9_ : Nat), .int .i64 k10_, .int .i64 d11_, dv12_], Res.vec 5 1 v34 b.length (b.map vb), Res.vec 3 1 r115_ l116_.length (l116_.flatMap I1), Res.vec 3 1 r217_ l218_.length (l218_.flatMap I1), Res.row b7 53 [r115_, r217_], Res.vec 3 1 r120_ l121_.length (l121_.flatMap I1), Res.vec 3 1 r222_ l223_.length (l223_.flatMap I1), Res.row b9 53 [r120_, r222_], Res.vec 5 1 v46 b.length (b.map vb), Res.vec 3 1 r127_ l128_.length (l128_.flatMap I1), Res.vec 3 1 r229_ l230_.length (l230_.flatMap I1), Res.vec 5 1 dv31_ dl32_.length (dl32_.map vb), Res.row b11 55 [.int .u64 (i25_ : Nat), .int .u64 (t26_ : Nat), r127_, r229_, dv31_], Res.vec 3 1 r136_ l137_.length (l137_.flatMap I1), Res.vec 3 1 r238_ l239_.length (l239_.flatMap I1), Res.vec 5 1 dv40_ dl41_.length (dl41_.map vb), Res.row b13 55 [.int .u64 (i34_ : Nat), .int .u64 (t35_ : Nat), r136_, r238_, dv40_], Res.vec 5 1 v58 b.length (b.map vb)])) w1 (hw.frame0 hO)
  refine l_mv rfl ?_
  refine l_ext (vs := [.agg #[.int .u64 (t43_ : Nat), .int .i64 k44_], .int .i64 e45_]) rfl rfl rfl ?_
  refine l_ext (vs := [.agg #[.int .u64 (t43_ : Nat), .int .i64 k44_], .int .i64 e45_]) rfl rfl rfl ?_
  refine l_new (v := .agg #[.int .u64 (0 : Nat), .int .i64 0]) (by kernel_rfl) rfl (fun b15 => ?_)
  refine l_stN (cs := [.int .u64 (0 : Nat), .int .i64 0]) (vs := [.int .u64 (t43_ : Nat), .int .i64 k44_]) 22 rfl rfl rfl (by kernel_rfl) (allc_cons rfl (allc_cons rfl allc_nil)) (Nat.le_of_ble_eq_true rfl) ?_
  refine l_as rfl ?_
  refine l_end ?_
  refine c_reg ?_
  refine l_mv rfl ?_
  refine l_call (by kernel_rfl) rfl rfl (fun w' hw => ?_)
  refine (rtoHrd_s v b w' (by first | assumption | omega | (simp <;> omega) | (constructor <;> (first | omega | (simp only [LenOk]; omega) | (simp <;> omega)))) (hw.rd0 hb)).mono ?_
  rintro _ w1 ⟨t46_, k47_, f48_, rfl, hf8_1, hf8_1_1, hO⟩
  refine (?_ : CL _ _ _ _ _ _ (Own w [] [Res.vec 5 1 v22 b.length (b.map vb), Res.vec 5 1 dv5_ dl6_.length (dl6_.map vb), Res.row b3 50 [.int .u64 (i1_ : Nat), .int .u64 (t2_ : Nat), .int .i64 k3_, .int .i64 d4_, dv5_], Res.vec 5 1 dv12_ dl13_.length (dl13_.map vb), Res.row b5 50 [.int .u64 (i8_ : Nat), .int .u64 (t9_ : Nat), .int .i64 k10_, .int .i64 d11_, dv12_], Res.vec 5 1 v34 b.length (b.map vb), Res.vec 3 1 r115_ l116_.length (l116_.flatMap I1), Res.vec 3 1 r217_ l218_.length (l218_.flatMap I1), Res.row b7 53 [r115_, r217_], Res.vec 3 1 r120_ l121_.length (l121_.flatMap I1), Res.vec 3 1 r222_ l223_.length (l223_.flatMap I1), Res.row b9 53 [r120_, r222_], Res.vec 5 1 v46 b.length (b.map vb), Res.vec 3 1 r127_ l128_.length (l128_.flatMap I1), Res.vec 3 1 r229_ l230_.length (l230_.flatMap I1), Res.vec 5 1 dv31_ dl32_.length (dl32_.map vb), Res.row b11 55 [.int .u64 (i25_ : Nat), .int .u64 (t26_ : Nat), r127_, r229_, dv31_], Res.vec 3 1 r136_ l137_.length (l137_.flatMap I1), Res.vec 3 1 r238_ l239_.length (l239_.flatMap I1), Res.vec 5 1 dv40_ dl41_.length (dl41_.map vb), Res.row b13 55 [.int .u64 (i34_ : Nat), .int .u64 (t35_ : Nat), r136_, r238_, dv40_], Res.vec 5 1 v58 b.length (b.map vb), Res.row b15 57 [.int .u64 (t43_ : Nat), .int .i64 k44_]])) w1 (hw.frame0 hO)
  refine l_mv rfl ?_
  refine l_ext (vs := [.agg #[.int .u64 (t46_ : Nat), .int .i64 k47_], .bool f48_]) rfl rfl rfl ?_
  refine l_ext (vs := [.agg #[.int .u64 (t46_ : Nat), .int .i64 k47_], .bool f48_]) rfl rfl rfl ?_
  refine l_new (v := .agg #[.int .u64 (0 : Nat), .int .i64 0]) (by kernel_rfl) rfl (fun b17 => ?_)
  refine l_stN (cs := [.int .u64 (0 : Nat), .int .i64 0]) (vs := [.int .u64 (t46_ : Nat), .int .i64 k47_]) 23 rfl rfl rfl (by kernel_rfl) (allc_cons rfl (allc_cons rfl allc_nil)) (Nat.le_of_ble_eq_true rfl) ?_
  refine l_as rfl ?_
  refine l_end ?_
  refine c_cut1 (fun (y : EntD) => [(3, .pointer (some ⟨b3, 0, none⟩)), (4, .int .i64 e7_), (5, .pointer (some ⟨b5, 0, none⟩)), (6, .bool f14_), (7, .pointer (some ⟨b7, 0, none⟩)), (8, .int .i64 e19_), (9, .pointer (some ⟨b9, 0, none⟩)), (10, .bool f24_), (11, .pointer (some ⟨b11, 0, none⟩)), (12, .int .i64 e33_), (13, .pointer (some ⟨b13, 0, none⟩)), (14, .bool f42_), (15, .pointer (some ⟨b15, 0, none⟩)), (16, .int .i64 e45_), (17, .pointer (some ⟨b17, 0, none⟩)), (18, .bool f48_)]) (fun (y : EntD) => y.toEntA = (decEnt b).getD ⟨0, 0, 0, 0, []⟩ ∧ y.data.length ≤ 1000000000) (fun (y : EntD) => [Res.vec 5 1 dv5_ dl6_.length (dl6_.map vb), Res.row b3 50 [.int .u64 (i1_ : Nat), .int .u64 (t2_ : Nat), .int .i64 k3_, .int .i64 d4_, dv5_], Res.sl y.dv y.data.length (y.data.map vb), Res.row b5 50 (EntD.cells y), Res.vec 3 1 r115_ l116_.length (l116_.flatMap I1), Res.vec 3 1 r217_ l218_.length (l218_.flatMap I1), Res.row b7 53 [r115_, r217_], Res.vec 3 1 r120_ l121_.length (l121_.flatMap I1), Res.vec 3 1 r222_ l223_.length (l223_.flatMap I1), Res.row b9 53 [r120_, r222_], Res.vec 3 1 r127_ l128_.length (l128_.flatMap I1), Res.vec 3 1 r229_ l230_.length (l230_.flatMap I1), Res.vec 5 1 dv31_ dl32_.length (dl32_.map vb), Res.row b11 55 [.int .u64 (i25_ : Nat), .int .u64 (t26_ : Nat), r127_, r229_, dv31_], Res.vec 3 1 r136_ l137_.length (l137_.flatMap I1), Res.vec 3 1 r238_ l239_.length (l239_.flatMap I1), Res.vec 5 1 dv40_ dl41_.length (dl41_.map vb), Res.row b13 55 [.int .u64 (i34_ : Nat), .int .u64 (t35_ : Nat), r136_, r238_, dv40_], Res.row b15 57 [.int .u64 (t43_ : Nat), .int .i64 k44_], Res.row b17 57 [.int .u64 (t46_ : Nat), .int .i64 k47_]]) ?_ (fun y g hΦ => ?_)
  ·
    refine c_reg ?_
    refine l_mv rfl ?_
    refine l_not (b := f14_) rfl rfl ?_
    refine l_end ?_
    refine c_if rfl (fun c1 => ?_) (fun c1 => ?_)
    ·
      refine c_last ?_
      refine l_bld (cs := [.int .u64 (0 : Nat), .int .u64 (0 : Nat), .int .i64 0, .int .i64 0, .slice none 0 0]) (z := [.int .u64 (0 : Nat), .int .u64 (0 : Nat), .int .i64 0, .int .i64 0, .slice none 0 0]) (pl := [(0, 1), (1, 1), (2, 1), (3, 1), (4, 1)]) (by kernel_rfl) rfl rfl ?_
      refine l_stN (cs := [.int .u64 (i8_ : Nat), .int .u64 (t9_ : Nat), .int .i64 k10_, .int .i64 d11_, dv12_]) (vs := [.int .u64 (0 : Nat), .int .u64 (0 : Nat), .int .i64 0, .int .i64 0, .slice none 0 0]) 4 rfl rfl rfl (by kernel_rfl) (allc_cons rfl (allc_cons rfl (allc_cons rfl (allc_cons rfl (allc_cons rfl allc_nil))))) (Nat.le_of_ble_eq_true rfl) ?_
      exact l_nil (fun w' hw => ⟨({ index := 0, term := 0, kind := 0, delta := 0, data := [], dv := .slice none 0 0 } : EntD), ⟨rfl, rfl, rfl, rfl, rfl, rfl, rfl, rfl, rfl, rfl, rfl, rfl, rfl, rfl, rfl, rfl, trivial⟩, ⟨hf2_1.getZ _ c1, by simp⟩, ((own_nil hw 5 1).vecSl (i := 24) rfl).sel [1, 2, 24, 4, 6, 7, 8, 9, 10, 11, 13, 14, 15, 16, 17, 18, 19, 20, 22, 23] rfl (by decide)⟩)
    ·
      exact c_skip (fun w' hw => ⟨({ index := i8_, term := t9_, kind := k10_, delta := d11_, data := dl13_, dv := dv12_ } : EntD), ⟨rfl, rfl, rfl, rfl, rfl, rfl, rfl, rfl, rfl, rfl, rfl, rfl, rfl, rfl, rfl, rfl, trivial⟩, ⟨hf2_1.getD _ c1, by have := hf2_1_2; dsimp only; omega⟩, (hw.vecSl (i := 3) rfl).sel [1, 2, 3, 4, 6, 7, 8, 9, 10, 11, 13, 14, 15, 16, 17, 18, 19, 20, 22, 23] rfl (by decide)⟩)
  obtain ⟨hy1, hy2⟩ := hΦ
  refine c_cut1 (fun (z : ConfD) => [(3, .pointer (some ⟨b3, 0, none⟩)), (4, .int .i64 e7_), (5, .pointer (some ⟨b5, 0, none⟩)), (6, .bool f14_), (7, .pointer (some ⟨b7, 0, none⟩)), (8, .int .i64 e19_), (9, .pointer (some ⟨b9, 0, none⟩)), (10, .bool f24_), (11, .pointer (some ⟨b11, 0, none⟩)), (12, .int .i64 e33_), (13, .pointer (some ⟨b13, 0, none⟩)), (14, .bool f42_), (15, .pointer (some ⟨b15, 0, none⟩)), (16, .int .i64 e45_), (17, .pointer (some ⟨b17, 0, none⟩)), (18, .bool f48_)]) (fun (z : ConfD) => z.a = (decConf b).getD ⟨[], []⟩ ∧ z.vs.length ≤ 16 ∧ z.ls.length ≤ 16) (fun (z : ConfD) => [Res.vec 5 1 dv5_ dl6_.length (dl6_.map vb), Res.row b3 50 [.int .u64 (i1_ : Nat), .int .u64 (t2_ : Nat), .int .i64 k3_, .int .i64 d4_, dv5_], Res.sl y.dv y.data.length (y.data.map vb), Res.row b5 50 (EntD.cells y), Res.vec 3 1 r115_ l116_.length (l116_.flatMap I1), Res.vec 3 1 r217_ l218_.length (l218_.flatMap I1), Res.row b7 53 [r115_, r217_], Res.sl z.vv z.vs.length (z.vs.flatMap I1), Res.sl z.lv z.ls.length (z.ls.flatMap I1), Res.row b9 53 (ConfD.cells z), Res.vec 3 1 r127_ l128_.length (l128_.flatMap I1), Res.vec 3 1 r229_ l230_.length (l230_.flatMap I1), Res.vec 5 1 dv31_ dl32_.length (dl32_.map vb), Res.row b11 55 [.int .u64 (i25_ : Nat), .int .u64 (t26_ : Nat), r127_, r229_, dv31_], Res.vec 3 1 r136_ l137_.length (l137_.flatMap I1), Res.vec 3 1 r238_ l239_.length (l239_.flatMap I1), Res.vec 5 1 dv40_ dl41_.length (dl41_.map vb), Res.row b13 55 [.int .u64 (i34_ : Nat), .int .u64 (t35_ : Nat), r136_, r238_, dv40_], Res.row b15 57 [.int .u64 (t43_ : Nat), .int .i64 k44_], Res.row b17 57 [.int .u64 (t46_ : Nat), .int .i64 k47_]]) ?_ (fun z g hΦ => ?_)
  ·
    refine c_reg ?_
    refine l_mv rfl ?_
    refine l_not (b := f24_) rfl rfl ?_
    refine l_end ?_
    refine c_if rfl (fun c2 => ?_) (fun c2 => ?_)
    ·
      refine c_last ?_
      refine l_bld (cs := [.slice none 0 0, .slice none 0 0]) (z := [.slice none 0 0, .slice none 0 0]) (pl := [(0, 1), (1, 1)]) (by kernel_rfl) rfl rfl ?_
      refine l_stN (cs := [r120_, r222_]) (vs := [.slice none 0 0, .slice none 0 0]) 9 rfl rfl rfl (by kernel_rfl) (allc_cons rfl (allc_cons rfl allc_nil)) (Nat.le_of_ble_eq_true rfl) ?_
      exact l_nil (fun w' hw => ⟨({ vv := .slice none 0 0, vs := [], lv := .slice none 0 0, ls := [] } : ConfD), ⟨rfl, rfl, rfl, rfl, rfl, rfl, rfl, rfl, rfl, rfl, rfl, rfl, rfl, rfl, rfl, rfl, trivial⟩, ⟨hf4_1.getZ _ c2, by simp, by simp⟩, ((own_nil ((own_nil hw 3 1).vecSl (i := 20) rfl) 3 1).vecSl (i := 21) rfl).sel [0, 1, 2, 3, 4, 5, 6, 20, 21, 9, 10, 11, 12, 13, 14, 15, 16, 17, 18, 19] rfl (by decide)⟩)
    ·
      exact c_skip (fun w' hw => ⟨({ vv := r120_, vs := l121_, lv := r222_, ls := l223_ } : ConfD), ⟨rfl, rfl, rfl, rfl, rfl, rfl, rfl, rfl, rfl, rfl, rfl, rfl, rfl, rfl, rfl, rfl, trivial⟩, ⟨hf4_1.getD _ c2, hf4_1_1, hf4_1_2⟩, ((hw.vecSl (i := 7) rfl).vecSl (i := 8) rfl)⟩)
  obtain ⟨hz1, hz2, hz3⟩ := hΦ
  refine c_cut1 (fun (u : ShtD) => [(3, .pointer (some ⟨b3, 0, none⟩)), (4, .int .i64 e7_), (5, .pointer (some ⟨b5, 0, none⟩)), (6, .bool f14_), (7, .pointer (some ⟨b7, 0, none⟩)), (8, .int .i64 e19_), (9, .pointer (some ⟨b9, 0, none⟩)), (10, .bool f24_), (11, .pointer (some ⟨b11, 0, none⟩)), (12, .int .i64 e33_), (13, .pointer (some ⟨b13, 0, none⟩)), (14, .bool f42_), (15, .pointer (some ⟨b15, 0, none⟩)), (16, .int .i64 e45_), (17, .pointer (some ⟨b17, 0, none⟩)), (18, .bool f48_)]) (fun (u : ShtD) => u.a = (decSht b).getD ⟨0, 0, ⟨[], []⟩, []⟩ ∧ u.wf) (fun (u : ShtD) => [Res.vec 5 1 dv5_ dl6_.length (dl6_.map vb), Res.row b3 50 [.int .u64 (i1_ : Nat), .int .u64 (t2_ : Nat), .int .i64 k3_, .int .i64 d4_, dv5_], Res.sl y.dv y.data.length (y.data.map vb), Res.row b5 50 (EntD.cells y), Res.vec 3 1 r115_ l116_.length (l116_.flatMap I1), Res.vec 3 1 r217_ l218_.length (l218_.flatMap I1), Res.row b7 53 [r115_, r217_], Res.sl z.vv z.vs.length (z.vs.flatMap I1), Res.sl z.lv z.ls.length (z.ls.flatMap I1), Res.row b9 53 (ConfD.cells z), Res.vec 3 1 r127_ l128_.length (l128_.flatMap I1), Res.vec 3 1 r229_ l230_.length (l230_.flatMap I1), Res.vec 5 1 dv31_ dl32_.length (dl32_.map vb), Res.row b11 55 [.int .u64 (i25_ : Nat), .int .u64 (t26_ : Nat), r127_, r229_, dv31_], Res.sl u.conf.vv u.conf.vs.length (u.conf.vs.flatMap I1), Res.sl u.conf.lv u.conf.ls.length (u.conf.ls.flatMap I1), Res.sl u.dv u.data.length (u.data.map vb), Res.row b13 55 (ShtD.cells u), Res.row b15 57 [.int .u64 (t43_ : Nat), .int .i64 k44_], Res.row b17 57 [.int .u64 (t46_ : Nat), .int .i64 k47_]]) ?_ (fun u g hΦ => ?_)
  ·
    refine c_reg ?_
    refine l_mv rfl ?_
    refine l_not (b := f42_) rfl rfl ?_
    refine l_end ?_
    refine c_if rfl (fun c3 => ?_) (fun c3 => ?_)
    ·
      refine c_last ?_
      refine l_bld (cs := [.int .u64 (0 : Nat), .int .u64 (0 : Nat), .slice none 0 0, .slice none 0 0, .slice none 0 0]) (z := [.int .u64 (0 : Nat), .int .u64 (0 : Nat), .slice none 0 0, .slice none 0 0, .slice none 0 0]) (pl := [(0, 1), (1, 1), (2, 2), (4, 1)]) (by kernel_rfl) rfl rfl ?_
      refine l_stN (cs := [.int .u64 (i34_ : Nat), .int .u64 (t35_ : Nat), r136_, r238_, dv40_]) (vs := [.int .u64 (0 : Nat), .int .u64 (0 : Nat), .slice none 0 0, .slice none 0 0, .slice none 0 0]) 17 rfl rfl rfl (by kernel_rfl) (allc_cons rfl (allc_cons rfl (allc_cons rfl (allc_cons rfl (allc_cons rfl allc_nil))))) (Nat.le_of_ble_eq_true rfl) ?_
      exact l_nil (fun w' hw => ⟨({ index := 0, term := 0, conf := ({ vv := .slice none 0 0, vs := [], lv := .slice none 0 0, ls := [] } : ConfD), data := [], dv := .slice none 0 0 } : ShtD), ⟨rfl, rfl, rfl, rfl, rfl, rfl, rfl, rfl, rfl, rfl, rfl, rfl, rfl, rfl, rfl, rfl, trivial⟩, ⟨hf6_1.getZ _ c3, ⟨by simp, by simp, ⟨by simp, by simp⟩, by simp⟩⟩, ((own_nil ((own_nil ((own_nil hw 3 1).vecSl (i := 20) rfl) 3 1).vecSl (i := 21) rfl) 5 1).vecSl (i := 22) rfl).sel [0, 1, 2, 3, 4, 5, 6, 7, 8, 9, 10, 11, 12, 13, 20, 21, 22, 17, 18, 19] rfl (by decide)⟩)
    ·
      exact c_skip (fun w' hw => ⟨({ index := i34_, term := t35_, conf := ({ vv := r136_, vs := l137_, lv := r238_, ls := l239_ } : ConfD), data := dl41_, dv := dv40_ } : ShtD), ⟨rfl, rfl, rfl, rfl, rfl, rfl, rfl, rfl, rfl, rfl, rfl, rfl, rfl, rfl, rfl, rfl, trivial⟩, ⟨hf6_1.getD _ c3, ⟨hf6_1_1.1, hf6_1_1.2, ⟨by have := hf6_1_2.1; dsimp only; omega, by have := hf6_1_2.2; dsimp only; omega⟩, by have := hf6_1_3; dsimp only; omega⟩⟩, (((hw.vecSl (i := 14) rfl).vecSl (i := 15) rfl).vecSl (i := 16) rfl)⟩)
  obtain ⟨hu1, hu2⟩ := hΦ
  refine c_cut1 (fun (k : HrdD) => [(3, .pointer (some ⟨b3, 0, none⟩)), (4, .int .i64 e7_), (5, .pointer (some ⟨b5, 0, none⟩)), (6, .bool f14_), (7, .pointer (some ⟨b7, 0, none⟩)), (8, .int .i64 e19_), (9, .pointer (some ⟨b9, 0, none⟩)), (10, .bool f24_), (11, .pointer (some ⟨b11, 0, none⟩)), (12, .int .i64 e33_), (13, .pointer (some ⟨b13, 0, none⟩)), (14, .bool f42_), (15, .pointer (some ⟨b15, 0, none⟩)), (16, .int .i64 e45_), (17, .pointer (some ⟨b17, 0, none⟩)), (18, .bool f48_)]) (fun (k : HrdD) => k = (decHrd b).getD ⟨0, 0⟩) (fun (k : HrdD) => [Res.vec 5 1 dv5_ dl6_.length (dl6_.map vb), Res.row b3 50 [.int .u64 (i1_ : Nat), .int .u64 (t2_ : Nat), .int .i64 k3_, .int .i64 d4_, dv5_], Res.sl y.dv y.data.length (y.data.map vb), Res.row b5 50 (EntD.cells y), Res.vec 3 1 r115_ l116_.length (l116_.flatMap I1), Res.vec 3 1 r217_ l218_.length (l218_.flatMap I1), Res.row b7 53 [r115_, r217_], Res.sl z.vv z.vs.length (z.vs.flatMap I1), Res.sl z.lv z.ls.length (z.ls.flatMap I1), Res.row b9 53 (ConfD.cells z), Res.vec 3 1 r127_ l128_.length (l128_.flatMap I1), Res.vec 3 1 r229_ l230_.length (l230_.flatMap I1), Res.vec 5 1 dv31_ dl32_.length (dl32_.map vb), Res.row b11 55 [.int .u64 (i25_ : Nat), .int .u64 (t26_ : Nat), r127_, r229_, dv31_], Res.sl u.conf.vv u.conf.vs.length (u.conf.vs.flatMap I1), Res.sl u.conf.lv u.conf.ls.length (u.conf.ls.flatMap I1), Res.sl u.dv u.data.length (u.data.map vb), Res.row b13 55 (ShtD.cells u), Res.row b15 57 [.int .u64 (t43_ : Nat), .int .i64 k44_], Res.row b17 57 (HrdD.cells k)]) ?_ (fun k g hΦ => ?_)
  ·
    refine c_reg ?_
    refine l_mv rfl ?_
    refine l_not (b := f48_) rfl rfl ?_
    refine l_end ?_
    refine c_if rfl (fun c4 => ?_) (fun c4 => ?_)
    ·
      refine c_last ?_
      refine l_bld (cs := [.int .u64 (0 : Nat), .int .i64 0]) (z := [.int .u64 (0 : Nat), .int .i64 0]) (pl := [(0, 1), (1, 1)]) (by kernel_rfl) rfl rfl ?_
      refine l_stN (cs := [.int .u64 (t46_ : Nat), .int .i64 k47_]) (vs := [.int .u64 (0 : Nat), .int .i64 0]) 19 rfl rfl rfl (by kernel_rfl) (allc_cons rfl (allc_cons rfl allc_nil)) (Nat.le_of_ble_eq_true rfl) ?_
      exact l_nil (fun w' hw => ⟨({ term := 0, vote := 0 } : HrdD), ⟨rfl, rfl, rfl, rfl, rfl, rfl, rfl, rfl, rfl, rfl, rfl, rfl, rfl, rfl, rfl, rfl, trivial⟩, hf8_1.getZ _ c4, hw⟩)
    ·
      exact c_skip (fun w' hw => ⟨({ term := t46_, vote := k47_ } : HrdD), ⟨rfl, rfl, rfl, rfl, rfl, rfl, rfl, rfl, rfl, rfl, rfl, rfl, rfl, rfl, rfl, rfl, trivial⟩, hf8_1.getD _ c4, hw⟩)
  have hk := hΦ
  refine c_reg ?_
  refine l_call (by kernel_rfl) rfl rfl (fun w' hw => ?_)
  refine (answers_s w').mono ?_
  rintro _ w1 ⟨rfl, hO⟩
  refine (?_ : CL _ _ _ _ _ _ (Own w [] [Res.vec 5 1 dv5_ dl6_.length (dl6_.map vb), Res.row b3 50 [.int .u64 (i1_ : Nat), .int .u64 (t2_ : Nat), .int .i64 k3_, .int .i64 d4_, dv5_], Res.sl y.dv y.data.length (y.data.map vb), Res.row b5 50 (EntD.cells y), Res.vec 3 1 r115_ l116_.length (l116_.flatMap I1), Res.vec 3 1 r217_ l218_.length (l218_.flatMap I1), Res.row b7 53 [r115_, r217_], Res.sl z.vv z.vs.length (z.vs.flatMap I1), Res.sl z.lv z.ls.length (z.ls.flatMap I1), Res.row b9 53 (ConfD.cells z), Res.vec 3 1 r127_ l128_.length (l128_.flatMap I1), Res.vec 3 1 r229_ l230_.length (l230_.flatMap I1), Res.vec 5 1 dv31_ dl32_.length (dl32_.map vb), Res.row b11 55 [.int .u64 (i25_ : Nat), .int .u64 (t26_ : Nat), r127_, r229_, dv31_], Res.sl u.conf.vv u.conf.vs.length (u.conf.vs.flatMap I1), Res.sl u.conf.lv u.conf.ls.length (u.conf.ls.flatMap I1), Res.sl u.dv u.data.length (u.data.map vb), Res.row b13 55 (ShtD.cells u), Res.row b15 57 [.int .u64 (t43_ : Nat), .int .i64 k44_], Res.row b17 57 (HrdD.cells k)])) w1 (hw.frame0 hO)
  refine l_mv rfl ?_
  refine l_on rfl rfl ?_
  refine l_mv rfl ?_
  refine l_on rfl rfl ?_
  refine l_mv rfl ?_
  refine l_on rfl rfl ?_
  refine l_call (by kernel_rfl) rfl rfl (fun w' hw => ?_)
  refine (reads_s e7_ f14_ w' (reads1 hf1_3 hf2_1) (reads2 hf1_3 hf2_1)).mono ?_
  rintro _ w1 ⟨rfl, hO⟩
  refine (?_ : CL _ _ _ _ _ _ (Own w [] [Res.vec 5 1 dv5_ dl6_.length (dl6_.map vb), Res.row b3 50 [.int .u64 (i1_ : Nat), .int .u64 (t2_ : Nat), .int .i64 k3_, .int .i64 d4_, dv5_], Res.sl y.dv y.data.length (y.data.map vb), Res.row b5 50 (EntD.cells y), Res.vec 3 1 r115_ l116_.length (l116_.flatMap I1), Res.vec 3 1 r217_ l218_.length (l218_.flatMap I1), Res.row b7 53 [r115_, r217_], Res.sl z.vv z.vs.length (z.vs.flatMap I1), Res.sl z.lv z.ls.length (z.ls.flatMap I1), Res.row b9 53 (ConfD.cells z), Res.vec 3 1 r127_ l128_.length (l128_.flatMap I1), Res.vec 3 1 r229_ l230_.length (l230_.flatMap I1), Res.vec 5 1 dv31_ dl32_.length (dl32_.map vb), Res.row b11 55 [.int .u64 (i25_ : Nat), .int .u64 (t26_ : Nat), r127_, r229_, dv31_], Res.sl u.conf.vv u.conf.vs.length (u.conf.vs.flatMap I1), Res.sl u.conf.lv u.conf.ls.length (u.conf.ls.flatMap I1), Res.sl u.dv u.data.length (u.data.map vb), Res.row b13 55 (ShtD.cells u), Res.row b15 57 [.int .u64 (t43_ : Nat), .int .i64 k44_], Res.row b17 57 (HrdD.cells k)])) w1 (hw.frame0 hO)
  refine l_pickT rfl rfl ?_
  refine l_mv rfl ?_
  refine l_on rfl rfl ?_
  refine l_ldr (cs := [.int .u64 (i1_ : Nat), .int .u64 (t2_ : Nat), .int .i64 k3_, .int .i64 d4_, dv5_]) 1 rfl rfl (by kernel_rfl) rfl ?_
  refine l_on rfl rfl ?_
  refine l_ldr (cs := (EntD.cells y)) 3 rfl rfl (by kernel_rfl) rfl ?_
  refine l_on rfl rfl ?_
  refine l_call (by kernel_rfl) rfl rfl (fun w' hw => ?_)
  refine (sameEnt_s ({ index := i1_, term := t2_, kind := k3_, delta := d4_, dv := dv5_, data := dl6_ } : EntD) y w' (by have := hf1_3_2; dsimp only; omega) hy2 ⟨(hw.rdVec0 0 rfl)⟩ ⟨(hw.rdRes0 2 rfl)⟩).mono ?_
  rintro _ w1 ⟨rfl, hO⟩
  refine (?_ : CL _ _ _ _ _ _ (Own w [] [Res.vec 5 1 dv5_ dl6_.length (dl6_.map vb), Res.row b3 50 [.int .u64 (i1_ : Nat), .int .u64 (t2_ : Nat), .int .i64 k3_, .int .i64 d4_, dv5_], Res.sl y.dv y.data.length (y.data.map vb), Res.row b5 50 (EntD.cells y), Res.vec 3 1 r115_ l116_.length (l116_.flatMap I1), Res.vec 3 1 r217_ l218_.length (l218_.flatMap I1), Res.row b7 53 [r115_, r217_], Res.sl z.vv z.vs.length (z.vs.flatMap I1), Res.sl z.lv z.ls.length (z.ls.flatMap I1), Res.row b9 53 (ConfD.cells z), Res.vec 3 1 r127_ l128_.length (l128_.flatMap I1), Res.vec 3 1 r229_ l230_.length (l230_.flatMap I1), Res.vec 5 1 dv31_ dl32_.length (dl32_.map vb), Res.row b11 55 [.int .u64 (i25_ : Nat), .int .u64 (t26_ : Nat), r127_, r229_, dv31_], Res.sl u.conf.vv u.conf.vs.length (u.conf.vs.flatMap I1), Res.sl u.conf.lv u.conf.ls.length (u.conf.ls.flatMap I1), Res.sl u.dv u.data.length (u.data.map vb), Res.row b13 55 (ShtD.cells u), Res.row b15 57 [.int .u64 (t43_ : Nat), .int .i64 k44_], Res.row b17 57 (HrdD.cells k)])) w1 (hw.frame0 hO)
  refine l_pickT rfl rfl ?_
  refine l_mv rfl ?_
  refine l_band (q := ({ index := i1_, term := t2_, kind := k3_, delta := d4_, dv := dv5_, data := dl6_ } : EntD).toEntA = y.toEntA) 3 11 [93, 92, 91] (true = true) rfl rfl rfl rfl rfl rfl trivial rfl (fun h17_11 => ?_) (fun g17_15 => ?_)
  ·
    refine l_on rfl (gT h17_11) ?_
    refine l_mv rfl ?_
    refine l_on rfl (gT h17_11) ?_
    refine l_mv rfl ?_
    refine l_on rfl (gT h17_11) ?_
    refine l_call (by kernel_rfl) rfl rfl (fun w' hw => ?_)
    refine (reads_s e19_ f24_ w' (reads1 hf3_3 hf4_1) (reads2 hf3_3 hf4_1)).mono ?_
    rintro _ w1 ⟨rfl, hO⟩
    refine (?_ : CL _ _ _ _ _ _ (Own w [] [Res.vec 5 1 dv5_ dl6_.length (dl6_.map vb), Res.row b3 50 [.int .u64 (i1_ : Nat), .int .u64 (t2_ : Nat), .int .i64 k3_, .int .i64 d4_, dv5_], Res.sl y.dv y.data.length (y.data.map vb), Res.row b5 50 (EntD.cells y), Res.vec 3 1 r115_ l116_.length (l116_.flatMap I1), Res.vec 3 1 r217_ l218_.length (l218_.flatMap I1), Res.row b7 53 [r115_, r217_], Res.sl z.vv z.vs.length (z.vs.flatMap I1), Res.sl z.lv z.ls.length (z.ls.flatMap I1), Res.row b9 53 (ConfD.cells z), Res.vec 3 1 r127_ l128_.length (l128_.flatMap I1), Res.vec 3 1 r229_ l230_.length (l230_.flatMap I1), Res.vec 5 1 dv31_ dl32_.length (dl32_.map vb), Res.row b11 55 [.int .u64 (i25_ : Nat), .int .u64 (t26_ : Nat), r127_, r229_, dv31_], Res.sl u.conf.vv u.conf.vs.length (u.conf.vs.flatMap I1), Res.sl u.conf.lv u.conf.ls.length (u.conf.ls.flatMap I1), Res.sl u.dv u.data.length (u.data.map vb), Res.row b13 55 (ShtD.cells u), Res.row b15 57 [.int .u64 (t43_ : Nat), .int .i64 k44_], Res.row b17 57 (HrdD.cells k)])) w1 (hw.frame0 hO)
    exact l_nil (fun w' hw => ⟨(by repeat (first | exact Out.refl _ _ | refine Out.upd rfl ?_ | refine Out.msk rfl ?_)), (bool_dec _), hw⟩)
  refine l_mv rfl ?_
  refine l_band (q := (({ index := i1_, term := t2_, kind := k3_, delta := d4_, dv := dv5_, data := dl6_ } : EntD).toEntA = y.toEntA) ∧ (true = true)) 3 16 [98, 97, 96] (({ vv := r115_, vs := l116_, lv := r217_, ls := l218_ } : ConfD).vs = z.vs ∧ ({ vv := r115_, vs := l116_, lv := r217_, ls := l218_ } : ConfD).ls = z.ls) rfl rfl rfl rfl rfl rfl trivial rfl (fun h17_16 => ?_) (fun g17_20 => ?_)
  ·
    refine l_on rfl (gT h17_16) ?_
    refine l_ldr (cs := [r115_, r217_]) 6 rfl rfl (by kernel_rfl) rfl ?_
    refine l_on rfl (gT h17_16) ?_
    refine l_ldr (cs := (ConfD.cells z)) 9 rfl rfl (by kernel_rfl) rfl ?_
    refine l_on rfl (gT h17_16) ?_
    refine l_call (by kernel_rfl) rfl rfl (fun w' hw => ?_)
    refine (sameConf_spec ({ vv := r115_, vs := l116_, lv := r217_, ls := l218_ } : ConfD) z w' (by first | assumption | omega | (simp <;> omega) | (constructor <;> (first | omega | (simp only [LenOk]; omega) | (simp <;> omega)))) (by first | assumption | omega | (simp <;> omega) | (constructor <;> (first | omega | (simp only [LenOk]; omega) | (simp <;> omega)))) (by first | assumption | omega | (simp <;> omega) | (constructor <;> (first | omega | (simp only [LenOk]; omega) | (simp <;> omega)))) (by first | assumption | omega | (simp <;> omega) | (constructor <;> (first | omega | (simp only [LenOk]; omega) | (simp <;> omega)))) ⟨(hw.rdVec0 4 rfl), (hw.rdVec0 5 rfl)⟩ ⟨(hw.rdRes0 7 rfl), (hw.rdRes0 8 rfl)⟩).mono ?_
    rintro _ w1 ⟨rfl, hO⟩
    refine (?_ : CL _ _ _ _ _ _ (Own w [] [Res.vec 5 1 dv5_ dl6_.length (dl6_.map vb), Res.row b3 50 [.int .u64 (i1_ : Nat), .int .u64 (t2_ : Nat), .int .i64 k3_, .int .i64 d4_, dv5_], Res.sl y.dv y.data.length (y.data.map vb), Res.row b5 50 (EntD.cells y), Res.vec 3 1 r115_ l116_.length (l116_.flatMap I1), Res.vec 3 1 r217_ l218_.length (l218_.flatMap I1), Res.row b7 53 [r115_, r217_], Res.sl z.vv z.vs.length (z.vs.flatMap I1), Res.sl z.lv z.ls.length (z.ls.flatMap I1), Res.row b9 53 (ConfD.cells z), Res.vec 3 1 r127_ l128_.length (l128_.flatMap I1), Res.vec 3 1 r229_ l230_.length (l230_.flatMap I1), Res.vec 5 1 dv31_ dl32_.length (dl32_.map vb), Res.row b11 55 [.int .u64 (i25_ : Nat), .int .u64 (t26_ : Nat), r127_, r229_, dv31_], Res.sl u.conf.vv u.conf.vs.length (u.conf.vs.flatMap I1), Res.sl u.conf.lv u.conf.ls.length (u.conf.ls.flatMap I1), Res.sl u.dv u.data.length (u.data.map vb), Res.row b13 55 (ShtD.cells u), Res.row b15 57 [.int .u64 (t43_ : Nat), .int .i64 k44_], Res.row b17 57 (HrdD.cells k)])) w1 (hw.frame0 hO)
    exact l_nil (fun w' hw => ⟨(by repeat (first | exact Out.refl _ _ | refine Out.upd rfl ?_ | refine Out.msk rfl ?_)), rfl, hw⟩)
  refine l_mv rfl ?_
  refine l_band (q := ((({ index := i1_, term := t2_, kind := k3_, delta := d4_, dv := dv5_, data := dl6_ } : EntD).toEntA = y.toEntA) ∧ (true = true)) ∧ (({ vv := r115_, vs := l116_, lv := r217_, ls := l218_ } : ConfD).vs = z.vs ∧ ({ vv := r115_, vs := l116_, lv := r217_, ls := l218_ } : ConfD).ls = z.ls)) 3 21 [103, 102, 101] (true = true) rfl rfl rfl rfl rfl rfl trivial rfl (fun h17_21 => ?_) (fun g17_25 => ?_)
  ·
    refine l_on rfl (gT h17_21) ?_
    refine l_mv rfl ?_
    refine l_on rfl (gT h17_21) ?_
    refine l_mv rfl ?_
    refine l_on rfl (gT h17_21) ?_
    refine l_call (by kernel_rfl) rfl rfl (fun w' hw => ?_)
    refine (reads_s e33_ f42_ w' (reads1 hf5_3 hf6_1) (reads2 hf5_3 hf6_1)).mono ?_
    rintro _ w1 ⟨rfl, hO⟩
    refine (?_ : CL _ _ _ _ _ _ (Own w [] [Res.vec 5 1 dv5_ dl6_.length (dl6_.map vb), Res.row b3 50 [.int .u64 (i1_ : Nat), .int .u64 (t2_ : Nat), .int .i64 k3_, .int .i64 d4_, dv5_], Res.sl y.dv y.data.length (y.data.map vb), Res.row b5 50 (EntD.cells y), Res.vec 3 1 r115_ l116_.length (l116_.flatMap I1), Res.vec 3 1 r217_ l218_.length (l218_.flatMap I1), Res.row b7 53 [r115_, r217_], Res.sl z.vv z.vs.length (z.vs.flatMap I1), Res.sl z.lv z.ls.length (z.ls.flatMap I1), Res.row b9 53 (ConfD.cells z), Res.vec 3 1 r127_ l128_.length (l128_.flatMap I1), Res.vec 3 1 r229_ l230_.length (l230_.flatMap I1), Res.vec 5 1 dv31_ dl32_.length (dl32_.map vb), Res.row b11 55 [.int .u64 (i25_ : Nat), .int .u64 (t26_ : Nat), r127_, r229_, dv31_], Res.sl u.conf.vv u.conf.vs.length (u.conf.vs.flatMap I1), Res.sl u.conf.lv u.conf.ls.length (u.conf.ls.flatMap I1), Res.sl u.dv u.data.length (u.data.map vb), Res.row b13 55 (ShtD.cells u), Res.row b15 57 [.int .u64 (t43_ : Nat), .int .i64 k44_], Res.row b17 57 (HrdD.cells k)])) w1 (hw.frame0 hO)
    exact l_nil (fun w' hw => ⟨(by repeat (first | exact Out.refl _ _ | refine Out.upd rfl ?_ | refine Out.msk rfl ?_)), (bool_dec _), hw⟩)
  refine l_mv rfl ?_
  refine l_band (q := (((({ index := i1_, term := t2_, kind := k3_, delta := d4_, dv := dv5_, data := dl6_ } : EntD).toEntA = y.toEntA) ∧ (true = true)) ∧ (({ vv := r115_, vs := l116_, lv := r217_, ls := l218_ } : ConfD).vs = z.vs ∧ ({ vv := r115_, vs := l116_, lv := r217_, ls := l218_ } : ConfD).ls = z.ls)) ∧ (true = true)) 3 26 [108, 107, 106] (({ index := i25_, term := t26_, conf := ({ vv := r127_, vs := l128_, lv := r229_, ls := l230_ } : ConfD), dv := dv31_, data := dl32_ } : ShtD).a = u.a) rfl rfl rfl rfl rfl rfl trivial rfl (fun h17_26 => ?_) (fun g17_30 => ?_)
  ·
    refine l_on rfl (gT h17_26) ?_
    refine l_ldr (cs := [.int .u64 (i25_ : Nat), .int .u64 (t26_ : Nat), r127_, r229_, dv31_]) 13 rfl rfl (by kernel_rfl) rfl ?_
    refine l_on rfl (gT h17_26) ?_
    refine l_ldr (cs := (ShtD.cells u)) 17 rfl rfl (by kernel_rfl) rfl ?_
    refine l_on rfl (gT h17_26) ?_
    refine l_call (by kernel_rfl) rfl rfl (fun w' hw => ?_)
    refine (sameSht_s ({ index := i25_, term := t26_, conf := ({ vv := r127_, vs := l128_, lv := r229_, ls := l230_ } : ConfD), dv := dv31_, data := dl32_ } : ShtD) u w' ⟨hf5_3_1.1, hf5_3_1.2, ⟨by have := hf5_3_2.1; dsimp only; omega, by have := hf5_3_2.2; dsimp only; omega⟩, by have := hf5_3_3; dsimp only; omega⟩ hu2 ⟨⟨(hw.rdVec0 10 rfl), (hw.rdVec0 11 rfl)⟩, (hw.rdVec0 12 rfl)⟩ ⟨⟨(hw.rdRes0 14 rfl), (hw.rdRes0 15 rfl)⟩, (hw.rdRes0 16 rfl)⟩).mono ?_
    rintro _ w1 ⟨rfl, hO⟩
    refine (?_ : CL _ _ _ _ _ _ (Own w [] [Res.vec 5 1 dv5_ dl6_.length (dl6_.map vb), Res.row b3 50 [.int .u64 (i1_ : Nat), .int .u64 (t2_ : Nat), .int .i64 k3_, .int .i64 d4_, dv5_], Res.sl y.dv y.data.length (y.data.map vb), Res.row b5 50 (EntD.cells y), Res.vec 3 1 r115_ l116_.length (l116_.flatMap I1), Res.vec 3 1 r217_ l218_.length (l218_.flatMap I1), Res.row b7 53 [r115_, r217_], Res.sl z.vv z.vs.length (z.vs.flatMap I1), Res.sl z.lv z.ls.length (z.ls.flatMap I1), Res.row b9 53 (ConfD.cells z), Res.vec 3 1 r127_ l128_.length (l128_.flatMap I1), Res.vec 3 1 r229_ l230_.length (l230_.flatMap I1), Res.vec 5 1 dv31_ dl32_.length (dl32_.map vb), Res.row b11 55 [.int .u64 (i25_ : Nat), .int .u64 (t26_ : Nat), r127_, r229_, dv31_], Res.sl u.conf.vv u.conf.vs.length (u.conf.vs.flatMap I1), Res.sl u.conf.lv u.conf.ls.length (u.conf.ls.flatMap I1), Res.sl u.dv u.data.length (u.data.map vb), Res.row b13 55 (ShtD.cells u), Res.row b15 57 [.int .u64 (t43_ : Nat), .int .i64 k44_], Res.row b17 57 (HrdD.cells k)])) w1 (hw.frame0 hO)
    exact l_nil (fun w' hw => ⟨(by repeat (first | exact Out.refl _ _ | refine Out.upd rfl ?_ | refine Out.msk rfl ?_)), rfl, hw⟩)
  refine l_mv rfl ?_
  refine l_band (q := ((((({ index := i1_, term := t2_, kind := k3_, delta := d4_, dv := dv5_, data := dl6_ } : EntD).toEntA = y.toEntA) ∧ (true = true)) ∧ (({ vv := r115_, vs := l116_, lv := r217_, ls := l218_ } : ConfD).vs = z.vs ∧ ({ vv := r115_, vs := l116_, lv := r217_, ls := l218_ } : ConfD).ls = z.ls)) ∧ (true = true)) ∧ (({ index := i25_, term := t26_, conf := ({ vv := r127_, vs := l128_, lv := r229_, ls := l230_ } : ConfD), dv := dv31_, data := dl32_ } : ShtD).a = u.a)) 3 31 [113, 112, 111] (true = true) rfl rfl rfl rfl rfl rfl trivial rfl (fun h17_31 => ?_) (fun g17_35 => ?_)
  ·
    refine l_on rfl (gT h17_31) ?_
    refine l_mv rfl ?_
    refine l_on rfl (gT h17_31) ?_
    refine l_mv rfl ?_
    refine l_on rfl (gT h17_31) ?_
    refine l_call (by kernel_rfl) rfl rfl (fun w' hw => ?_)
    refine (reads_s e45_ f48_ w' (reads1 hf7_3 hf8_1) (reads2 hf7_3 hf8_1)).mono ?_
    rintro _ w1 ⟨rfl, hO⟩
    refine (?_ : CL _ _ _ _ _ _ (Own w [] [Res.vec 5 1 dv5_ dl6_.length (dl6_.map vb), Res.row b3 50 [.int .u64 (i1_ : Nat), .int .u64 (t2_ : Nat), .int .i64 k3_, .int .i64 d4_, dv5_], Res.sl y.dv y.data.length (y.data.map vb), Res.row b5 50 (EntD.cells y), Res.vec 3 1 r115_ l116_.length (l116_.flatMap I1), Res.vec 3 1 r217_ l218_.length (l218_.flatMap I1), Res.row b7 53 [r115_, r217_], Res.sl z.vv z.vs.length (z.vs.flatMap I1), Res.sl z.lv z.ls.length (z.ls.flatMap I1), Res.row b9 53 (ConfD.cells z), Res.vec 3 1 r127_ l128_.length (l128_.flatMap I1), Res.vec 3 1 r229_ l230_.length (l230_.flatMap I1), Res.vec 5 1 dv31_ dl32_.length (dl32_.map vb), Res.row b11 55 [.int .u64 (i25_ : Nat), .int .u64 (t26_ : Nat), r127_, r229_, dv31_], Res.sl u.conf.vv u.conf.vs.length (u.conf.vs.flatMap I1), Res.sl u.conf.lv u.conf.ls.length (u.conf.ls.flatMap I1), Res.sl u.dv u.data.length (u.data.map vb), Res.row b13 55 (ShtD.cells u), Res.row b15 57 [.int .u64 (t43_ : Nat), .int .i64 k44_], Res.row b17 57 (HrdD.cells k)])) w1 (hw.frame0 hO)
    exact l_nil (fun w' hw => ⟨(by repeat (first | exact Out.refl _ _ | refine Out.upd rfl ?_ | refine Out.msk rfl ?_)), (bool_dec _), hw⟩)
  refine l_mv rfl ?_
  refine l_band (q := (((((({ index := i1_, term := t2_, kind := k3_, delta := d4_, dv := dv5_, data := dl6_ } : EntD).toEntA = y.toEntA) ∧ (true = true)) ∧ (({ vv := r115_, vs := l116_, lv := r217_, ls := l218_ } : ConfD).vs = z.vs ∧ ({ vv := r115_, vs := l116_, lv := r217_, ls := l218_ } : ConfD).ls = z.ls)) ∧ (true = true)) ∧ (({ index := i25_, term := t26_, conf := ({ vv := r127_, vs := l128_, lv := r229_, ls := l230_ } : ConfD), dv := dv31_, data := dl32_ } : ShtD).a = u.a)) ∧ (true = true)) 3 36 [118, 117, 116] (({ term := t43_, vote := k44_ } : HrdD) = k) rfl rfl rfl rfl rfl rfl trivial rfl (fun h17_36 => ?_) (fun g17_40 => ?_)
  ·
    refine l_on rfl (gT h17_36) ?_
    refine l_ldr (cs := [.int .u64 (t43_ : Nat), .int .i64 k44_]) 18 rfl rfl (by kernel_rfl) rfl ?_
    refine l_on rfl (gT h17_36) ?_
    refine l_ldr (cs := (HrdD.cells k)) 19 rfl rfl (by kernel_rfl) rfl ?_
    refine l_on rfl (gT h17_36) ?_
    refine l_val rfl (v_stp (HrdDEq ({ term := t43_, vote := k44_ } : HrdD) k) (by kernel_rfl) (by kernel_rfl) rfl rfl rfl rfl) ?_
    exact l_nil (fun w' hw => ⟨(by repeat (first | exact Out.refl _ _ | refine Out.upd rfl ?_ | refine Out.msk rfl ?_)), rfl, hw⟩)
  refine l_as rfl ?_
  refine l_end ?_
  exact c_ret (ret1 (v := .bool (decide (((((((({ index := i1_, term := t2_, kind := k3_, delta := d4_, dv := dv5_, data := dl6_ } : EntD).toEntA = y.toEntA) ∧ (true = true)) ∧ (({ vv := r115_, vs := l116_, lv := r217_, ls := l218_ } : ConfD).vs = z.vs ∧ ({ vv := r115_, vs := l116_, lv := r217_, ls := l218_ } : ConfD).ls = z.ls)) ∧ (true = true)) ∧ (({ index := i25_, term := t26_, conf := ({ vv := r127_, vs := l128_, lv := r229_, ls := l230_ } : ConfD), dv := dv31_, data := dl32_ } : ShtD).a = u.a)) ∧ (true = true)) ∧ (({ term := t43_, vote := k44_ } : HrdD) = k)))) rfl rfl (fun w' hw => ⟨(by congr 1; exact decide_eq_true ⟨⟨⟨⟨⟨⟨(hf1_3.getD).trans hy1.symm, rfl⟩, ConfA.mk.inj ((hf3_3.getD).trans hz1.symm)⟩, rfl⟩, (hf5_3.getD).trans hu1.symm⟩, rfl⟩, (hf7_3.getD).trans hk.symm⟩), hw.drop⟩))
end Go.Proofs.Ytlkoekhjegaimaa
