/-
  THE WALK OF RlogMatches.
-/
import Derived.Test.YtibbkbgodomfkaaRlogP
set_option linter.unusedVariables false
set_option maxRecDepth 10000
namespace Go.Proofs.Ytibbkbgodomfkaa
open Go Go.Sc Go.Proofs

theorem rlogMatches_s (av : Value) (acts : List ActD) (bv : Value) (more : List ActD) (mv : Value) (m : List EntD) (w : World) (hl : (acts.map fun a => a.list.length).sum ≤ 1048576) (hn : LenOk acts.length) (ha : ∀ a ∈ acts, a.wf) (hl2 : (more.map fun a => a.list.length).sum ≤ 1048576) (hn2 : LenOk more.length) (ha2 : ∀ a ∈ more, a.wf) (hm : m.length ≤ 1048576) (hmw : ∀ e ∈ m, e.wf) (hav : Rd w [] (Res.sl av acts.length (acts.flatMap ActD.cells))) (all_hav : ∀ p ∈ acts, ActD.rd p w []) (hbv : Rd w [] (Res.sl bv more.length (more.flatMap ActD.cells))) (all_hbv : ∀ p ∈ more, ActD.rd p w []) (hmv : Rd w [] (Res.sl mv m.length (m.flatMap EntD.cells))) (all_hmv : ∀ p ∈ m, EntD.rd p w []) : Rets Try.prog 4 #[av, bv, mv] w fun u_ w' => u_ = .bool true ∧ Own w [] [] w' := by
  refine fn_enter (args := [av, bv, mv]) Try.func4 rfl Try.ntmps4 rfl (Own.start w) ?_
  refine c_reg ?_
  refine l_as rfl ?_
  refine l_end ?_
  refine c_reg ?_
  refine l_mv rfl ?_
  refine l_call (by kernel_rfl) rfl rfl (fun w' hw => ?_)
  refine (grown_s 3 1 av acts w' (by first | assumption | omega | (simp <;> omega) | (constructor <;> (first | omega | (simp only [LenOk]; omega) | (simp <;> omega)))) (by first | assumption | omega | (simp <;> omega) | (constructor <;> (first | omega | (simp only [LenOk]; omega) | (simp <;> omega)))) (by first | assumption | omega | (simp <;> omega) | (constructor <;> (first | omega | (simp only [LenOk]; omega) | (simp <;> omega)))) (hw.rd0 hav) (fun p hp => ActD.rd.at0 (all_hav p hp) hw)).mono ?_
  rintro _ w1 ⟨lb1_, i2_, t3_, lv4_, es5_, wb6_, j7_, u8_, rv9_, ms10_, rfl, hf1_1, hf1_1_1, hf1_1_2, hf1_1_3, hf1_1_4, hO⟩
  have hg1 := hf1_1_4
  have hb1 := (LG.le hg1).1
  have hq1 := LG.map_eq hf1_1_1
  have hln1 := hf1_1_3
  have hall1 := FromActs.rd hf1_1_2 all_hav
  have hgw1 : (LG j7_ u8_ ms10_).good := by rw [hf1_1_1]; exact hf1_1_4
  refine (?_ : CL _ _ _ _ _ _ (Own w [] [Res.row lb1_ 66 [.int .u64 (i2_ : Nat), .int .u64 (t3_ : Nat), lv4_], Res.vec 38 5 lv4_ es5_.length (es5_.flatMap EntD.cells), Res.star (es5_.map EntD.dres), Res.row wb6_ 48 [.int .u64 (j7_ : Nat), .int .u64 (u8_ : Nat), rv9_], Res.vec 38 5 rv9_ ms10_.length (ms10_.flatMap EntD.cells)])) w1 (hw.frame0 hO)
  refine l_mv rfl ?_
  refine l_ext (vs := [.pointer (some ⟨lb1_, 0, none⟩), .pointer (some ⟨wb6_, 0, none⟩)]) rfl rfl rfl ?_
  refine l_ext (vs := [.pointer (some ⟨lb1_, 0, none⟩), .pointer (some ⟨wb6_, 0, none⟩)]) rfl rfl rfl ?_
  refine l_as rfl ?_
  refine l_as rfl ?_
  refine l_end ?_
  refine c_reg ?_
  refine l_mv rfl ?_
  refine l_call (by kernel_rfl) rfl rfl (fun w' hw => ?_)
  refine (grown_s 3 1 bv more w' (by first | assumption | omega | (simp <;> omega) | (constructor <;> (first | omega | (simp only [LenOk]; omega) | (simp <;> omega)))) (by first | assumption | omega | (simp <;> omega) | (constructor <;> (first | omega | (simp only [LenOk]; omega) | (simp <;> omega)))) (by first | assumption | omega | (simp <;> omega) | (constructor <;> (first | omega | (simp only [LenOk]; omega) | (simp <;> omega)))) (hw.rd0 hbv) (fun p hp => ActD.rd.at0 (all_hbv p hp) hw)).mono ?_
  rintro _ w1 ⟨lb11_, i12_, t13_, lv14_, es15_, wb16_, j17_, u18_, rv19_, ms20_, rfl, hf2_1, hf2_1_1, hf2_1_2, hf2_1_3, hf2_1_4, hO⟩
  have hg2 := hf2_1_4
  have hb2 := (LG.le hg2).1
  have hq2 := LG.map_eq hf2_1_1
  have hln2 := hf2_1_3
  have hall2 := FromActs.rd hf2_1_2 all_hbv
  have hgw2 : (LG j17_ u18_ ms20_).good := by rw [hf2_1_1]; exact hf2_1_4
  refine (?_ : CL _ _ _ _ _ _ (Own w [] [Res.row lb1_ 66 [.int .u64 (i2_ : Nat), .int .u64 (t3_ : Nat), lv4_], Res.vec 38 5 lv4_ es5_.length (es5_.flatMap EntD.cells), Res.star (es5_.map EntD.dres), Res.row wb6_ 48 [.int .u64 (j7_ : Nat), .int .u64 (u8_ : Nat), rv9_], Res.vec 38 5 rv9_ ms10_.length (ms10_.flatMap EntD.cells), Res.row lb11_ 66 [.int .u64 (i12_ : Nat), .int .u64 (t13_ : Nat), lv14_], Res.vec 38 5 lv14_ es15_.length (es15_.flatMap EntD.cells), Res.star (es15_.map EntD.dres), Res.row wb16_ 48 [.int .u64 (j17_ : Nat), .int .u64 (u18_ : Nat), rv19_], Res.vec 38 5 rv19_ ms20_.length (ms20_.flatMap EntD.cells)])) w1 (hw.frame0 hO)
  refine l_mv rfl ?_
  refine l_ext (vs := [.pointer (some ⟨lb11_, 0, none⟩), .pointer (some ⟨wb16_, 0, none⟩)]) rfl rfl rfl ?_
  refine l_ext (vs := [.pointer (some ⟨lb11_, 0, none⟩), .pointer (some ⟨wb16_, 0, none⟩)]) rfl rfl rfl ?_
  refine l_as rfl ?_
  refine l_as rfl ?_
  refine l_end ?_
  refine c_seq ?_
  refine c_reg ?_
  refine l_call (by kernel_rfl) rfl rfl (fun w' hw => ?_)
  refine (answers_s w').mono ?_
  rintro _ w1 ⟨rfl, hO⟩
  refine (?_ : CL _ _ _ _ _ _ (Own w [] [Res.row lb1_ 66 [.int .u64 (i2_ : Nat), .int .u64 (t3_ : Nat), lv4_], Res.vec 38 5 lv4_ es5_.length (es5_.flatMap EntD.cells), Res.star (es5_.map EntD.dres), Res.row wb6_ 48 [.int .u64 (j7_ : Nat), .int .u64 (u8_ : Nat), rv9_], Res.vec 38 5 rv9_ ms10_.length (ms10_.flatMap EntD.cells), Res.row lb11_ 66 [.int .u64 (i12_ : Nat), .int .u64 (t13_ : Nat), lv14_], Res.vec 38 5 lv14_ es15_.length (es15_.flatMap EntD.cells), Res.star (es15_.map EntD.dres), Res.row wb16_ 48 [.int .u64 (j17_ : Nat), .int .u64 (u18_ : Nat), rv19_], Res.vec 38 5 rv19_ ms20_.length (ms20_.flatMap EntD.cells)])) w1 (hw.frame0 hO)
  refine l_not (b := true) rfl rfl ?_
  refine l_mv rfl ?_
  refine l_on rfl rfl ?_
  refine l_mv rfl ?_
  refine l_on rfl rfl ?_
  refine l_nilp (by kernel_rfl) rfl rfl rfl ?_
  refine l_pickF rfl rfl ?_
  refine l_mv rfl ?_
  refine l_on rfl rfl ?_
  refine l_mv rfl ?_
  refine l_on rfl rfl ?_
  refine l_nilp (by kernel_rfl) rfl rfl rfl ?_
  refine l_pickF rfl rfl ?_
  refine l_end ?_
  refine c_no rfl ?_
  refine c_skipC ?_
  refine c_seq ?_
  refine c_reg ?_
  refine l_mv rfl ?_
  refine l_lenS (len := m.length) (cs := (m.flatMap EntD.cells)) (by kernel_rfl) rfl (fun w' hw' => Own.rd hmv hw') rfl ?_
  refine l_eq rfl rfl rfl ?_
  refine l_mv rfl ?_
  refine l_bor (q := ((m.length : Nat) : Int) = 0) 5 3 [56, 55, 54, 53, 52] ((((nth m 0).index : Nat) : Int) < ((2 : Nat) : Int)) rfl rfl rfl rfl rfl rfl trivial rfl (fun h5_3 => ?_) (fun g5_9 => ?_)
  ·
    refine l_on rfl (gF h5_3) ?_
    refine l_mv rfl ?_
    refine l_on rfl (gF h5_3) ?_
    refine l_idxS (j := 0) (sz := 5) (len := m.length) (cs := (m.flatMap EntD.cells)) rfl rfl (by kernel_rfl) (fun w' hw' => Own.rd hmv hw') rfl (by omega) rfl ?_
    refine l_on rfl (gF h5_3) ?_
    refine l_fld (o := 0) rfl (by kernel_rfl) rfl ?_
    refine l_on rfl (gF h5_3) ?_
    refine l_ldS (0 * 5 + 0) (cs := (m.flatMap EntD.cells)) rfl (by omega) (fun w' hw' => Own.rd hmv hw') (flat_at (sz := 5) (fun _ => rfl) (nth_some (by omega)) (i := 0) rfl) (by kernel_rfl) rfl ?_
    refine l_on rfl (gF h5_3) ?_
    refine l_lss rfl rfl rfl ?_
    exact l_nil (fun w' hw => ⟨(by repeat (first | exact Out.refl _ _ | refine Out.upd rfl ?_ | refine Out.msk rfl ?_)), rfl, hw⟩)
  refine l_end ?_
  refine c_dec rfl (fun c2 => ?_) (fun c2 => ?_)
  ·
    refine c_reg ?_
    refine l_as rfl ?_
    refine l_end ?_
    exact c_ret (ret1 (v := .bool true) rfl rfl (fun w' hw => ⟨rfl, hw.drop⟩))
  ·
    have hw0 := (hmw _ (nth_mem (l := m) (j := 0) (by omega))).index
    refine c_skipC ?_
    refine c_reg ?_
    refine l_mv rfl ?_
    refine l_idxS (j := 0) (sz := 5) (len := m.length) (cs := (m.flatMap EntD.cells)) rfl rfl (by kernel_rfl) (fun w' hw' => Own.rd hmv hw') rfl (by omega) rfl ?_
    refine l_fld (o := 0) rfl (by kernel_rfl) rfl ?_
    refine l_ldS (0 * 5 + 0) (cs := (m.flatMap EntD.cells)) rfl (by omega) (fun w' hw' => Own.rd hmv hw') (flat_at (sz := 5) (fun _ => rfl) (nth_some (by omega)) (i := 0) rfl) (by kernel_rfl) rfl ?_
    refine l_sub (c := (((nth m 0).index - 1 : Nat) : Int)) rfl rfl (ws (b := 1) (by omega) (by omega)) rfl ?_
    refine l_as rfl ?_
    refine l_end ?_
    refine c_reg ?_
    refine l_mv rfl ?_
    refine l_mv rfl ?_
    refine l_call (by kernel_rfl) rfl rfl (fun w' hw => ?_)
    refine (rterm_s wb6_ j7_ u8_ rv9_ ms10_ ((nth m 0).index - 1) w' (by first | assumption | omega | (simp <;> omega) | (constructor <;> (first | omega | (simp only [LenOk]; omega) | (simp <;> omega)))) (by first | assumption | omega | (simp <;> omega) | (constructor <;> (first | omega | (simp only [LenOk]; omega) | (simp <;> omega)))) (hw.rdRes0 3 rfl) (hw.rdVec0 4 rfl) (fun p hp => EntD.rd.at0 (hall1 p hp) hw)).mono ?_
    rintro _ w1 ⟨x21_, e22_, rfl, hf8_2, hO⟩
    refine (?_ : CL _ _ _ _ _ _ (Own w [] [Res.row lb1_ 66 [.int .u64 (i2_ : Nat), .int .u64 (t3_ : Nat), lv4_], Res.vec 38 5 lv4_ es5_.length (es5_.flatMap EntD.cells), Res.star (es5_.map EntD.dres), Res.row wb6_ 48 [.int .u64 (j7_ : Nat), .int .u64 (u8_ : Nat), rv9_], Res.vec 38 5 rv9_ ms10_.length (ms10_.flatMap EntD.cells), Res.row lb11_ 66 [.int .u64 (i12_ : Nat), .int .u64 (t13_ : Nat), lv14_], Res.vec 38 5 lv14_ es15_.length (es15_.flatMap EntD.cells), Res.star (es15_.map EntD.dres), Res.row wb16_ 48 [.int .u64 (j17_ : Nat), .int .u64 (u18_ : Nat), rv19_], Res.vec 38 5 rv19_ ms20_.length (ms20_.flatMap EntD.cells)])) w1 (hw.frame0 hO)
    refine l_mv rfl ?_
    refine l_ext (vs := [.int .u64 (x21_ : Nat), .int .i64 e22_]) rfl rfl rfl ?_
    refine l_ext (vs := [.int .u64 (x21_ : Nat), .int .i64 e22_]) rfl rfl rfl ?_
    refine l_as rfl ?_
    refine l_as rfl ?_
    refine l_end ?_
    refine c_seq ?_
    refine c_reg ?_
    refine l_mv rfl ?_
    refine l_ne rfl rfl rfl ?_
    refine l_mv rfl ?_
    refine l_bor (q := e22_ ≠ 0) 5 2 [76, 75, 74, 73, 72] (¬ ((LG j17_ u18_ ms20_).fits ((nth m 0).index - 1) x21_)) rfl rfl rfl rfl rfl rfl trivial rfl (fun h9_2 => ?_) (fun g9_8 => ?_)
    ·
      refine l_on rfl (gF h9_2) ?_
      refine l_mv rfl ?_
      refine l_on rfl (gF h9_2) ?_
      refine l_mv rfl ?_
      refine l_on rfl (gF h9_2) ?_
      refine l_mv rfl ?_
      refine l_on rfl (gF h9_2) ?_
      refine l_call (by kernel_rfl) rfl rfl (fun w' hw => ?_)
      refine (rfits_s wb16_ j17_ u18_ rv19_ ms20_ ((nth m 0).index - 1) x21_ w' (by first | assumption | omega | (simp <;> omega) | (constructor <;> (first | omega | (simp only [LenOk]; omega) | (simp <;> omega)))) (by first | assumption | omega | (simp <;> omega) | (constructor <;> (first | omega | (simp only [LenOk]; omega) | (simp <;> omega)))) (hw.rdRes0 8 rfl) (hw.rdVec0 9 rfl) (fun p hp => EntD.rd.at0 (hall2 p hp) hw)).mono ?_
      rintro _ w1 ⟨rfl, hO⟩
      refine (?_ : CL _ _ _ _ _ _ (Own w [] [Res.row lb1_ 66 [.int .u64 (i2_ : Nat), .int .u64 (t3_ : Nat), lv4_], Res.vec 38 5 lv4_ es5_.length (es5_.flatMap EntD.cells), Res.star (es5_.map EntD.dres), Res.row wb6_ 48 [.int .u64 (j7_ : Nat), .int .u64 (u8_ : Nat), rv9_], Res.vec 38 5 rv9_ ms10_.length (ms10_.flatMap EntD.cells), Res.row lb11_ 66 [.int .u64 (i12_ : Nat), .int .u64 (t13_ : Nat), lv14_], Res.vec 38 5 lv14_ es15_.length (es15_.flatMap EntD.cells), Res.star (es15_.map EntD.dres), Res.row wb16_ 48 [.int .u64 (j17_ : Nat), .int .u64 (u18_ : Nat), rv19_], Res.vec 38 5 rv19_ ms20_.length (ms20_.flatMap EntD.cells)])) w1 (hw.frame0 hO)
      refine l_on rfl (gF h9_2) ?_
      refine l_notp (q := (LG j17_ u18_ ms20_).fits ((nth m 0).index - 1) x21_) rfl rfl ?_
      exact l_nil (fun w' hw => ⟨(by repeat (first | exact Out.refl _ _ | refine Out.upd rfl ?_ | refine Out.msk rfl ?_)), rfl, hw⟩)
    refine l_end ?_
    refine c_dec rfl (fun c3 => ?_) (fun c3 => ?_)
    ·
      refine c_reg ?_
      refine l_as rfl ?_
      refine l_end ?_
      exact c_ret (ret1 (v := .bool true) rfl rfl (fun w' hw => ⟨rfl, hw.drop⟩))
    ·
      have hA : (LG i2_ t3_ es5_).fits ((nth m 0).index - 1) x21_ := by rw [← hf1_1_1]; unfold LogA.fits; rw [hf8_2]; exact ⟨Decidable.not_not.1 fun h => c3 (.inl h), rfl⟩
      have hB : (LG i12_ t13_ es15_).fits ((nth m 0).index - 1) x21_ := by rw [← hf2_1_1]; exact Decidable.not_not.1 fun h => c3 (.inr h)
      refine c_skipC ?_
      refine c_reg ?_
      refine l_mv rfl ?_
      refine l_mv rfl ?_
      refine l_mv rfl ?_
      refine l_mv rfl ?_
      refine l_call (by kernel_rfl) rfl rfl (fun w' hw => ?_)
      refine (ownEnts_s mv m w' (by omega) (fun e he => (hmw e he).data) (hw.rd0 hmv) (fun p hp => EntD.rd.at0 (all_hmv p hp) hw)).mono ?_
      rintro r23_ w1 ⟨_, es24_, rfl, hf11_4, hO⟩
      have hl1 := congrArg List.length hf11_4; simp only [List.length_map] at hl1
      refine (?_ : CL _ _ _ _ _ _ (Own w [] [Res.row lb1_ 66 [.int .u64 (i2_ : Nat), .int .u64 (t3_ : Nat), lv4_], Res.vec 38 5 lv4_ es5_.length (es5_.flatMap EntD.cells), Res.star (es5_.map EntD.dres), Res.row wb6_ 48 [.int .u64 (j7_ : Nat), .int .u64 (u8_ : Nat), rv9_], Res.vec 38 5 rv9_ ms10_.length (ms10_.flatMap EntD.cells), Res.row lb11_ 66 [.int .u64 (i12_ : Nat), .int .u64 (t13_ : Nat), lv14_], Res.vec 38 5 lv14_ es15_.length (es15_.flatMap EntD.cells), Res.star (es15_.map EntD.dres), Res.row wb16_ 48 [.int .u64 (j17_ : Nat), .int .u64 (u18_ : Nat), rv19_], Res.vec 38 5 rv19_ ms20_.length (ms20_.flatMap EntD.cells), Res.vec 38 5 r23_ es24_.length (es24_.flatMap EntD.cells), Res.star (es24_.map EntD.dres)])) w1 (hw.frame0 hO)
      refine l_call (by kernel_rfl) rfl rfl (fun w' hw => ?_)
      refine (append_s lb1_ i2_ t3_ lv4_ es5_ ((nth m 0).index - 1) x21_ r23_ es24_ w' (by first | assumption | omega | (simp <;> omega) | (constructor <;> (first | omega | (simp only [LenOk]; omega) | (simp <;> omega)))) (by first | assumption | omega | (simp <;> omega) | (constructor <;> (first | omega | (simp only [LenOk]; omega) | (simp <;> omega)))) (wf_of_map hf11_4 hmw) (by first | assumption | omega | (simp <;> omega) | (constructor <;> (first | omega | (simp only [LenOk]; omega) | (simp <;> omega)))) (hw.rdVec 10 rfl [0, 1, 2] rfl rfl) (EntD.rd.star 11 rfl [0, 1, 2] rfl rfl hw) (hw.give [0, 1, 2] rfl (by decide))).mono ?_
      rintro _ w1 ⟨lv'25_, es'26_, x27_, y28_, e29_, rfl, hf11_5, hf11_5_1, hO⟩
      have hi1 := app_info hf11_5 hg1
      have hi1' := hi1.2; simp only [List.length_map] at hi1'
      refine (?_ : CL _ _ _ _ _ _ (Own w [] [Res.row wb6_ 48 [.int .u64 (j7_ : Nat), .int .u64 (u8_ : Nat), rv9_], Res.vec 38 5 rv9_ ms10_.length (ms10_.flatMap EntD.cells), Res.row lb11_ 66 [.int .u64 (i12_ : Nat), .int .u64 (t13_ : Nat), lv14_], Res.vec 38 5 lv14_ es15_.length (es15_.flatMap EntD.cells), Res.star (es15_.map EntD.dres), Res.row wb16_ 48 [.int .u64 (j17_ : Nat), .int .u64 (u18_ : Nat), rv19_], Res.vec 38 5 rv19_ ms20_.length (ms20_.flatMap EntD.cells), Res.vec 38 5 r23_ es24_.length (es24_.flatMap EntD.cells), Res.star (es24_.map EntD.dres), Res.row lb1_ 66 [.int .u64 (i2_ : Nat), .int .u64 (t3_ : Nat), lv'25_], Res.vec 38 5 lv'25_ es'26_.length (es'26_.flatMap EntD.cells), Res.star (es'26_.map EntD.dres)])) w1 (hw.frameL [0, 1, 2] rfl hO)
      refine l_mv rfl ?_
      refine l_ext (vs := [.int .u64 (x27_ : Nat), .int .u64 (y28_ : Nat), .int .i64 e29_]) rfl rfl rfl ?_
      refine l_ext (vs := [.int .u64 (x27_ : Nat), .int .u64 (y28_ : Nat), .int .i64 e29_]) rfl rfl rfl ?_
      refine l_ext (vs := [.int .u64 (x27_ : Nat), .int .u64 (y28_ : Nat), .int .i64 e29_]) rfl rfl rfl ?_
      refine l_as rfl ?_
      refine l_as rfl ?_
      refine l_as rfl ?_
      refine l_end ?_
      refine c_reg ?_
      refine l_mv rfl ?_
      refine l_mv rfl ?_
      refine l_mv rfl ?_
      refine l_mv rfl ?_
      refine l_call (by kernel_rfl) rfl rfl (fun w' hw => ?_)
      refine (ownEnts_s mv m w' (by omega) (fun e he => (hmw e he).data) (hw.rd0 hmv) (fun p hp => EntD.rd.at0 (all_hmv p hp) hw)).mono ?_
      rintro r30_ w1 ⟨_, es31_, rfl, hf12_4, hO⟩
      have hl2 := congrArg List.length hf12_4; simp only [List.length_map] at hl2
      refine (?_ : CL _ _ _ _ _ _ (Own w [] [Res.row wb6_ 48 [.int .u64 (j7_ : Nat), .int .u64 (u8_ : Nat), rv9_], Res.vec 38 5 rv9_ ms10_.length (ms10_.flatMap EntD.cells), Res.row lb11_ 66 [.int .u64 (i12_ : Nat), .int .u64 (t13_ : Nat), lv14_], Res.vec 38 5 lv14_ es15_.length (es15_.flatMap EntD.cells), Res.star (es15_.map EntD.dres), Res.row wb16_ 48 [.int .u64 (j17_ : Nat), .int .u64 (u18_ : Nat), rv19_], Res.vec 38 5 rv19_ ms20_.length (ms20_.flatMap EntD.cells), Res.vec 38 5 r23_ es24_.length (es24_.flatMap EntD.cells), Res.star (es24_.map EntD.dres), Res.row lb1_ 66 [.int .u64 (i2_ : Nat), .int .u64 (t3_ : Nat), lv'25_], Res.vec 38 5 lv'25_ es'26_.length (es'26_.flatMap EntD.cells), Res.star (es'26_.map EntD.dres), Res.vec 38 5 r30_ es31_.length (es31_.flatMap EntD.cells), Res.star (es31_.map EntD.dres)])) w1 (hw.frame0 hO)
      refine l_call (by kernel_rfl) rfl rfl (fun w' hw => ?_)
      refine (append_s lb11_ i12_ t13_ lv14_ es15_ ((nth m 0).index - 1) x21_ r30_ es31_ w' (by first | assumption | omega | (simp <;> omega) | (constructor <;> (first | omega | (simp only [LenOk]; omega) | (simp <;> omega)))) (by first | assumption | omega | (simp <;> omega) | (constructor <;> (first | omega | (simp only [LenOk]; omega) | (simp <;> omega)))) (wf_of_map hf12_4 hmw) (by first | assumption | omega | (simp <;> omega) | (constructor <;> (first | omega | (simp only [LenOk]; omega) | (simp <;> omega)))) (hw.rdVec 12 rfl [2, 3, 4] rfl rfl) (EntD.rd.star 13 rfl [2, 3, 4] rfl rfl hw) (hw.give [2, 3, 4] rfl (by decide))).mono ?_
      rintro _ w1 ⟨lv'32_, es'33_, x34_, y35_, e36_, rfl, hf12_5, hf12_5_1, hO⟩
      have hi2 := app_info hf12_5 hg2
      have hi2' := hi2.2; simp only [List.length_map] at hi2'
      refine (?_ : CL _ _ _ _ _ _ (Own w [] [Res.row wb6_ 48 [.int .u64 (j7_ : Nat), .int .u64 (u8_ : Nat), rv9_], Res.vec 38 5 rv9_ ms10_.length (ms10_.flatMap EntD.cells), Res.row wb16_ 48 [.int .u64 (j17_ : Nat), .int .u64 (u18_ : Nat), rv19_], Res.vec 38 5 rv19_ ms20_.length (ms20_.flatMap EntD.cells), Res.vec 38 5 r23_ es24_.length (es24_.flatMap EntD.cells), Res.star (es24_.map EntD.dres), Res.row lb1_ 66 [.int .u64 (i2_ : Nat), .int .u64 (t3_ : Nat), lv'25_], Res.vec 38 5 lv'25_ es'26_.length (es'26_.flatMap EntD.cells), Res.star (es'26_.map EntD.dres), Res.vec 38 5 r30_ es31_.length (es31_.flatMap EntD.cells), Res.star (es31_.map EntD.dres), Res.row lb11_ 66 [.int .u64 (i12_ : Nat), .int .u64 (t13_ : Nat), lv'32_], Res.vec 38 5 lv'32_ es'33_.length (es'33_.flatMap EntD.cells), Res.star (es'33_.map EntD.dres)])) w1 (hw.frameL [2, 3, 4] rfl hO)
      refine l_mv rfl ?_
      refine l_ext (vs := [.int .u64 (x34_ : Nat), .int .u64 (y35_ : Nat), .int .i64 e36_]) rfl rfl rfl ?_
      refine l_ext (vs := [.int .u64 (x34_ : Nat), .int .u64 (y35_ : Nat), .int .i64 e36_]) rfl rfl rfl ?_
      refine l_ext (vs := [.int .u64 (x34_ : Nat), .int .u64 (y35_ : Nat), .int .i64 e36_]) rfl rfl rfl ?_
      refine l_as rfl ?_
      refine l_as rfl ?_
      refine l_as rfl ?_
      refine l_end ?_
      refine c_reg ?_
      refine l_mv rfl ?_
      refine l_mv rfl ?_
      refine l_mv rfl ?_
      refine l_mv rfl ?_
      refine l_call (by kernel_rfl) rfl rfl (fun w' hw => ?_)
      refine (ownEnts_s mv m w' (by omega) (fun e he => (hmw e he).data) (hw.rd0 hmv) (fun p hp => EntD.rd.at0 (all_hmv p hp) hw)).mono ?_
      rintro r37_ w1 ⟨_, es38_, rfl, hf13_4, hO⟩
      have hl3 := congrArg List.length hf13_4; simp only [List.length_map] at hl3
      refine (?_ : CL _ _ _ _ _ _ (Own w [] [Res.row wb6_ 48 [.int .u64 (j7_ : Nat), .int .u64 (u8_ : Nat), rv9_], Res.vec 38 5 rv9_ ms10_.length (ms10_.flatMap EntD.cells), Res.row wb16_ 48 [.int .u64 (j17_ : Nat), .int .u64 (u18_ : Nat), rv19_], Res.vec 38 5 rv19_ ms20_.length (ms20_.flatMap EntD.cells), Res.vec 38 5 r23_ es24_.length (es24_.flatMap EntD.cells), Res.star (es24_.map EntD.dres), Res.row lb1_ 66 [.int .u64 (i2_ : Nat), .int .u64 (t3_ : Nat), lv'25_], Res.vec 38 5 lv'25_ es'26_.length (es'26_.flatMap EntD.cells), Res.star (es'26_.map EntD.dres), Res.vec 38 5 r30_ es31_.length (es31_.flatMap EntD.cells), Res.star (es31_.map EntD.dres), Res.row lb11_ 66 [.int .u64 (i12_ : Nat), .int .u64 (t13_ : Nat), lv'32_], Res.vec 38 5 lv'32_ es'33_.length (es'33_.flatMap EntD.cells), Res.star (es'33_.map EntD.dres), Res.vec 38 5 r37_ es38_.length (es38_.flatMap EntD.cells), Res.star (es38_.map EntD.dres)])) w1 (hw.frame0 hO)
      refine l_call (by kernel_rfl) rfl rfl (fun w' hw => ?_)
      refine (append_s lb1_ i2_ t3_ lv'25_ es'26_ ((nth m 0).index - 1) x21_ r37_ es38_ w' (by first | assumption | omega | (simp <;> omega) | (constructor <;> (first | omega | (simp only [LenOk]; omega) | (simp <;> omega)))) hi1.1 (wf_of_map hf13_4 hmw) (by first | assumption | omega | (simp <;> omega) | (constructor <;> (first | omega | (simp only [LenOk]; omega) | (simp <;> omega)))) (hw.rdVec 14 rfl [6, 7, 8] rfl rfl) (EntD.rd.star 15 rfl [6, 7, 8] rfl rfl hw) (hw.give [6, 7, 8] rfl (by decide))).mono ?_
      rintro _ w1 ⟨lv'39_, es'40_, x41_, y42_, e43_, rfl, hf13_5, hf13_5_1, hO⟩
      have hi3 := app_info hf13_5 hi1.1
      have hi3' := hi3.2; simp only [List.length_map] at hi3'
      have g1 := hf11_5; rw [hf11_4] at g1
      have g2 := hf12_5; rw [hf12_4] at g2
      have g3 := hf13_5; rw [hf13_4] at g3
      have r1 := hf11_5_1; rw [hf11_4] at r1
      have r2 := hf12_5_1; rw [hf12_4] at r2
      have r3 := hf13_5_1; rw [hf13_4] at r3
      have hM := match_all hA hB g1 g2 g3 r1 r2 r3
      have hb3 := (LG.le hi3.1).1
      have hb4 := (LG.le hi2.1).1
      refine (?_ : CL _ _ _ _ _ _ (Own w [] [Res.row wb6_ 48 [.int .u64 (j7_ : Nat), .int .u64 (u8_ : Nat), rv9_], Res.vec 38 5 rv9_ ms10_.length (ms10_.flatMap EntD.cells), Res.row wb16_ 48 [.int .u64 (j17_ : Nat), .int .u64 (u18_ : Nat), rv19_], Res.vec 38 5 rv19_ ms20_.length (ms20_.flatMap EntD.cells), Res.vec 38 5 r23_ es24_.length (es24_.flatMap EntD.cells), Res.star (es24_.map EntD.dres), Res.vec 38 5 r30_ es31_.length (es31_.flatMap EntD.cells), Res.star (es31_.map EntD.dres), Res.row lb11_ 66 [.int .u64 (i12_ : Nat), .int .u64 (t13_ : Nat), lv'32_], Res.vec 38 5 lv'32_ es'33_.length (es'33_.flatMap EntD.cells), Res.star (es'33_.map EntD.dres), Res.vec 38 5 r37_ es38_.length (es38_.flatMap EntD.cells), Res.star (es38_.map EntD.dres), Res.row lb1_ 66 [.int .u64 (i2_ : Nat), .int .u64 (t3_ : Nat), lv'39_], Res.vec 38 5 lv'39_ es'40_.length (es'40_.flatMap EntD.cells), Res.star (es'40_.map EntD.dres)])) w1 (hw.frameL [6, 7, 8] rfl hO)
      refine l_mv rfl ?_
      refine l_ext (vs := [.int .u64 (x41_ : Nat), .int .u64 (y42_ : Nat), .int .i64 e43_]) rfl rfl rfl ?_
      refine l_ext (vs := [.int .u64 (x41_ : Nat), .int .u64 (y42_ : Nat), .int .i64 e43_]) rfl rfl rfl ?_
      refine l_ext (vs := [.int .u64 (x41_ : Nat), .int .u64 (y42_ : Nat), .int .i64 e43_]) rfl rfl rfl ?_
      refine l_as rfl ?_
      refine l_as rfl ?_
      refine l_as rfl ?_
      refine l_end ?_
      refine c_seq ?_
      refine c_reg ?_
      refine l_mv rfl ?_
      refine l_mv rfl ?_
      refine l_ne rfl rfl rfl ?_
      refine l_mv rfl ?_
      refine l_bor (q := e29_ ≠ e36_) 3 3 [114, 113, 112] (e29_ ≠ e43_) rfl rfl rfl rfl rfl rfl trivial rfl (fun h14_3 => ?_) (fun g14_7 => ?_)
      ·
        refine l_on rfl (gF h14_3) ?_
        refine l_mv rfl ?_
        refine l_on rfl (gF h14_3) ?_
        refine l_mv rfl ?_
        refine l_on rfl (gF h14_3) ?_
        refine l_ne rfl rfl rfl ?_
        exact l_nil (fun w' hw => ⟨(by repeat (first | exact Out.refl _ _ | refine Out.upd rfl ?_ | refine Out.msk rfl ?_)), rfl, hw⟩)
      refine l_mv rfl ?_
      refine l_bor (q := (e29_ ≠ e36_) ∨ (e29_ ≠ e43_)) 2 8 [118, 117] (e29_ ≠ 0) rfl rfl rfl rfl rfl rfl trivial rfl (fun h14_8 => ?_) (fun g14_11 => ?_)
      ·
        refine l_on rfl (gF h14_8) ?_
        refine l_mv rfl ?_
        refine l_on rfl (gF h14_8) ?_
        refine l_ne rfl rfl rfl ?_
        exact l_nil (fun w' hw => ⟨(by repeat (first | exact Out.refl _ _ | refine Out.upd rfl ?_ | refine Out.msk rfl ?_)), rfl, hw⟩)
      refine l_end ?_
      refine c_dec rfl (fun c4 => ?_) (fun c4 => ?_)
      ·
        refine c_reg ?_
        refine l_mv rfl ?_
        refine l_mv rfl ?_
        refine l_eq rfl rfl rfl ?_
        refine l_mv rfl ?_
        refine l_band (q := e29_ = e36_) 3 3 [126, 125, 124] (e29_ = e43_) rfl rfl rfl rfl rfl rfl trivial rfl (fun h15_3 => ?_) (fun g15_7 => ?_)
        ·
          refine l_on rfl (gT h15_3) ?_
          refine l_mv rfl ?_
          refine l_on rfl (gT h15_3) ?_
          refine l_mv rfl ?_
          refine l_on rfl (gT h15_3) ?_
          refine l_eq rfl rfl rfl ?_
          exact l_nil (fun w' hw => ⟨(by repeat (first | exact Out.refl _ _ | refine Out.upd rfl ?_ | refine Out.msk rfl ?_)), rfl, hw⟩)
        refine l_as rfl ?_
        refine l_end ?_
        exact c_ret (ret1 (v := .bool (decide ((e29_ = e36_) ∧ (e29_ = e43_)))) rfl rfl (fun w' hw => ⟨(by rw [decide_eq_true]; exact hM.1), hw.drop⟩))
      ·
        have hN := hM.2 (by omega)
        simp only [List.length_map] at hN
        have hN1 := hN.1
        have hfl := (LogA.fits_end hA).1
        rw [LG.last_eq] at hfl
        refine c_skipC ?_
        refine c_seq ?_
        refine c_reg ?_
        refine l_mv rfl ?_
        refine l_mv rfl ?_
        refine l_ne rfl rfl rfl ?_
        refine l_mv rfl ?_
        refine l_bor (q := ((x27_ : Nat) : Int) ≠ ((x34_ : Nat) : Int)) 3 3 [134, 133, 132] (((x41_ : Nat) : Int) ≠ ((x27_ : Nat) : Int)) rfl rfl rfl rfl rfl rfl trivial rfl (fun h16_3 => ?_) (fun g16_7 => ?_)
        ·
          refine l_on rfl (gF h16_3) ?_
          refine l_mv rfl ?_
          refine l_on rfl (gF h16_3) ?_
          refine l_mv rfl ?_
          refine l_on rfl (gF h16_3) ?_
          refine l_ne rfl rfl rfl ?_
          exact l_nil (fun w' hw => ⟨(by repeat (first | exact Out.refl _ _ | refine Out.upd rfl ?_ | refine Out.msk rfl ?_)), rfl, hw⟩)
        refine l_mv rfl ?_
        refine l_bor (q := (((x27_ : Nat) : Int) ≠ ((x34_ : Nat) : Int)) ∨ (((x41_ : Nat) : Int) ≠ ((x27_ : Nat) : Int))) 2 8 [138, 137] (((y42_ : Nat) : Int) ≠ ((0 : Nat) : Int)) rfl rfl rfl rfl rfl rfl trivial rfl (fun h16_8 => ?_) (fun g16_11 => ?_)
        ·
          refine l_on rfl (gF h16_8) ?_
          refine l_mv rfl ?_
          refine l_on rfl (gF h16_8) ?_
          refine l_ne rfl rfl rfl ?_
          exact l_nil (fun w' hw => ⟨(by repeat (first | exact Out.refl _ _ | refine Out.upd rfl ?_ | refine Out.msk rfl ?_)), rfl, hw⟩)
        refine l_end ?_
        refine c_dec rfl (fun c5 => ?_) (fun c5 => ?_)
        ·
          exact absurd c5 (by omega)
        ·
          refine c_skipC ?_
          refine c_seq ?_
          refine c_reg ?_
          refine l_mv rfl ?_
          refine l_as rfl ?_
          refine l_end ?_
          refine c_block ?_
          refine c_loop1 (fun (k : Nat) => [(7, .pointer (some ⟨lb1_, 0, none⟩)), (9, .pointer (some ⟨lb11_, 0, none⟩)), (14, .int .u64 (x27_ : Nat)), (23, .int .u64 (k : Nat))]) (fun (k : Nat) => (nth m 0).index - 1 ≤ k ∧ k ≤ x27_ + 1) (fun (k : Nat) => [Res.row wb6_ 48 [.int .u64 (j7_ : Nat), .int .u64 (u8_ : Nat), rv9_], Res.vec 38 5 rv9_ ms10_.length (ms10_.flatMap EntD.cells), Res.row wb16_ 48 [.int .u64 (j17_ : Nat), .int .u64 (u18_ : Nat), rv19_], Res.vec 38 5 rv19_ ms20_.length (ms20_.flatMap EntD.cells), Res.vec 38 5 r23_ es24_.length (es24_.flatMap EntD.cells), Res.star (es24_.map EntD.dres), Res.vec 38 5 r30_ es31_.length (es31_.flatMap EntD.cells), Res.star (es31_.map EntD.dres), Res.row lb11_ 66 [.int .u64 (i12_ : Nat), .int .u64 (t13_ : Nat), lv'32_], Res.vec 38 5 lv'32_ es'33_.length (es'33_.flatMap EntD.cells), Res.star (es'33_.map EntD.dres), Res.vec 38 5 r37_ es38_.length (es38_.flatMap EntD.cells), Res.star (es38_.map EntD.dres), Res.row lb1_ 66 [.int .u64 (i2_ : Nat), .int .u64 (t3_ : Nat), lv'39_], Res.vec 38 5 lv'39_ es'40_.length (es'40_.flatMap EntD.cells), Res.star (es'40_.map EntD.dres)]) (fun (k : Nat) => x27_ + 1 - k) (fun w' hw => ⟨(nth m 0).index - 1, ⟨rfl, rfl, rfl, rfl, trivial⟩, ⟨Nat.le_refl _, by omega⟩, hw⟩) (fun k g hΦ => ?_)
          refine c_seq ?_
          refine c_reg ?_
          refine l_mv rfl ?_
          refine l_mv rfl ?_
          refine l_leq rfl rfl rfl ?_
          refine l_end ?_
          refine c_dec rfl (fun c6 => ?_) (fun c6 => ?_)
          ·
            refine c_skipC ?_
            refine c_seq ?_
            refine c_block ?_
            refine c_reg ?_
            refine l_mv rfl ?_
            refine l_mv rfl ?_
            refine l_call (by kernel_rfl) rfl rfl (fun w' hw => ?_)
            refine (term_s lb1_ i2_ t3_ lv'39_ es'40_ k w' (by first | assumption | omega | (simp <;> omega) | (constructor <;> (first | omega | (simp only [LenOk]; omega) | (simp <;> omega)))) (by first | assumption | omega | (simp <;> omega) | (constructor <;> (first | omega | (simp only [LenOk]; omega) | (simp <;> omega)))) (by first | assumption | omega | (simp <;> omega) | (constructor <;> (first | omega | (simp only [LenOk]; omega) | (simp <;> omega)))) (hw.rdRes0 13 rfl) (hw.rdVec0 14 rfl) (EntD.rd.star0 15 rfl hw)).mono ?_
            rintro _ w1 ⟨x44_, e45_, rfl, hf21_2, hO⟩
            refine (?_ : CL _ _ _ _ _ _ (Own w [] [Res.row wb6_ 48 [.int .u64 (j7_ : Nat), .int .u64 (u8_ : Nat), rv9_], Res.vec 38 5 rv9_ ms10_.length (ms10_.flatMap EntD.cells), Res.row wb16_ 48 [.int .u64 (j17_ : Nat), .int .u64 (u18_ : Nat), rv19_], Res.vec 38 5 rv19_ ms20_.length (ms20_.flatMap EntD.cells), Res.vec 38 5 r23_ es24_.length (es24_.flatMap EntD.cells), Res.star (es24_.map EntD.dres), Res.vec 38 5 r30_ es31_.length (es31_.flatMap EntD.cells), Res.star (es31_.map EntD.dres), Res.row lb11_ 66 [.int .u64 (i12_ : Nat), .int .u64 (t13_ : Nat), lv'32_], Res.vec 38 5 lv'32_ es'33_.length (es'33_.flatMap EntD.cells), Res.star (es'33_.map EntD.dres), Res.vec 38 5 r37_ es38_.length (es38_.flatMap EntD.cells), Res.star (es38_.map EntD.dres), Res.row lb1_ 66 [.int .u64 (i2_ : Nat), .int .u64 (t3_ : Nat), lv'39_], Res.vec 38 5 lv'39_ es'40_.length (es'40_.flatMap EntD.cells), Res.star (es'40_.map EntD.dres)])) w1 (hw.frame0 hO)
            refine l_mv rfl ?_
            refine l_ext (vs := [.int .u64 (x44_ : Nat), .int .i64 e45_]) rfl rfl rfl ?_
            refine l_ext (vs := [.int .u64 (x44_ : Nat), .int .i64 e45_]) rfl rfl rfl ?_
            refine l_as rfl ?_
            refine l_as rfl ?_
            refine l_end ?_
            refine c_reg ?_
            refine l_mv rfl ?_
            refine l_mv rfl ?_
            refine l_call (by kernel_rfl) rfl rfl (fun w' hw => ?_)
            refine (term_s lb11_ i12_ t13_ lv'32_ es'33_ k w' (by first | assumption | omega | (simp <;> omega) | (constructor <;> (first | omega | (simp only [LenOk]; omega) | (simp <;> omega)))) (by first | assumption | omega | (simp <;> omega) | (constructor <;> (first | omega | (simp only [LenOk]; omega) | (simp <;> omega)))) (by first | assumption | omega | (simp <;> omega) | (constructor <;> (first | omega | (simp only [LenOk]; omega) | (simp <;> omega)))) (hw.rdRes0 8 rfl) (hw.rdVec0 9 rfl) (EntD.rd.star0 10 rfl hw)).mono ?_
            rintro _ w1 ⟨x46_, e47_, rfl, hf22_2, hO⟩
            refine (?_ : CL _ _ _ _ _ _ (Own w [] [Res.row wb6_ 48 [.int .u64 (j7_ : Nat), .int .u64 (u8_ : Nat), rv9_], Res.vec 38 5 rv9_ ms10_.length (ms10_.flatMap EntD.cells), Res.row wb16_ 48 [.int .u64 (j17_ : Nat), .int .u64 (u18_ : Nat), rv19_], Res.vec 38 5 rv19_ ms20_.length (ms20_.flatMap EntD.cells), Res.vec 38 5 r23_ es24_.length (es24_.flatMap EntD.cells), Res.star (es24_.map EntD.dres), Res.vec 38 5 r30_ es31_.length (es31_.flatMap EntD.cells), Res.star (es31_.map EntD.dres), Res.row lb11_ 66 [.int .u64 (i12_ : Nat), .int .u64 (t13_ : Nat), lv'32_], Res.vec 38 5 lv'32_ es'33_.length (es'33_.flatMap EntD.cells), Res.star (es'33_.map EntD.dres), Res.vec 38 5 r37_ es38_.length (es38_.flatMap EntD.cells), Res.star (es38_.map EntD.dres), Res.row lb1_ 66 [.int .u64 (i2_ : Nat), .int .u64 (t3_ : Nat), lv'39_], Res.vec 38 5 lv'39_ es'40_.length (es'40_.flatMap EntD.cells), Res.star (es'40_.map EntD.dres)])) w1 (hw.frame0 hO)
            refine l_mv rfl ?_
            refine l_ext (vs := [.int .u64 (x46_ : Nat), .int .i64 e47_]) rfl rfl rfl ?_
            refine l_ext (vs := [.int .u64 (x46_ : Nat), .int .i64 e47_]) rfl rfl rfl ?_
            refine l_as rfl ?_
            refine l_as rfl ?_
            refine l_end ?_
            refine c_reg ?_
            refine l_mv rfl ?_
            refine l_mv rfl ?_
            refine l_ne rfl rfl rfl ?_
            refine l_end ?_
            refine c_dec rfl (fun c7 => ?_) (fun c7 => ?_)
            ·
              exact absurd c7 (by obtain ⟨y, f1, f2⟩ := hN.2.2.2.2 (k - ((nth m 0).index - 1)) (by omega); rw [show (nth m 0).index - 1 + (k - ((nth m 0).index - 1)) = k by omega] at f1 f2; have := fits_termE hf21_2 hf22_2 f1 f2; omega)
            ·
              refine c_skipC ?_
              refine c_last ?_
              refine l_mv rfl ?_
              refine l_add rfl rfl (wu64 (by omega)) rfl ?_
              refine l_as rfl ?_
              exact l_nil (fun w' hw => ⟨k + 1, ⟨rfl, rfl, rfl, rfl, trivial⟩, (by omega), hw, (by omega)⟩)
          ·
            refine c_exitC rfl ?_
            refine c_reg ?_
            refine l_as rfl ?_
            refine l_end ?_
            exact c_ret (ret1 (v := .bool true) rfl rfl (fun w' hw => ⟨rfl, hw.drop⟩))
end Go.Proofs.Ytibbkbgodomfkaa
