/-
  THE WALK OF RlogSplits.
-/
import Derived.Test.YtibbkbgodomfkaaRlogP
set_option linter.unusedVariables false
set_option maxRecDepth 10000
namespace Go.Proofs.Ytibbkbgodomfkaa
open Go Go.Sc Go.Proofs

theorem rlogSplits_s (av : Value) (acts : List ActD) (p q : Nat) (mv : Value) (m : List EntD) (at_ : Nat) (w : World) (hl : (acts.map fun a => a.list.length).sum ≤ 1048576) (hn : LenOk acts.length) (ha : ∀ a ∈ acts, a.wf) (hm : m.length ≤ 1048576) (hmw : ∀ e ∈ m, e.wf) (hp : p < 18446744073709551616) (hat : at_ < 256) (hav : Rd w [] (Res.sl av acts.length (acts.flatMap ActD.cells))) (all_hav : ∀ p ∈ acts, ActD.rd p w []) (hmv : Rd w [] (Res.sl mv m.length (m.flatMap EntD.cells))) (all_hmv : ∀ p ∈ m, EntD.rd p w []) : Rets Try.prog 6 #[av, .int .u64 (p : Nat), .int .u64 (q : Nat), mv, .int .u8 (at_ : Nat)] w fun u_ w' => u_ = .bool true ∧ Own w [] [] w' := by
  refine fn_enter (args := [av, .int .u64 (p : Nat), .int .u64 (q : Nat), mv, .int .u8 (at_ : Nat)]) Try.func6 rfl Try.ntmps6 rfl (Own.start w) ?_
  refine c_reg ?_
  refine l_as rfl ?_
  refine l_end ?_
  refine c_reg ?_
  refine l_mv rfl ?_
  refine l_call (by kernel_rfl) rfl rfl (fun w' hw => ?_)
  refine (grown_s 3 1 av acts w' (by first | assumption | omega | (simp <;> omega) | (constructor <;> (first | omega | (simp only [LenOk]; omega) | (simp <;> omega)))) (by first | assumption | omega | (simp <;> omega) | (constructor <;> (first | omega | (simp only [LenOk]; omega) | (simp <;> omega)))) (by first | assumption | omega | (simp <;> omega) | (constructor <;> (first | omega | (simp only [LenOk]; omega) | (simp <;> omega)))) (hw.rd0 hav) (fun p hp => ActD.rd.at0 (all_hav p hp) hw)).mono ?_
  rintro _ w1 ⟨lb1_, i2_, t3_, lv4_, es5_, wb6_, j7_, u8_, rv9_, ms10_, rfl, hf1_1, hf1_1_1, hf1_1_2, hf1_1_3, hf1_1_4, hO⟩
  have hg1 := hf1_1_4
  have hb1 := (LG.le hg1).1
  have hq1 := LG.map_eq hf1_1_1
  have hln1 := hf1_1_3
  have hall1 := FromActs.rd hf1_1_2 all_hav
  have hgw1 : (LG j7_ u8_ ms10_).good := by rw [hf1_1_1]; exact hf1_1_4
  refine (?_ : CL _ _ _ _ _ _ (Own w [] [Res.row lb1_ 66 [.int .u64 (i2_ : Nat), .int .u64 (t3_ : Nat), lv4_], Res.vec 38 5 lv4_ es5_.length (es5_.flatMap EntD.cells), Res.star (es5_.map EntD.dres), Res.row wb6_ 48 [.int .u64 (j7_ : Nat), .int .u64 (u8_ : Nat), rv9_], Res.vec 38 5 rv9_ ms10_.length (ms10_.flatMap EntD.cells)])) w1 (hw.frame0 hO)
  refine l_mv rfl ?_
  refine l_ext (vs := [.pointer (some ⟨lb1_, 0, none⟩), .pointer (some ⟨wb6_, 0, none⟩)]) rfl rfl rfl ?_
  refine l_ext (vs := [.pointer (some ⟨lb1_, 0, none⟩), .pointer (some ⟨wb6_, 0, none⟩)]) rfl rfl rfl ?_
  refine l_as rfl ?_
  refine l_as rfl ?_
  refine l_end ?_
  refine c_reg ?_
  refine l_mv rfl ?_
  refine l_call (by kernel_rfl) rfl rfl (fun w' hw => ?_)
  refine (grown_s 3 1 av acts w' (by first | assumption | omega | (simp <;> omega) | (constructor <;> (first | omega | (simp only [LenOk]; omega) | (simp <;> omega)))) (by first | assumption | omega | (simp <;> omega) | (constructor <;> (first | omega | (simp only [LenOk]; omega) | (simp <;> omega)))) (by first | assumption | omega | (simp <;> omega) | (constructor <;> (first | omega | (simp only [LenOk]; omega) | (simp <;> omega)))) (hw.rd0 hav) (fun p hp => ActD.rd.at0 (all_hav p hp) hw)).mono ?_
  rintro _ w1 ⟨lb11_, i12_, t13_, lv14_, es15_, wb16_, j17_, u18_, rv19_, ms20_, rfl, hf2_1, hf2_1_1, hf2_1_2, hf2_1_3, hf2_1_4, hO⟩
  have hg2 := hf2_1_4
  have hb2 := (LG.le hg2).1
  have hq2 := LG.map_eq hf2_1_1
  have hln2 := hf2_1_3
  have hall2 := FromActs.rd hf2_1_2 all_hav
  have hgw2 : (LG j17_ u18_ ms20_).good := by rw [hf2_1_1]; exact hf2_1_4
  have hAB := hf2_1.trans hf1_1.symm
  refine (?_ : CL _ _ _ _ _ _ (Own w [] [Res.row lb1_ 66 [.int .u64 (i2_ : Nat), .int .u64 (t3_ : Nat), lv4_], Res.vec 38 5 lv4_ es5_.length (es5_.flatMap EntD.cells), Res.star (es5_.map EntD.dres), Res.row wb6_ 48 [.int .u64 (j7_ : Nat), .int .u64 (u8_ : Nat), rv9_], Res.vec 38 5 rv9_ ms10_.length (ms10_.flatMap EntD.cells), Res.row lb11_ 66 [.int .u64 (i12_ : Nat), .int .u64 (t13_ : Nat), lv14_], Res.vec 38 5 lv14_ es15_.length (es15_.flatMap EntD.cells), Res.star (es15_.map EntD.dres), Res.row wb16_ 48 [.int .u64 (j17_ : Nat), .int .u64 (u18_ : Nat), rv19_], Res.vec 38 5 rv19_ ms20_.length (ms20_.flatMap EntD.cells)])) w1 (hw.frame0 hO)
  refine l_mv rfl ?_
  refine l_ext (vs := [.pointer (some ⟨lb11_, 0, none⟩), .pointer (some ⟨wb16_, 0, none⟩)]) rfl rfl rfl ?_
  refine l_ext (vs := [.pointer (some ⟨lb11_, 0, none⟩), .pointer (some ⟨wb16_, 0, none⟩)]) rfl rfl rfl ?_
  refine l_as rfl ?_
  refine l_as rfl ?_
  refine l_end ?_
  refine c_seq ?_
  refine c_reg ?_
  refine l_call (by kernel_rfl) rfl rfl (fun w' hw => ?_)
  refine (answers_s w').mono ?_
  rintro _ w1 ⟨rfl, hO⟩
  refine (?_ : CL _ _ _ _ _ _ (Own w [] [Res.row lb1_ 66 [.int .u64 (i2_ : Nat), .int .u64 (t3_ : Nat), lv4_], Res.vec 38 5 lv4_ es5_.length (es5_.flatMap EntD.cells), Res.star (es5_.map EntD.dres), Res.row wb6_ 48 [.int .u64 (j7_ : Nat), .int .u64 (u8_ : Nat), rv9_], Res.vec 38 5 rv9_ ms10_.length (ms10_.flatMap EntD.cells), Res.row lb11_ 66 [.int .u64 (i12_ : Nat), .int .u64 (t13_ : Nat), lv14_], Res.vec 38 5 lv14_ es15_.length (es15_.flatMap EntD.cells), Res.star (es15_.map EntD.dres), Res.row wb16_ 48 [.int .u64 (j17_ : Nat), .int .u64 (u18_ : Nat), rv19_], Res.vec 38 5 rv19_ ms20_.length (ms20_.flatMap EntD.cells)])) w1 (hw.frame0 hO)
  refine l_not (b := true) rfl rfl ?_
  refine l_mv rfl ?_
  refine l_on rfl rfl ?_
  refine l_mv rfl ?_
  refine l_on rfl rfl ?_
  refine l_nilp (by kernel_rfl) rfl rfl rfl ?_
  refine l_pickF rfl rfl ?_
  refine l_mv rfl ?_
  refine l_on rfl rfl ?_
  refine l_mv rfl ?_
  refine l_on rfl rfl ?_
  refine l_nilp (by kernel_rfl) rfl rfl rfl ?_
  refine l_pickF rfl rfl ?_
  refine l_end ?_
  refine c_no rfl ?_
  refine c_skipC ?_
  refine c_reg ?_
  refine l_mv rfl ?_
  refine l_mv rfl ?_
  refine l_mv rfl ?_
  refine l_mv rfl ?_
  refine l_call (by kernel_rfl) rfl rfl (fun w' hw => ?_)
  refine (ownEnts_s mv m w' (by omega) (fun e he => (hmw e he).data) (hw.rd0 hmv) (fun p hp => EntD.rd.at0 (all_hmv p hp) hw)).mono ?_
  rintro r21_ w1 ⟨_, es22_, rfl, hf5_4, hO⟩
  have hl1 := congrArg List.length hf5_4; simp only [List.length_map] at hl1
  refine (?_ : CL _ _ _ _ _ _ (Own w [] [Res.row lb1_ 66 [.int .u64 (i2_ : Nat), .int .u64 (t3_ : Nat), lv4_], Res.vec 38 5 lv4_ es5_.length (es5_.flatMap EntD.cells), Res.star (es5_.map EntD.dres), Res.row wb6_ 48 [.int .u64 (j7_ : Nat), .int .u64 (u8_ : Nat), rv9_], Res.vec 38 5 rv9_ ms10_.length (ms10_.flatMap EntD.cells), Res.row lb11_ 66 [.int .u64 (i12_ : Nat), .int .u64 (t13_ : Nat), lv14_], Res.vec 38 5 lv14_ es15_.length (es15_.flatMap EntD.cells), Res.star (es15_.map EntD.dres), Res.row wb16_ 48 [.int .u64 (j17_ : Nat), .int .u64 (u18_ : Nat), rv19_], Res.vec 38 5 rv19_ ms20_.length (ms20_.flatMap EntD.cells), Res.vec 38 5 r21_ es22_.length (es22_.flatMap EntD.cells), Res.star (es22_.map EntD.dres)])) w1 (hw.frame0 hO)
  refine l_call (by kernel_rfl) rfl rfl (fun w' hw => ?_)
  refine (append_s lb1_ i2_ t3_ lv4_ es5_ p q r21_ es22_ w' (by first | assumption | omega | (simp <;> omega) | (constructor <;> (first | omega | (simp only [LenOk]; omega) | (simp <;> omega)))) (by first | assumption | omega | (simp <;> omega) | (constructor <;> (first | omega | (simp only [LenOk]; omega) | (simp <;> omega)))) (wf_of_map hf5_4 hmw) (by first | assumption | omega | (simp <;> omega) | (constructor <;> (first | omega | (simp only [LenOk]; omega) | (simp <;> omega)))) (hw.rdVec 10 rfl [0, 1, 2] rfl rfl) (EntD.rd.star 11 rfl [0, 1, 2] rfl rfl hw) (hw.give [0, 1, 2] rfl (by decide))).mono ?_
  rintro _ w1 ⟨lv'23_, es'24_, x25_, y26_, e27_, rfl, hf5_5, hf5_5_1, hO⟩
  have hi1 := app_info hf5_5 hg1
  have hi1' := hi1.2; simp only [List.length_map] at hi1'
  refine (?_ : CL _ _ _ _ _ _ (Own w [] [Res.row wb6_ 48 [.int .u64 (j7_ : Nat), .int .u64 (u8_ : Nat), rv9_], Res.vec 38 5 rv9_ ms10_.length (ms10_.flatMap EntD.cells), Res.row lb11_ 66 [.int .u64 (i12_ : Nat), .int .u64 (t13_ : Nat), lv14_], Res.vec 38 5 lv14_ es15_.length (es15_.flatMap EntD.cells), Res.star (es15_.map EntD.dres), Res.row wb16_ 48 [.int .u64 (j17_ : Nat), .int .u64 (u18_ : Nat), rv19_], Res.vec 38 5 rv19_ ms20_.length (ms20_.flatMap EntD.cells), Res.vec 38 5 r21_ es22_.length (es22_.flatMap EntD.cells), Res.star (es22_.map EntD.dres), Res.row lb1_ 66 [.int .u64 (i2_ : Nat), .int .u64 (t3_ : Nat), lv'23_], Res.vec 38 5 lv'23_ es'24_.length (es'24_.flatMap EntD.cells), Res.star (es'24_.map EntD.dres)])) w1 (hw.frameL [0, 1, 2] rfl hO)
  refine l_mv rfl ?_
  refine l_ext (vs := [.int .u64 (x25_ : Nat), .int .u64 (y26_ : Nat), .int .i64 e27_]) rfl rfl rfl ?_
  refine l_ext (vs := [.int .u64 (x25_ : Nat), .int .u64 (y26_ : Nat), .int .i64 e27_]) rfl rfl rfl ?_
  refine l_ext (vs := [.int .u64 (x25_ : Nat), .int .u64 (y26_ : Nat), .int .i64 e27_]) rfl rfl rfl ?_
  refine l_as rfl ?_
  refine l_as rfl ?_
  refine l_as rfl ?_
  refine l_end ?_
  refine c_reg ?_
  refine l_mv rfl ?_
  refine l_mv rfl ?_
  refine l_mv rfl ?_
  refine l_mv rfl ?_
  refine l_call (by kernel_rfl) rfl rfl (fun w' hw => ?_)
  refine (rappend_s wb6_ j7_ u8_ rv9_ ms10_ p q mv m w' (by first | assumption | omega | (simp <;> omega) | (constructor <;> (first | omega | (simp only [LenOk]; omega) | (simp <;> omega)))) (by first | assumption | omega | (simp <;> omega) | (constructor <;> (first | omega | (simp only [LenOk]; omega) | (simp <;> omega)))) (by first | assumption | omega | (simp <;> omega) | (constructor <;> (first | omega | (simp only [LenOk]; omega) | (simp <;> omega)))) (by first | assumption | omega | (simp <;> omega) | (constructor <;> (first | omega | (simp only [LenOk]; omega) | (simp <;> omega)))) (hw.rdTo hmv [0, 1] rfl) (fun p hp => EntD.rd.at (all_hmv p hp) hw [0, 1] rfl) (fun p hp => EntD.rd.at (hall1 p hp) hw [0, 1] rfl) (hw.give [0, 1] rfl (by decide))).mono ?_
  rintro _ w1 ⟨rv'28_, ms'29_, x30_, y31_, e32_, rfl, hf6_4, hf6_4_1, hf6_4_2, hO⟩
  have hal : LG j7_ u8_ ms'29_ = LG i2_ t3_ es'24_ := by rw [hf6_4, hf5_5, hf5_4, hf1_1_1]
  have hall3 := fun p (hp : p ∈ ms'29_) => (hf6_4_2 p hp).elim (hall1 p) (all_hmv p)
  refine (?_ : CL _ _ _ _ _ _ (Own w [] [Res.row lb11_ 66 [.int .u64 (i12_ : Nat), .int .u64 (t13_ : Nat), lv14_], Res.vec 38 5 lv14_ es15_.length (es15_.flatMap EntD.cells), Res.star (es15_.map EntD.dres), Res.row wb16_ 48 [.int .u64 (j17_ : Nat), .int .u64 (u18_ : Nat), rv19_], Res.vec 38 5 rv19_ ms20_.length (ms20_.flatMap EntD.cells), Res.vec 38 5 r21_ es22_.length (es22_.flatMap EntD.cells), Res.star (es22_.map EntD.dres), Res.row lb1_ 66 [.int .u64 (i2_ : Nat), .int .u64 (t3_ : Nat), lv'23_], Res.vec 38 5 lv'23_ es'24_.length (es'24_.flatMap EntD.cells), Res.star (es'24_.map EntD.dres), Res.row wb6_ 48 [.int .u64 (j7_ : Nat), .int .u64 (u8_ : Nat), rv'28_], Res.vec 38 5 rv'28_ ms'29_.length (ms'29_.flatMap EntD.cells)])) w1 (hw.frameL [0, 1] rfl hO)
  refine l_end ?_
  refine c_seq ?_
  refine c_reg ?_
  refine l_mv rfl ?_
  refine l_ne rfl rfl rfl ?_
  refine l_mv rfl ?_
  refine l_bor (q := e27_ ≠ 0) 3 2 [70, 69, 68] (((m.length : Nat) : Int) = 0) rfl rfl rfl rfl rfl rfl trivial rfl (fun h7_2 => ?_) (fun g7_6 => ?_)
  ·
    refine l_on rfl (gF h7_2) ?_
    refine l_mv rfl ?_
    refine l_on rfl (gF h7_2) ?_
    refine l_lenS (len := m.length) (cs := (m.flatMap EntD.cells)) (by kernel_rfl) rfl (fun w' hw' => Own.rd hmv hw') rfl ?_
    refine l_on rfl (gF h7_2) ?_
    refine l_eq rfl rfl rfl ?_
    exact l_nil (fun w' hw => ⟨(by repeat (first | exact Out.refl _ _ | refine Out.upd rfl ?_ | refine Out.msk rfl ?_)), rfl, hw⟩)
  refine l_end ?_
  refine c_dec rfl (fun c2 => ?_) (fun c2 => ?_)
  ·
    refine c_reg ?_
    refine l_mv rfl ?_
    refine l_mv rfl ?_
    refine l_call (by kernel_rfl) rfl rfl (fun w' hw => ?_)
    refine (alike_s lb1_ i2_ t3_ lv'23_ es'24_ wb6_ j7_ u8_ rv'28_ ms'29_ w' (by omega) hi1.1 hal (hw.rdRes0 7 rfl) (hw.rdRes0 10 rfl) (hw.rdVec0 8 rfl) (EntD.rd.star0 9 rfl hw) (hw.rdVec0 11 rfl) (fun p hp => EntD.rd.at0 (hall3 p hp) hw)).mono ?_
    rintro _ w1 ⟨rfl, hO⟩
    refine (?_ : CL _ _ _ _ _ _ (Own w [] [Res.row lb11_ 66 [.int .u64 (i12_ : Nat), .int .u64 (t13_ : Nat), lv14_], Res.vec 38 5 lv14_ es15_.length (es15_.flatMap EntD.cells), Res.star (es15_.map EntD.dres), Res.row wb16_ 48 [.int .u64 (j17_ : Nat), .int .u64 (u18_ : Nat), rv19_], Res.vec 38 5 rv19_ ms20_.length (ms20_.flatMap EntD.cells), Res.vec 38 5 r21_ es22_.length (es22_.flatMap EntD.cells), Res.star (es22_.map EntD.dres), Res.row lb1_ 66 [.int .u64 (i2_ : Nat), .int .u64 (t3_ : Nat), lv'23_], Res.vec 38 5 lv'23_ es'24_.length (es'24_.flatMap EntD.cells), Res.star (es'24_.map EntD.dres), Res.row wb6_ 48 [.int .u64 (j7_ : Nat), .int .u64 (u8_ : Nat), rv'28_], Res.vec 38 5 rv'28_ ms'29_.length (ms'29_.flatMap EntD.cells)])) w1 (hw.frame0 hO)
    refine l_as rfl ?_
    refine l_end ?_
    exact c_ret (ret1 (v := .bool true) rfl rfl (fun w' hw => ⟨rfl, hw.drop⟩))
  ·
    have hmod := Nat.mod_lt at_ (show 0 < m.length by omega)
    refine c_skipC ?_
    refine c_cut1 (fun (kk : Nat) => [(1, .int .u64 (p : Nat)), (2, .int .u64 (q : Nat)), (3, mv), (11, .pointer (some ⟨lb1_, 0, none⟩)), (12, .pointer (some ⟨wb6_, 0, none⟩)), (13, .pointer (some ⟨lb11_, 0, none⟩)), (14, .pointer (some ⟨wb16_, 0, none⟩)), (15, .int .u64 (x25_ : Nat)), (18, .int .i64 (kk + 1 : Nat))]) (fun (kk : Nat) => kk < m.length) (fun (kk : Nat) => [Res.row lb11_ 66 [.int .u64 (i12_ : Nat), .int .u64 (t13_ : Nat), lv14_], Res.vec 38 5 lv14_ es15_.length (es15_.flatMap EntD.cells), Res.star (es15_.map EntD.dres), Res.row wb16_ 48 [.int .u64 (j17_ : Nat), .int .u64 (u18_ : Nat), rv19_], Res.vec 38 5 rv19_ ms20_.length (ms20_.flatMap EntD.cells), Res.vec 38 5 r21_ es22_.length (es22_.flatMap EntD.cells), Res.star (es22_.map EntD.dres), Res.row lb1_ 66 [.int .u64 (i2_ : Nat), .int .u64 (t3_ : Nat), lv'23_], Res.vec 38 5 lv'23_ es'24_.length (es'24_.flatMap EntD.cells), Res.star (es'24_.map EntD.dres), Res.row wb6_ 48 [.int .u64 (j7_ : Nat), .int .u64 (u8_ : Nat), rv'28_], Res.vec 38 5 rv'28_ ms'29_.length (ms'29_.flatMap EntD.cells)]) ?_ (fun kk g hΦ => ?_)
    ·
      refine c_last ?_
      refine l_mv rfl ?_
      refine l_cvt (by kernel_rfl) rfl (wi64 (by omega)) rfl ?_ (by kernel_rfl)
      refine l_mv rfl ?_
      refine l_lenS (len := m.length) (cs := (m.flatMap EntD.cells)) (by kernel_rfl) rfl (fun w' hw' => Own.rd hmv hw') rfl ?_
      refine l_rem (c := ((at_ % m.length : Nat) : Int)) rfl rfl (by omega) rfl rfl ?_
      refine l_add rfl rfl (wi64 (by omega)) rfl ?_
      refine l_as rfl ?_
      exact l_nil (fun w' hw => ⟨at_ % m.length, ⟨rfl, rfl, rfl, rfl, rfl, rfl, rfl, rfl, rfl, trivial⟩, hmod, hw⟩)
    have hkk := hΦ
    refine c_reg ?_
    refine l_mv rfl ?_
    refine l_mv rfl ?_
    refine l_mv rfl ?_
    refine l_mv rfl ?_
    refine l_mv rfl ?_
    refine l_slcS (sz := 5) (l := 0) (h := kk + 1) (len := m.length) (cs := (m.flatMap EntD.cells)) (by kernel_rfl) rfl (fun w' hw' => Own.rd hmv hw') rfl ⟨_, rfl⟩ (by omega) (by omega) rfl ?_
    have hs33_ := Rd.subL_f (g := EntD.cells) (xs := m) (sz := 5) (fun _ => rfl) hmv (l := 0) (h := kk + 1) (by omega) (by omega)
    refine l_call (by kernel_rfl) rfl rfl (fun w' hw => ?_)
    refine (ownEnts_s (cutV mv 0 (kk + 1) 5) ((m.take (kk + 1)).drop 0) w' (by simp; omega) (fun e he => (hmw e (List.mem_of_mem_take (List.mem_of_mem_drop he))).data) (hw.rd0 hs33_) (all_drop (all_take (fun p hp => EntD.rd.at0 (all_hmv p hp) hw)))).mono ?_
    rintro r34_ w1 ⟨_, es35_, rfl, hf10_6, hO⟩
    have hl2 := congrArg List.length hf10_6; simp only [List.length_map, List.drop_zero, List.length_take] at hl2
    refine (?_ : CL _ _ _ _ _ _ (Own w [] [Res.row lb11_ 66 [.int .u64 (i12_ : Nat), .int .u64 (t13_ : Nat), lv14_], Res.vec 38 5 lv14_ es15_.length (es15_.flatMap EntD.cells), Res.star (es15_.map EntD.dres), Res.row wb16_ 48 [.int .u64 (j17_ : Nat), .int .u64 (u18_ : Nat), rv19_], Res.vec 38 5 rv19_ ms20_.length (ms20_.flatMap EntD.cells), Res.vec 38 5 r21_ es22_.length (es22_.flatMap EntD.cells), Res.star (es22_.map EntD.dres), Res.row lb1_ 66 [.int .u64 (i2_ : Nat), .int .u64 (t3_ : Nat), lv'23_], Res.vec 38 5 lv'23_ es'24_.length (es'24_.flatMap EntD.cells), Res.star (es'24_.map EntD.dres), Res.row wb6_ 48 [.int .u64 (j7_ : Nat), .int .u64 (u8_ : Nat), rv'28_], Res.vec 38 5 rv'28_ ms'29_.length (ms'29_.flatMap EntD.cells), Res.vec 38 5 r34_ es35_.length (es35_.flatMap EntD.cells), Res.star (es35_.map EntD.dres)])) w1 (hw.frame0 hO)
    refine l_call (by kernel_rfl) rfl rfl (fun w' hw => ?_)
    refine (append_s lb11_ i12_ t13_ lv14_ es15_ p q r34_ es35_ w' (by first | assumption | omega | (simp <;> omega) | (constructor <;> (first | omega | (simp only [LenOk]; omega) | (simp <;> omega)))) (by first | assumption | omega | (simp <;> omega) | (constructor <;> (first | omega | (simp only [LenOk]; omega) | (simp <;> omega)))) (wf_of_map hf10_6 (fun e he => hmw e (List.mem_of_mem_take (List.mem_of_mem_drop he)))) (by first | assumption | omega | (simp <;> omega) | (constructor <;> (first | omega | (simp only [LenOk]; omega) | (simp <;> omega)))) (hw.rdVec 12 rfl [0, 1, 2] rfl rfl) (EntD.rd.star 13 rfl [0, 1, 2] rfl rfl hw) (hw.give [0, 1, 2] rfl (by decide))).mono ?_
    rintro _ w1 ⟨lv'36_, es'37_, x38_, y39_, e40_, rfl, hf10_7, hf10_7_1, hO⟩
    have hi2 := app_info hf10_7 hg2
    have hi2' := hi2.2; simp only [List.length_map] at hi2'
    refine (?_ : CL _ _ _ _ _ _ (Own w [] [Res.row wb16_ 48 [.int .u64 (j17_ : Nat), .int .u64 (u18_ : Nat), rv19_], Res.vec 38 5 rv19_ ms20_.length (ms20_.flatMap EntD.cells), Res.vec 38 5 r21_ es22_.length (es22_.flatMap EntD.cells), Res.star (es22_.map EntD.dres), Res.row lb1_ 66 [.int .u64 (i2_ : Nat), .int .u64 (t3_ : Nat), lv'23_], Res.vec 38 5 lv'23_ es'24_.length (es'24_.flatMap EntD.cells), Res.star (es'24_.map EntD.dres), Res.row wb6_ 48 [.int .u64 (j7_ : Nat), .int .u64 (u8_ : Nat), rv'28_], Res.vec 38 5 rv'28_ ms'29_.length (ms'29_.flatMap EntD.cells), Res.vec 38 5 r34_ es35_.length (es35_.flatMap EntD.cells), Res.star (es35_.map EntD.dres), Res.row lb11_ 66 [.int .u64 (i12_ : Nat), .int .u64 (t13_ : Nat), lv'36_], Res.vec 38 5 lv'36_ es'37_.length (es'37_.flatMap EntD.cells), Res.star (es'37_.map EntD.dres)])) w1 (hw.frameL [0, 1, 2] rfl hO)
    refine l_mv rfl ?_
    refine l_ext (vs := [.int .u64 (x38_ : Nat), .int .u64 (y39_ : Nat), .int .i64 e40_]) rfl rfl rfl ?_
    refine l_ext (vs := [.int .u64 (x38_ : Nat), .int .u64 (y39_ : Nat), .int .i64 e40_]) rfl rfl rfl ?_
    refine l_ext (vs := [.int .u64 (x38_ : Nat), .int .u64 (y39_ : Nat), .int .i64 e40_]) rfl rfl rfl ?_
    refine l_as rfl ?_
    refine l_as rfl ?_
    refine l_as rfl ?_
    refine l_end ?_
    refine c_reg ?_
    refine l_mv rfl ?_
    refine l_mv rfl ?_
    refine l_mv rfl ?_
    refine l_mv rfl ?_
    refine l_mv rfl ?_
    refine l_slcS (sz := 5) (l := 0) (h := kk + 1) (len := m.length) (cs := (m.flatMap EntD.cells)) (by kernel_rfl) rfl (fun w' hw' => Own.rd hmv hw') rfl ⟨_, rfl⟩ (by omega) (by omega) rfl ?_
    have hs41_ := Rd.subL_f (g := EntD.cells) (xs := m) (sz := 5) (fun _ => rfl) hmv (l := 0) (h := kk + 1) (by omega) (by omega)
    refine l_call (by kernel_rfl) rfl rfl (fun w' hw => ?_)
    refine (rappend_s wb16_ j17_ u18_ rv19_ ms20_ p q (cutV mv 0 (kk + 1) 5) ((m.take (kk + 1)).drop 0) w' (by simp; omega) (by first | assumption | omega | (simp <;> omega) | (constructor <;> (first | omega | (simp only [LenOk]; omega) | (simp <;> omega)))) (fun e he => hmw e (List.mem_of_mem_take (List.mem_of_mem_drop he))) (by first | assumption | omega | (simp <;> omega) | (constructor <;> (first | omega | (simp only [LenOk]; omega) | (simp <;> omega)))) (hw.rdTo hs41_ [0, 1] rfl) (all_drop (all_take (fun p hp => EntD.rd.at (all_hmv p hp) hw [0, 1] rfl))) (fun p hp => EntD.rd.at (hall2 p hp) hw [0, 1] rfl) (hw.give [0, 1] rfl (by decide))).mono ?_
    rintro _ w1 ⟨rv'42_, ms'43_, x44_, y45_, e46_, rfl, hf11_6, hf11_6_1, hf11_6_2, hO⟩
    refine (?_ : CL _ _ _ _ _ _ (Own w [] [Res.vec 38 5 r21_ es22_.length (es22_.flatMap EntD.cells), Res.star (es22_.map EntD.dres), Res.row lb1_ 66 [.int .u64 (i2_ : Nat), .int .u64 (t3_ : Nat), lv'23_], Res.vec 38 5 lv'23_ es'24_.length (es'24_.flatMap EntD.cells), Res.star (es'24_.map EntD.dres), Res.row wb6_ 48 [.int .u64 (j7_ : Nat), .int .u64 (u8_ : Nat), rv'28_], Res.vec 38 5 rv'28_ ms'29_.length (ms'29_.flatMap EntD.cells), Res.vec 38 5 r34_ es35_.length (es35_.flatMap EntD.cells), Res.star (es35_.map EntD.dres), Res.row lb11_ 66 [.int .u64 (i12_ : Nat), .int .u64 (t13_ : Nat), lv'36_], Res.vec 38 5 lv'36_ es'37_.length (es'37_.flatMap EntD.cells), Res.star (es'37_.map EntD.dres), Res.row wb16_ 48 [.int .u64 (j17_ : Nat), .int .u64 (u18_ : Nat), rv'42_], Res.vec 38 5 rv'42_ ms'43_.length (ms'43_.flatMap EntD.cells)])) w1 (hw.frameL [0, 1] rfl hO)
    refine l_end ?_
    refine c_seq ?_
    refine c_heldo [0, 2, 3, 5, 6, 7, 12, 13] rfl (by decide) (by kernel_rfl) (fun w' hw hS => ?_)
    refine h_take 0 rfl (by kernel_rfl) (by kernel_rfl) (by kernel_rfl) (v_mv) rfl hS ?_
    refine h_take 1 rfl (by kernel_rfl) (by kernel_rfl) (by kernel_rfl) (v_mv) rfl hS ?_
    refine h_take 2 rfl (by kernel_rfl) (by kernel_rfl) (by kernel_rfl) (v_mv) rfl hS ?_
    refine h_take 3 rfl (by kernel_rfl) (by kernel_rfl) (by kernel_rfl) (v_sub rfl rfl (wi64 (by omega))) rfl hS ?_
    refine h_take 4 rfl (by kernel_rfl) (by kernel_rfl) (by kernel_rfl) (v_idxS (j := kk) (sz := 5) (len := m.length) (cs := (m.flatMap EntD.cells)) rfl rfl (by kernel_rfl) (fun w' hw' => Own.rd hmv hw') (by omega) (by omega)) rfl hS ?_
    refine h_take 5 rfl (by kernel_rfl) (by kernel_rfl) (by kernel_rfl) (v_fld (o := 0) rfl (by kernel_rfl)) rfl hS ?_
    refine h_take 6 rfl (by kernel_rfl) (by kernel_rfl) (by kernel_rfl) (v_ldS (v := mv) (off := offV mv + kk * 5 + 0) (kk * 5 + 0) (cs := (m.flatMap EntD.cells)) rfl (by omega) (fun w' hw' => Own.rd hmv hw') (flat_at (sz := 5) (fun _ => rfl) (nth_some (by omega)) (i := 0) rfl) (by kernel_rfl)) rfl hS ?_
    refine h_take 7 rfl (by kernel_rfl) (by kernel_rfl) (by kernel_rfl) (v_mv) rfl hS ?_
    refine h_take 8 rfl (by kernel_rfl) (by kernel_rfl) (by kernel_rfl) (v_mv) rfl hS ?_
    refine h_take 9 rfl (by kernel_rfl) (by kernel_rfl) (by kernel_rfl) (v_sub rfl rfl (wi64 (by omega))) rfl hS ?_
    refine h_take 10 rfl (by kernel_rfl) (by kernel_rfl) (by kernel_rfl) (v_idxS (j := kk) (sz := 5) (len := m.length) (cs := (m.flatMap EntD.cells)) rfl rfl (by kernel_rfl) (fun w' hw' => Own.rd hmv hw') (by omega) (by omega)) rfl hS ?_
    refine h_take 11 rfl (by kernel_rfl) (by kernel_rfl) (by kernel_rfl) (v_fld (o := 1) rfl (by kernel_rfl)) rfl hS ?_
    refine h_take 12 rfl (by kernel_rfl) (by kernel_rfl) (by kernel_rfl) (v_ldS (v := mv) (off := offV mv + kk * 5 + 1) (kk * 5 + 1) (cs := (m.flatMap EntD.cells)) rfl (by omega) (fun w' hw' => Own.rd hmv hw') (flat_at (sz := 5) (fun _ => rfl) (nth_some (by omega)) (i := 1) rfl) (by kernel_rfl)) rfl hS ?_
    refine h_take 13 rfl (by kernel_rfl) (by kernel_rfl) (by kernel_rfl) (v_mv) rfl hS ?_
    refine h_take 14 rfl (by kernel_rfl) (by kernel_rfl) (by kernel_rfl) (v_mv) rfl hS ?_
    have hs47_ := Rd.dropL_f (g := EntD.cells) (xs := m) (sz := 5) (fun _ => rfl) hmv (l := kk + 1) (by omega)
    refine h_take 15 rfl (by kernel_rfl) (by kernel_rfl) (by kernel_rfl) (v_slcS (sz := 5) (l := kk + 1) (h := m.length) (len := m.length) (cs := (m.flatMap EntD.cells)) (by kernel_rfl) rfl (fun w' hw' => Own.rd hmv hw') ⟨_, rfl⟩ rfl (by omega) (by omega)) rfl hS ?_
    refine h_one 16 (by kernel_rfl) rfl hw ?_
    refine l_call (by kernel_rfl) rfl rfl (fun w' hw => ?_)
    refine (ownEnts_s (cutV mv (kk + 1) m.length 5) (m.drop (kk + 1)) w' (by simp; omega) (fun e he => (hmw e (List.mem_of_mem_drop he)).data) (hw.rd0 hs47_) (all_drop (fun p hp => EntD.rd.at0 (all_hmv p hp) hw))).mono ?_
    rintro r48_ w1 ⟨_, es49_, rfl, hf12_16, hO⟩
    have hl3 := congrArg List.length hf12_16; simp only [List.length_map, List.length_drop] at hl3
    refine (?_ : CL _ _ _ _ _ _ (Own w [] [Res.vec 38 5 r21_ es22_.length (es22_.flatMap EntD.cells), Res.star (es22_.map EntD.dres), Res.row lb1_ 66 [.int .u64 (i2_ : Nat), .int .u64 (t3_ : Nat), lv'23_], Res.vec 38 5 lv'23_ es'24_.length (es'24_.flatMap EntD.cells), Res.star (es'24_.map EntD.dres), Res.row wb6_ 48 [.int .u64 (j7_ : Nat), .int .u64 (u8_ : Nat), rv'28_], Res.vec 38 5 rv'28_ ms'29_.length (ms'29_.flatMap EntD.cells), Res.vec 38 5 r34_ es35_.length (es35_.flatMap EntD.cells), Res.star (es35_.map EntD.dres), Res.row lb11_ 66 [.int .u64 (i12_ : Nat), .int .u64 (t13_ : Nat), lv'36_], Res.vec 38 5 lv'36_ es'37_.length (es'37_.flatMap EntD.cells), Res.star (es'37_.map EntD.dres), Res.row wb16_ 48 [.int .u64 (j17_ : Nat), .int .u64 (u18_ : Nat), rv'42_], Res.vec 38 5 rv'42_ ms'43_.length (ms'43_.flatMap EntD.cells), Res.vec 38 5 r48_ es49_.length (es49_.flatMap EntD.cells), Res.star (es49_.map EntD.dres)])) w1 (hw.frame0 hO)
    refine l_nil (fun w' hw => ?_)
    have hS := hw.sel [0, 2, 3, 5, 6, 7, 12, 13] rfl (by decide)
    refine ⟨hS, ?_⟩
    refine h_one 17 (by kernel_rfl) rfl hw ?_
    refine l_call (by kernel_rfl) rfl rfl (fun w' hw => ?_)
    refine (append_s lb11_ i12_ t13_ lv'36_ es'37_ ((nth m kk).index) ((nth m kk).term) r48_ es49_ w' (by first | assumption | omega | (simp <;> omega) | (constructor <;> (first | omega | (simp only [LenOk]; omega) | (simp <;> omega)))) hi2.1 (wf_of_map hf12_16 (fun e he => hmw e (List.mem_of_mem_drop he))) ((hmw _ (nth_mem (by omega))).index) (hw.rdVec 14 rfl [9, 10, 11] rfl rfl) (EntD.rd.star 15 rfl [9, 10, 11] rfl rfl hw) (hw.give [9, 10, 11] rfl (by decide))).mono ?_
    rintro _ w1 ⟨lv'50_, es'51_, x52_, y53_, e54_, rfl, hf12_17, hf12_17_1, hO⟩
    have hi3 := app_info hf12_17 hi2.1
    have hi3' := hi3.2; simp only [List.length_map] at hi3'
    have r1 := hf5_5_1; rw [hf5_4] at r1
    have g1 := hf5_5; rw [hf5_4] at g1
    have g2 := hf10_7; rw [hf10_6, List.drop_zero, List.map_take, hAB] at g2
    have r2 := hf10_7_1; rw [hf10_6, List.drop_zero, List.map_take, hAB] at r2
    have hn0 : (nth m (kk)).toEntA = nth (m.map EntD.toEntA) (kk + 1 - 1) := (nthA (by omega)).symm
    have g3 := hf12_17; rw [hf12_16, List.map_drop, hn0] at g3
    have r3 := hf12_17_1; rw [hf12_16, List.map_drop, hn0] at r3
    have he0 : e27_ = 0 := by omega
    have hSp := split_all he0 (by omega) (by simp; omega) r1 g1 g2 r2 g3 r3
    simp only [List.length_map] at hSp
    have hSq := hSp.2.2.2.1
    have hfl := (LogA.fits_end ((ans_ok r1).1.1 he0).2).1
    rw [LG.last_eq] at hfl
    have hb3 := (LG.le hi3.1).1
    have hb4 := (LG.le hi1.1).1
    refine (?_ : CL _ _ _ _ _ _ (Own w [] [Res.vec 38 5 r21_ es22_.length (es22_.flatMap EntD.cells), Res.star (es22_.map EntD.dres), Res.row lb1_ 66 [.int .u64 (i2_ : Nat), .int .u64 (t3_ : Nat), lv'23_], Res.vec 38 5 lv'23_ es'24_.length (es'24_.flatMap EntD.cells), Res.star (es'24_.map EntD.dres), Res.row wb6_ 48 [.int .u64 (j7_ : Nat), .int .u64 (u8_ : Nat), rv'28_], Res.vec 38 5 rv'28_ ms'29_.length (ms'29_.flatMap EntD.cells), Res.vec 38 5 r34_ es35_.length (es35_.flatMap EntD.cells), Res.star (es35_.map EntD.dres), Res.row wb16_ 48 [.int .u64 (j17_ : Nat), .int .u64 (u18_ : Nat), rv'42_], Res.vec 38 5 rv'42_ ms'43_.length (ms'43_.flatMap EntD.cells), Res.vec 38 5 r48_ es49_.length (es49_.flatMap EntD.cells), Res.star (es49_.map EntD.dres), Res.row lb11_ 66 [.int .u64 (i12_ : Nat), .int .u64 (t13_ : Nat), lv'50_], Res.vec 38 5 lv'50_ es'51_.length (es'51_.flatMap EntD.cells), Res.star (es'51_.map EntD.dres)])) w1 (hw.frameL [9, 10, 11] rfl hO)
    refine l_nil (fun w' hw => ?_)
    have hS := hw.sel [0, 2, 3, 5, 6, 7, 9, 10] rfl (by decide)
    refine ⟨hS, ?_⟩
    refine h_take 18 rfl (by kernel_rfl) (by kernel_rfl) (by kernel_rfl) (v_mv) rfl hS ?_
    refine h_take 19 rfl (by kernel_rfl) (by kernel_rfl) (by kernel_rfl) (v_ext (vs := [.int .u64 (x52_ : Nat), .int .u64 (y53_ : Nat), .int .i64 e54_]) rfl rfl) rfl hS ?_
    refine h_take 20 rfl (by kernel_rfl) (by kernel_rfl) (by kernel_rfl) (v_ext (vs := [.int .u64 (x52_ : Nat), .int .u64 (y53_ : Nat), .int .i64 e54_]) rfl rfl) rfl hS ?_
    refine h_take 21 rfl (by kernel_rfl) (by kernel_rfl) (by kernel_rfl) (v_ext (vs := [.int .u64 (x52_ : Nat), .int .u64 (y53_ : Nat), .int .i64 e54_]) rfl rfl) rfl hS ?_
    refine h_take 22 rfl (by kernel_rfl) (by kernel_rfl) (by kernel_rfl) (v_as) rfl hS ?_
    refine h_take 23 rfl (by kernel_rfl) (by kernel_rfl) (by kernel_rfl) (v_as) rfl hS ?_
    refine h_take 24 rfl (by kernel_rfl) (by kernel_rfl) (by kernel_rfl) (v_as) rfl hS ?_
    refine h_done (by kernel_rfl) ?_
    refine (?_ : C _ _ _ _ _ _ _ (Own w [] [Res.vec 38 5 r21_ es22_.length (es22_.flatMap EntD.cells), Res.star (es22_.map EntD.dres), Res.row lb1_ 66 [.int .u64 (i2_ : Nat), .int .u64 (t3_ : Nat), lv'23_], Res.vec 38 5 lv'23_ es'24_.length (es'24_.flatMap EntD.cells), Res.star (es'24_.map EntD.dres), Res.row wb6_ 48 [.int .u64 (j7_ : Nat), .int .u64 (u8_ : Nat), rv'28_], Res.vec 38 5 rv'28_ ms'29_.length (ms'29_.flatMap EntD.cells), Res.vec 38 5 r34_ es35_.length (es35_.flatMap EntD.cells), Res.star (es35_.map EntD.dres), Res.row wb16_ 48 [.int .u64 (j17_ : Nat), .int .u64 (u18_ : Nat), rv'42_], Res.vec 38 5 rv'42_ ms'43_.length (ms'43_.flatMap EntD.cells), Res.vec 38 5 r48_ es49_.length (es49_.flatMap EntD.cells), Res.star (es49_.map EntD.dres), Res.row lb11_ 66 [.int .u64 (i12_ : Nat), .int .u64 (t13_ : Nat), lv'50_], Res.vec 38 5 lv'50_ es'51_.length (es'51_.flatMap EntD.cells), Res.star (es'51_.map EntD.dres)])) _ hw
    refine c_seq ?_
    refine c_reg ?_
    refine l_mv rfl ?_
    refine l_ne rfl rfl rfl ?_
    refine l_mv rfl ?_
    refine l_bor (q := e40_ ≠ 0) 2 2 [126, 125] (e54_ ≠ 0) rfl rfl rfl rfl rfl rfl trivial rfl (fun h13_2 => ?_) (fun g13_5 => ?_)
    ·
      refine l_on rfl (gF h13_2) ?_
      refine l_mv rfl ?_
      refine l_on rfl (gF h13_2) ?_
      refine l_ne rfl rfl rfl ?_
      exact l_nil (fun w' hw => ⟨(by repeat (first | exact Out.refl _ _ | refine Out.upd rfl ?_ | refine Out.msk rfl ?_)), rfl, hw⟩)
    refine l_mv rfl ?_
    refine l_bor (q := (e40_ ≠ 0) ∨ (e54_ ≠ 0)) 3 6 [131, 130, 129] (((x52_ : Nat) : Int) ≠ ((x25_ : Nat) : Int)) rfl rfl rfl rfl rfl rfl trivial rfl (fun h13_6 => ?_) (fun g13_10 => ?_)
    ·
      refine l_on rfl (gF h13_6) ?_
      refine l_mv rfl ?_
      refine l_on rfl (gF h13_6) ?_
      refine l_mv rfl ?_
      refine l_on rfl (gF h13_6) ?_
      refine l_ne rfl rfl rfl ?_
      exact l_nil (fun w' hw => ⟨(by repeat (first | exact Out.refl _ _ | refine Out.upd rfl ?_ | refine Out.msk rfl ?_)), rfl, hw⟩)
    refine l_end ?_
    refine c_dec rfl (fun c3 => ?_) (fun c3 => ?_)
    ·
      exact absurd c3 (by have := hSp.1; have := hSp.2.1; have := hSp.2.2.1; omega)
    ·
      refine c_skipC ?_
      refine c_seq ?_
      refine c_reg ?_
      refine l_mv rfl ?_
      refine l_as rfl ?_
      refine l_end ?_
      refine c_block ?_
      refine c_loop1 (fun (k : Nat) => [(11, .pointer (some ⟨lb1_, 0, none⟩)), (12, .pointer (some ⟨wb6_, 0, none⟩)), (13, .pointer (some ⟨lb11_, 0, none⟩)), (15, .int .u64 (x25_ : Nat)), (25, .int .u64 (k : Nat))]) (fun (k : Nat) => p ≤ k ∧ k ≤ x25_ + 1) (fun (k : Nat) => [Res.vec 38 5 r21_ es22_.length (es22_.flatMap EntD.cells), Res.star (es22_.map EntD.dres), Res.row lb1_ 66 [.int .u64 (i2_ : Nat), .int .u64 (t3_ : Nat), lv'23_], Res.vec 38 5 lv'23_ es'24_.length (es'24_.flatMap EntD.cells), Res.star (es'24_.map EntD.dres), Res.row wb6_ 48 [.int .u64 (j7_ : Nat), .int .u64 (u8_ : Nat), rv'28_], Res.vec 38 5 rv'28_ ms'29_.length (ms'29_.flatMap EntD.cells), Res.vec 38 5 r34_ es35_.length (es35_.flatMap EntD.cells), Res.star (es35_.map EntD.dres), Res.row wb16_ 48 [.int .u64 (j17_ : Nat), .int .u64 (u18_ : Nat), rv'42_], Res.vec 38 5 rv'42_ ms'43_.length (ms'43_.flatMap EntD.cells), Res.vec 38 5 r48_ es49_.length (es49_.flatMap EntD.cells), Res.star (es49_.map EntD.dres), Res.row lb11_ 66 [.int .u64 (i12_ : Nat), .int .u64 (t13_ : Nat), lv'50_], Res.vec 38 5 lv'50_ es'51_.length (es'51_.flatMap EntD.cells), Res.star (es'51_.map EntD.dres)]) (fun (k : Nat) => x25_ + 1 - k) (fun w' hw => ⟨p, ⟨rfl, rfl, rfl, rfl, rfl, trivial⟩, ⟨Nat.le_refl _, by omega⟩, hw⟩) (fun k g hΦ => ?_)
      refine c_seq ?_
      refine c_reg ?_
      refine l_mv rfl ?_
      refine l_mv rfl ?_
      refine l_leq rfl rfl rfl ?_
      refine l_end ?_
      refine c_dec rfl (fun c4 => ?_) (fun c4 => ?_)
      ·
        refine c_skipC ?_
        refine c_seq ?_
        refine c_block ?_
        refine c_reg ?_
        refine l_mv rfl ?_
        refine l_mv rfl ?_
        refine l_call (by kernel_rfl) rfl rfl (fun w' hw => ?_)
        refine (term_s lb1_ i2_ t3_ lv'23_ es'24_ k w' (by first | assumption | omega | (simp <;> omega) | (constructor <;> (first | omega | (simp only [LenOk]; omega) | (simp <;> omega)))) (by first | assumption | omega | (simp <;> omega) | (constructor <;> (first | omega | (simp only [LenOk]; omega) | (simp <;> omega)))) (by first | assumption | omega | (simp <;> omega) | (constructor <;> (first | omega | (simp only [LenOk]; omega) | (simp <;> omega)))) (hw.rdRes0 2 rfl) (hw.rdVec0 3 rfl) (EntD.rd.star0 4 rfl hw)).mono ?_
        rintro _ w1 ⟨x55_, e56_, rfl, hf18_2, hO⟩
        refine (?_ : CL _ _ _ _ _ _ (Own w [] [Res.vec 38 5 r21_ es22_.length (es22_.flatMap EntD.cells), Res.star (es22_.map EntD.dres), Res.row lb1_ 66 [.int .u64 (i2_ : Nat), .int .u64 (t3_ : Nat), lv'23_], Res.vec 38 5 lv'23_ es'24_.length (es'24_.flatMap EntD.cells), Res.star (es'24_.map EntD.dres), Res.row wb6_ 48 [.int .u64 (j7_ : Nat), .int .u64 (u8_ : Nat), rv'28_], Res.vec 38 5 rv'28_ ms'29_.length (ms'29_.flatMap EntD.cells), Res.vec 38 5 r34_ es35_.length (es35_.flatMap EntD.cells), Res.star (es35_.map EntD.dres), Res.row wb16_ 48 [.int .u64 (j17_ : Nat), .int .u64 (u18_ : Nat), rv'42_], Res.vec 38 5 rv'42_ ms'43_.length (ms'43_.flatMap EntD.cells), Res.vec 38 5 r48_ es49_.length (es49_.flatMap EntD.cells), Res.star (es49_.map EntD.dres), Res.row lb11_ 66 [.int .u64 (i12_ : Nat), .int .u64 (t13_ : Nat), lv'50_], Res.vec 38 5 lv'50_ es'51_.length (es'51_.flatMap EntD.cells), Res.star (es'51_.map EntD.dres)])) w1 (hw.frame0 hO)
        refine l_mv rfl ?_
        refine l_ext (vs := [.int .u64 (x55_ : Nat), .int .i64 e56_]) rfl rfl rfl ?_
        refine l_ext (vs := [.int .u64 (x55_ : Nat), .int .i64 e56_]) rfl rfl rfl ?_
        refine l_as rfl ?_
        refine l_as rfl ?_
        refine l_end ?_
        refine c_reg ?_
        refine l_mv rfl ?_
        refine l_mv rfl ?_
        refine l_call (by kernel_rfl) rfl rfl (fun w' hw => ?_)
        refine (term_s lb11_ i12_ t13_ lv'50_ es'51_ k w' (by first | assumption | omega | (simp <;> omega) | (constructor <;> (first | omega | (simp only [LenOk]; omega) | (simp <;> omega)))) (by first | assumption | omega | (simp <;> omega) | (constructor <;> (first | omega | (simp only [LenOk]; omega) | (simp <;> omega)))) (by first | assumption | omega | (simp <;> omega) | (constructor <;> (first | omega | (simp only [LenOk]; omega) | (simp <;> omega)))) (hw.rdRes0 13 rfl) (hw.rdVec0 14 rfl) (EntD.rd.star0 15 rfl hw)).mono ?_
        rintro _ w1 ⟨x57_, e58_, rfl, hf19_2, hO⟩
        refine (?_ : CL _ _ _ _ _ _ (Own w [] [Res.vec 38 5 r21_ es22_.length (es22_.flatMap EntD.cells), Res.star (es22_.map EntD.dres), Res.row lb1_ 66 [.int .u64 (i2_ : Nat), .int .u64 (t3_ : Nat), lv'23_], Res.vec 38 5 lv'23_ es'24_.length (es'24_.flatMap EntD.cells), Res.star (es'24_.map EntD.dres), Res.row wb6_ 48 [.int .u64 (j7_ : Nat), .int .u64 (u8_ : Nat), rv'28_], Res.vec 38 5 rv'28_ ms'29_.length (ms'29_.flatMap EntD.cells), Res.vec 38 5 r34_ es35_.length (es35_.flatMap EntD.cells), Res.star (es35_.map EntD.dres), Res.row wb16_ 48 [.int .u64 (j17_ : Nat), .int .u64 (u18_ : Nat), rv'42_], Res.vec 38 5 rv'42_ ms'43_.length (ms'43_.flatMap EntD.cells), Res.vec 38 5 r48_ es49_.length (es49_.flatMap EntD.cells), Res.star (es49_.map EntD.dres), Res.row lb11_ 66 [.int .u64 (i12_ : Nat), .int .u64 (t13_ : Nat), lv'50_], Res.vec 38 5 lv'50_ es'51_.length (es'51_.flatMap EntD.cells), Res.star (es'51_.map EntD.dres)])) w1 (hw.frame0 hO)
        refine l_mv rfl ?_
        refine l_ext (vs := [.int .u64 (x57_ : Nat), .int .i64 e58_]) rfl rfl rfl ?_
        refine l_ext (vs := [.int .u64 (x57_ : Nat), .int .i64 e58_]) rfl rfl rfl ?_
        refine l_as rfl ?_
        refine l_as rfl ?_
        refine l_end ?_
        refine c_reg ?_
        refine l_mv rfl ?_
        refine l_mv rfl ?_
        refine l_ne rfl rfl rfl ?_
        refine l_end ?_
        refine c_dec rfl (fun c5 => ?_) (fun c5 => ?_)
        ·
          exact absurd c5 (by obtain ⟨y, f1, f2⟩ := hSp.2.2.2.2 (k - p) (by omega); rw [show p + (k - p) = k by omega] at f1 f2; have := fits_termE hf18_2 hf19_2 f1 f2; omega)
        ·
          refine c_skipC ?_
          refine c_last ?_
          refine l_mv rfl ?_
          refine l_add rfl rfl (wu64 (by omega)) rfl ?_
          refine l_as rfl ?_
          exact l_nil (fun w' hw => ⟨k + 1, ⟨rfl, rfl, rfl, rfl, rfl, trivial⟩, (by omega), hw, (by omega)⟩)
      ·
        refine c_exitC rfl ?_
        refine c_reg ?_
        refine l_mv rfl ?_
        refine l_mv rfl ?_
        refine l_call (by kernel_rfl) rfl rfl (fun w' hw => ?_)
        refine (alike_s lb1_ i2_ t3_ lv'23_ es'24_ wb6_ j7_ u8_ rv'28_ ms'29_ w' (by omega) hi1.1 hal (hw.rdRes0 2 rfl) (hw.rdRes0 5 rfl) (hw.rdVec0 3 rfl) (EntD.rd.star0 4 rfl hw) (hw.rdVec0 6 rfl) (fun p hp => EntD.rd.at0 (hall3 p hp) hw)).mono ?_
        rintro _ w1 ⟨rfl, hO⟩
        refine (?_ : CL _ _ _ _ _ _ (Own w [] [Res.vec 38 5 r21_ es22_.length (es22_.flatMap EntD.cells), Res.star (es22_.map EntD.dres), Res.row lb1_ 66 [.int .u64 (i2_ : Nat), .int .u64 (t3_ : Nat), lv'23_], Res.vec 38 5 lv'23_ es'24_.length (es'24_.flatMap EntD.cells), Res.star (es'24_.map EntD.dres), Res.row wb6_ 48 [.int .u64 (j7_ : Nat), .int .u64 (u8_ : Nat), rv'28_], Res.vec 38 5 rv'28_ ms'29_.length (ms'29_.flatMap EntD.cells), Res.vec 38 5 r34_ es35_.length (es35_.flatMap EntD.cells), Res.star (es35_.map EntD.dres), Res.row wb16_ 48 [.int .u64 (j17_ : Nat), .int .u64 (u18_ : Nat), rv'42_], Res.vec 38 5 rv'42_ ms'43_.length (ms'43_.flatMap EntD.cells), Res.vec 38 5 r48_ es49_.length (es49_.flatMap EntD.cells), Res.star (es49_.map EntD.dres), Res.row lb11_ 66 [.int .u64 (i12_ : Nat), .int .u64 (t13_ : Nat), lv'50_], Res.vec 38 5 lv'50_ es'51_.length (es'51_.flatMap EntD.cells), Res.star (es'51_.map EntD.dres)])) w1 (hw.frame0 hO)
        refine l_as rfl ?_
        refine l_end ?_
        exact c_ret (ret1 (v := .bool true) rfl rfl (fun w' hw => ⟨rfl, hw.drop⟩))
end Go.Proofs.Ytibbkbgodomfkaa
