/-
  THE WALK OF RlogActs.
-/
import Derived.Test.YtibbkbgodomfkaaRlogP
set_option linter.unusedVariables false
set_option maxRecDepth 10000
namespace Go.Proofs.Ytibbkbgodomfkaa
open Go Go.Sc Go.Proofs

theorem rlogActs_s (index term : Nat) (av : Value) (acts : List ActD) (w : World) (hl : (acts.map fun a => a.list.length).sum ≤ 1048576) (hn : LenOk acts.length) (ha : ∀ a ∈ acts, a.wf) (hi : index ≤ 4611686018427387904) (ht : term ≤ 4611686018427387904) (hav : Rd w [] (Res.sl av acts.length (acts.flatMap ActD.cells))) (all_hav : ∀ p ∈ acts, ActD.rd p w []) : Rets Try.prog 7 #[.int .u64 (index : Nat), .int .u64 (term : Nat), av] w fun u_ w' => u_ = .bool true ∧ Own w [] [] w' := by
  refine fn_enter (args := [.int .u64 (index : Nat), .int .u64 (term : Nat), av]) Try.func7 rfl Try.ntmps7 rfl (Own.start w) ?_
  refine c_reg ?_
  refine l_as rfl ?_
  refine l_end ?_
  refine c_reg ?_
  refine l_mv rfl ?_
  refine l_mv rfl ?_
  refine l_call (by kernel_rfl) rfl rfl (fun w' hw => ?_)
  refine (begin_s index term w' (by first | assumption | omega | (simp <;> omega) | (constructor <;> (first | omega | (simp only [LenOk]; omega) | (simp <;> omega)))) (by first | assumption | omega | (simp <;> omega) | (constructor <;> (first | omega | (simp only [LenOk]; omega) | (simp <;> omega))))).mono ?_
  rintro _ w1 ⟨lb1_, wb2_, rfl, hO⟩
  refine (?_ : CL _ _ _ _ _ _ (Own w [] [Res.row lb1_ 66 [.int .u64 (index : Nat), .int .u64 (term : Nat), (.slice none 0 0)], Res.vec 38 5 (.slice none 0 0) ([] : List EntD).length (([] : List EntD).flatMap EntD.cells), Res.star (([] : List EntD).map EntD.dres), Res.row wb2_ 48 [.int .u64 (index : Nat), .int .u64 (term : Nat), .slice none 0 0]])) w1 (hw.frame0 hO)
  refine l_mv rfl ?_
  refine l_ext (vs := [.pointer (some ⟨lb1_, 0, none⟩), .pointer (some ⟨wb2_, 0, none⟩)]) rfl rfl rfl ?_
  refine l_ext (vs := [.pointer (some ⟨lb1_, 0, none⟩), .pointer (some ⟨wb2_, 0, none⟩)]) rfl rfl rfl ?_
  refine l_as rfl ?_
  refine l_as rfl ?_
  refine l_end ?_
  refine c_seq ?_
  refine c_reg ?_
  refine l_call (by kernel_rfl) rfl rfl (fun w' hw => ?_)
  refine (answers_s w').mono ?_
  rintro _ w1 ⟨rfl, hO⟩
  refine (?_ : CL _ _ _ _ _ _ (Own w [] [Res.row lb1_ 66 [.int .u64 (index : Nat), .int .u64 (term : Nat), (.slice none 0 0)], Res.vec 38 5 (.slice none 0 0) ([] : List EntD).length (([] : List EntD).flatMap EntD.cells), Res.star (([] : List EntD).map EntD.dres), Res.row wb2_ 48 [.int .u64 (index : Nat), .int .u64 (term : Nat), .slice none 0 0]])) w1 (hw.frame0 hO)
  refine l_not (b := true) rfl rfl ?_
  refine l_mv rfl ?_
  refine l_on rfl rfl ?_
  refine l_mv rfl ?_
  refine l_on rfl rfl ?_
  refine l_nilp (by kernel_rfl) rfl rfl rfl ?_
  refine l_on rfl rfl ?_
  refine l_mv rfl ?_
  refine l_on rfl rfl ?_
  refine l_gtr rfl rfl rfl ?_
  refine l_on rfl rfl ?_
  refine l_mv rfl ?_
  refine l_bor (q := ((4611686018427387904 : Nat) : Int) < ((index : Nat) : Int)) 2 7 [25, 24] (((4611686018427387904 : Nat) : Int) < ((term : Nat) : Int)) rfl rfl rfl rfl rfl rfl ⟨_, rfl, rfl, rfl⟩ rfl (fun h2_7 => ?_) (fun g2_10 => ?_)
  ·
    refine l_on rfl (gF h2_7) ?_
    refine l_mv rfl ?_
    refine l_on rfl (gF h2_7) ?_
    refine l_gtr rfl rfl rfl ?_
    exact l_nil (fun w' hw => ⟨(by repeat (first | exact Out.refl _ _ | refine Out.upd rfl ?_ | refine Out.msk rfl ?_)), rfl, hw⟩)
  refine l_on rfl rfl ?_
  refine l_bnep (by kernel_rfl) (bool_dec _) rfl rfl ?_
  refine l_pickF rfl rfl ?_
  refine l_end ?_
  refine c_dec rfl (fun c1 => ?_) (fun c1 => ?_)
  ·
    exact absurd ⟨fun h => (by cases h), fun h => absurd h (by omega)⟩ c1
  ·
    refine c_skipC ?_
    refine c_seq ?_
    refine c_reg ?_
    refine l_as rfl ?_
    refine l_end ?_
    refine c_block ?_
    refine c_loop10 (fun (k : Nat) (lb : Nat) (i : Nat) (t : Nat) (lv : Value) (es : List EntD) (j : Nat) (u : Nat) (rv : Value) (ms : List EntD) => [(2, av), (7, .pointer (some ⟨lb, 0, none⟩)), (8, .pointer (some ⟨wb2_, 0, none⟩)), (9, .int .i64 (k : Nat))]) (fun (k : Nat) (lb : Nat) (i : Nat) (t : Nat) (lv : Value) (es : List EntD) (j : Nat) (u : Nat) (rv : Value) (ms : List EntD) => (k ≤ acts.length ∧ k ≤ 100) ∧ LG j u ms = LG i t es ∧ (∀ p ∈ ms, EntD.rd p w []) ∧ es.length ≤ ((acts.take k).map fun a => a.list.length).sum ∧ (LG i t es).good) (fun (k : Nat) (lb : Nat) (i : Nat) (t : Nat) (lv : Value) (es : List EntD) (j : Nat) (u : Nat) (rv : Value) (ms : List EntD) => [Res.row lb 66 [.int .u64 (i : Nat), .int .u64 (t : Nat), lv], Res.vec 38 5 lv es.length (es.flatMap EntD.cells), Res.star (es.map EntD.dres), Res.row wb2_ 48 [.int .u64 (j : Nat), .int .u64 (u : Nat), rv], Res.vec 38 5 rv ms.length (ms.flatMap EntD.cells)]) (fun (k : Nat) (lb : Nat) (i : Nat) (t : Nat) (lv : Value) (es : List EntD) (j : Nat) (u : Nat) (rv : Value) (ms : List EntD) => acts.length - k) (fun w' hw => ⟨0, lb1_, index, term, .slice none 0 0, [], index, term, .slice none 0 0, [], ⟨rfl, rfl, rfl, rfl, trivial⟩, ⟨⟨Nat.zero_le _, Nat.zero_le _⟩, rfl, (fun p hp => by cases hp), Nat.zero_le _, good0 hi ht⟩, (own_nil hw 38 5)⟩) (fun k lb i t lv es j u rv ms g hΦ => ?_)
    have hall := hΦ.2.2.1
    have hle := hΦ.2.2.2.1
    have hst := @sum_take acts k
    refine c_seq ?_
    refine c_reg ?_
    refine l_mv rfl ?_
    refine l_mv rfl ?_
    refine l_lenS (len := acts.length) (cs := (acts.flatMap ActD.cells)) (by kernel_rfl) rfl (fun w' hw' => Own.rd hav hw') rfl ?_
    refine l_lss rfl rfl rfl ?_
    refine l_mv rfl ?_
    refine l_band (q := ((k : Nat) : Int) < ((acts.length : Nat) : Int)) 2 4 [35, 34] (((k : Nat) : Int) < 100) rfl rfl rfl rfl rfl rfl trivial rfl (fun h5_4 => ?_) (fun g5_7 => ?_)
    ·
      refine l_on rfl (gT h5_4) ?_
      refine l_mv rfl ?_
      refine l_on rfl (gT h5_4) ?_
      refine l_lss rfl rfl rfl ?_
      exact l_nil (fun w' hw => ⟨(by repeat (first | exact Out.refl _ _ | refine Out.upd rfl ?_ | refine Out.msk rfl ?_)), rfl, hw⟩)
    refine l_mv rfl ?_
    refine l_band (q := (((k : Nat) : Int) < ((acts.length : Nat) : Int)) ∧ (((k : Nat) : Int) < 100)) 2 8 [39, 38] (true = true) rfl rfl rfl rfl rfl rfl trivial rfl (fun h5_8 => ?_) (fun g5_11 => ?_)
    ·
      refine l_on rfl (gT h5_8) ?_
      refine l_mv rfl ?_
      refine l_on rfl (gT h5_8) ?_
      refine l_nilnp (by kernel_rfl) rfl rfl rfl ?_
      exact l_nil (fun w' hw => ⟨(by repeat (first | exact Out.refl _ _ | refine Out.upd rfl ?_ | refine Out.msk rfl ?_)), (bool_dec _), hw⟩)
    refine l_end ?_
    refine c_dec rfl (fun c2 => ?_) (fun c2 => ?_)
    ·
      have hss := sum_step (acts := acts) (k := k) (by omega)
      have hst1 := @sum_take acts (k + 1)
      refine c_skipC ?_
      refine c_seq ?_
      refine c_block ?_
      refine c_seq ?_
      refine c_reg ?_
      refine l_mv rfl ?_
      refine l_mv rfl ?_
      refine l_idxS (j := k) (sz := 5) (len := acts.length) (cs := (acts.flatMap ActD.cells)) rfl rfl (by kernel_rfl) (fun w' hw' => Own.rd hav hw') rfl (by omega) rfl ?_
      refine l_fld (o := 0) rfl (by kernel_rfl) rfl ?_
      refine l_ldS (k * 5 + 0) (cs := (acts.flatMap ActD.cells)) rfl (by omega) (fun w' hw' => Own.rd hav hw') (flat_at (sz := 5) (fun _ => rfl) (nth_some (by omega)) (i := 0) rfl) (by kernel_rfl) rfl ?_
      refine l_eq rfl rfl rfl ?_
      refine l_end ?_
      refine c_dec rfl (fun c3 => ?_) (fun c3 => ?_)
      ·
        refine c_last ?_
        refine l_mv rfl ?_
        refine l_call (by kernel_rfl) rfl rfl (fun w' hw => ?_)
        refine (copy_s lb i t lv es w' (by omega) hΦ.2.2.2.2 (hw.give [0, 1, 2] rfl (by decide))).mono ?_
        rintro _ w1 ⟨b3_, lv'4_, es'5_, rfl, hf8_1, hO⟩
        have hc := LG.congr (i := i) (t := t) hf8_1
        have hcl := (LG.map_eq hc).2.2.2
        have hcg : (LG i t es'5_).good := by rw [hc]; exact hΦ.2.2.2.2
        refine (?_ : CL _ _ _ _ _ _ (Own w [] [Res.row wb2_ 48 [.int .u64 (j : Nat), .int .u64 (u : Nat), rv], Res.vec 38 5 rv ms.length (ms.flatMap EntD.cells), Res.row lb 66 [.int .u64 (i : Nat), .int .u64 (t : Nat), lv], Res.vec 38 5 lv es.length (es.flatMap EntD.cells), Res.star (es.map EntD.dres), Res.row b3_ 66 [.int .u64 (i : Nat), .int .u64 (t : Nat), lv'4_], Res.vec 38 5 lv'4_ es'5_.length (es'5_.flatMap EntD.cells), Res.star (es'5_.map EntD.dres)])) w1 (hw.frameL [0, 1, 2] rfl hO)
        refine l_as rfl ?_
        refine l_end ?_
        refine c_reg ?_
        refine l_mv rfl ?_
        refine l_nilp (by kernel_rfl) rfl rfl rfl ?_
        refine l_mv rfl ?_
        refine l_on rfl rfl ?_
        refine l_mv rfl ?_
        refine l_on rfl rfl ?_
        refine l_mv rfl ?_
        refine l_on rfl rfl ?_
        refine l_mv rfl ?_
        refine l_on rfl rfl ?_
        refine l_mv rfl ?_
        refine l_on rfl rfl ?_
        refine l_idxS (j := k) (sz := 5) (len := acts.length) (cs := (acts.flatMap ActD.cells)) rfl rfl (by kernel_rfl) (fun w' hw' => Own.rd hav hw') rfl (by omega) rfl ?_
        refine l_on rfl rfl ?_
        refine l_ldSN (k * 5 + 0) (cs := (acts.flatMap ActD.cells)) (ActD.cells (nth acts k)) rfl (by omega) (fun w' hw' => Own.rd hav hw') (flat_atN (sz := 5) (fun _ => rfl) (nth_some (by omega)) (o := 0) (us := (ActD.cells (nth acts k))) (fun k u h => by rw [Nat.zero_add]; exact h)) (by kernel_rfl) rfl ?_
        refine l_on rfl rfl ?_
        refine l_call (by kernel_rfl) rfl rfl (fun w' hw => ?_)
        refine (act_s b3_ i t lv'4_ es'5_ wb2_ j u rv ms (nth acts k) w' (by omega) (by first | exact hcg | exact hΦ.2.2.2.2) (by first | (rw [hc]; exact hΦ.2.1) | exact hΦ.2.1) (ha _ (nth_mem (by omega))) (fun p hp => EntD.rd.at (hall p hp) hw [5, 6, 7, 0, 1] rfl) ((all_hav _ (nth_mem (by omega))).at hw [5, 6, 7, 0, 1] rfl) (hw.give [5, 6, 7, 0, 1] rfl (by decide))).mono ?_
        rintro _ w1 ⟨i'6_, t'7_, lv'8_, es'9_, j'10_, u'11_, rv'12_, ms'13_, rfl, hf9_9, hf9_9_1, hf9_9_2, hO⟩
        have hai := act_info hf9_9 (by first | exact hcg | exact hΦ.2.2.2.2)
        have hai1 := hai.2
        have hall5 := fun p (hp : p ∈ ms'13_) => (hf9_9_2 p hp).elim (hall p) (fun q => (all_hav (nth acts k) (nth_mem (by omega))).lv_all p q)
        refine (?_ : CL _ _ _ _ _ _ (Own w [] [Res.row lb 66 [.int .u64 (i : Nat), .int .u64 (t : Nat), lv], Res.vec 38 5 lv es.length (es.flatMap EntD.cells), Res.star (es.map EntD.dres), Res.row b3_ 66 [.int .u64 (i'6_ : Nat), .int .u64 (t'7_ : Nat), lv'8_], Res.vec 38 5 lv'8_ es'9_.length (es'9_.flatMap EntD.cells), Res.star (es'9_.map EntD.dres), Res.row wb2_ 48 [.int .u64 (j'10_ : Nat), .int .u64 (u'11_ : Nat), rv'12_], Res.vec 38 5 rv'12_ ms'13_.length (ms'13_.flatMap EntD.cells)])) w1 (hw.frameL [5, 6, 7, 0, 1] rfl hO)
        refine l_on rfl rfl ?_
        refine l_not (b := true) rfl rfl ?_
        refine l_pickF rfl rfl ?_
        refine l_mv rfl ?_
        refine l_on rfl rfl ?_
        refine l_mv rfl ?_
        refine l_on rfl rfl ?_
        refine l_mv rfl ?_
        refine l_on rfl rfl ?_
        refine l_call (by kernel_rfl) rfl rfl (fun w' hw => ?_)
        refine (alike_s b3_ i'6_ t'7_ lv'8_ es'9_ wb2_ j'10_ u'11_ rv'12_ ms'13_ w' (by omega) hai.1 (by first | assumption | omega | (simp <;> omega) | (constructor <;> (first | omega | (simp only [LenOk]; omega) | (simp <;> omega)))) (hw.rdRes0 3 rfl) (hw.rdRes0 6 rfl) (hw.rdVec0 4 rfl) (EntD.rd.star0 5 rfl hw) (hw.rdVec0 7 rfl) (fun p hp => EntD.rd.at0 (hall5 p hp) hw)).mono ?_
        rintro _ w1 ⟨rfl, hO⟩
        refine (?_ : CL _ _ _ _ _ _ (Own w [] [Res.row lb 66 [.int .u64 (i : Nat), .int .u64 (t : Nat), lv], Res.vec 38 5 lv es.length (es.flatMap EntD.cells), Res.star (es.map EntD.dres), Res.row b3_ 66 [.int .u64 (i'6_ : Nat), .int .u64 (t'7_ : Nat), lv'8_], Res.vec 38 5 lv'8_ es'9_.length (es'9_.flatMap EntD.cells), Res.star (es'9_.map EntD.dres), Res.row wb2_ 48 [.int .u64 (j'10_ : Nat), .int .u64 (u'11_ : Nat), rv'12_], Res.vec 38 5 rv'12_ ms'13_.length (ms'13_.flatMap EntD.cells)])) w1 (hw.frame0 hO)
        refine l_on rfl rfl ?_
        refine l_not (b := true) rfl rfl ?_
        refine l_pickF rfl rfl ?_
        refine l_end ?_
        refine c_no rfl ?_
        refine c_skipC ?_
        refine c_last ?_
        refine l_mv rfl ?_
        refine l_add rfl rfl (wi64 (by omega)) rfl ?_
        refine l_as rfl ?_
        exact l_nil (fun w' hw => ⟨k + 1, b3_, i'6_, t'7_, lv'8_, es'9_, j'10_, u'11_, rv'12_, ms'13_, ⟨rfl, rfl, rfl, rfl, trivial⟩, ⟨⟨by omega, by omega⟩, hf9_9_1, (fun p hp => (hf9_9_2 p hp).elim (hall p) (fun q => (all_hav _ (nth_mem (by omega))).lv_all p q)), by have h1 := LogA.act_len (LG i t es'5_) (nth acts k); have h2 := congrArg (fun x : LogA => x.l.length) hf9_9; simp only [List.length_map] at h1 h2; omega, hf9_9 ▸ LogA.act_good hcg _⟩, hw.sel [3, 4, 5, 6, 7] rfl (by decide), (by omega)⟩)
      ·
        refine c_skipC ?_
        refine c_reg ?_
        refine l_mv rfl ?_
        refine l_nilp (by kernel_rfl) rfl rfl rfl ?_
        refine l_mv rfl ?_
        refine l_on rfl rfl ?_
        refine l_mv rfl ?_
        refine l_on rfl rfl ?_
        refine l_mv rfl ?_
        refine l_on rfl rfl ?_
        refine l_mv rfl ?_
        refine l_on rfl rfl ?_
        refine l_mv rfl ?_
        refine l_on rfl rfl ?_
        refine l_idxS (j := k) (sz := 5) (len := acts.length) (cs := (acts.flatMap ActD.cells)) rfl rfl (by kernel_rfl) (fun w' hw' => Own.rd hav hw') rfl (by omega) rfl ?_
        refine l_on rfl rfl ?_
        refine l_ldSN (k * 5 + 0) (cs := (acts.flatMap ActD.cells)) (ActD.cells (nth acts k)) rfl (by omega) (fun w' hw' => Own.rd hav hw') (flat_atN (sz := 5) (fun _ => rfl) (nth_some (by omega)) (o := 0) (us := (ActD.cells (nth acts k))) (fun k u h => by rw [Nat.zero_add]; exact h)) (by kernel_rfl) rfl ?_
        refine l_on rfl rfl ?_
        refine l_call (by kernel_rfl) rfl rfl (fun w' hw => ?_)
        refine (act_s lb i t lv es wb2_ j u rv ms (nth acts k) w' (by omega) (by first | exact hcg | exact hΦ.2.2.2.2) (by first | (rw [hc]; exact hΦ.2.1) | exact hΦ.2.1) (ha _ (nth_mem (by omega))) (fun p hp => EntD.rd.at (hall p hp) hw [0, 1, 2, 3, 4] rfl) ((all_hav _ (nth_mem (by omega))).at hw [0, 1, 2, 3, 4] rfl) (hw.give [0, 1, 2, 3, 4] rfl (by decide))).mono ?_
        rintro _ w1 ⟨i'14_, t'15_, lv'16_, es'17_, j'18_, u'19_, rv'20_, ms'21_, rfl, hf9_9, hf9_9_1, hf9_9_2, hO⟩
        have hai := act_info hf9_9 (by first | exact hcg | exact hΦ.2.2.2.2)
        have hai1 := hai.2
        have hall5 := fun p (hp : p ∈ ms'21_) => (hf9_9_2 p hp).elim (hall p) (fun q => (all_hav (nth acts k) (nth_mem (by omega))).lv_all p q)
        refine (?_ : CL _ _ _ _ _ _ (Own w [] [Res.row lb 66 [.int .u64 (i'14_ : Nat), .int .u64 (t'15_ : Nat), lv'16_], Res.vec 38 5 lv'16_ es'17_.length (es'17_.flatMap EntD.cells), Res.star (es'17_.map EntD.dres), Res.row wb2_ 48 [.int .u64 (j'18_ : Nat), .int .u64 (u'19_ : Nat), rv'20_], Res.vec 38 5 rv'20_ ms'21_.length (ms'21_.flatMap EntD.cells)])) w1 (hw.frameL [0, 1, 2, 3, 4] rfl hO)
        refine l_on rfl rfl ?_
        refine l_not (b := true) rfl rfl ?_
        refine l_pickF rfl rfl ?_
        refine l_mv rfl ?_
        refine l_on rfl rfl ?_
        refine l_mv rfl ?_
        refine l_on rfl rfl ?_
        refine l_mv rfl ?_
        refine l_on rfl rfl ?_
        refine l_call (by kernel_rfl) rfl rfl (fun w' hw => ?_)
        refine (alike_s lb i'14_ t'15_ lv'16_ es'17_ wb2_ j'18_ u'19_ rv'20_ ms'21_ w' (by omega) hai.1 (by first | assumption | omega | (simp <;> omega) | (constructor <;> (first | omega | (simp only [LenOk]; omega) | (simp <;> omega)))) (hw.rdRes0 0 rfl) (hw.rdRes0 3 rfl) (hw.rdVec0 1 rfl) (EntD.rd.star0 2 rfl hw) (hw.rdVec0 4 rfl) (fun p hp => EntD.rd.at0 (hall5 p hp) hw)).mono ?_
        rintro _ w1 ⟨rfl, hO⟩
        refine (?_ : CL _ _ _ _ _ _ (Own w [] [Res.row lb 66 [.int .u64 (i'14_ : Nat), .int .u64 (t'15_ : Nat), lv'16_], Res.vec 38 5 lv'16_ es'17_.length (es'17_.flatMap EntD.cells), Res.star (es'17_.map EntD.dres), Res.row wb2_ 48 [.int .u64 (j'18_ : Nat), .int .u64 (u'19_ : Nat), rv'20_], Res.vec 38 5 rv'20_ ms'21_.length (ms'21_.flatMap EntD.cells)])) w1 (hw.frame0 hO)
        refine l_on rfl rfl ?_
        refine l_not (b := true) rfl rfl ?_
        refine l_pickF rfl rfl ?_
        refine l_end ?_
        refine c_no rfl ?_
        refine c_skipC ?_
        refine c_last ?_
        refine l_mv rfl ?_
        refine l_add rfl rfl (wi64 (by omega)) rfl ?_
        refine l_as rfl ?_
        exact l_nil (fun w' hw => ⟨k + 1, lb, i'14_, t'15_, lv'16_, es'17_, j'18_, u'19_, rv'20_, ms'21_, ⟨rfl, rfl, rfl, rfl, trivial⟩, ⟨⟨by omega, by omega⟩, hf9_9_1, (fun p hp => (hf9_9_2 p hp).elim (hall p) (fun q => (all_hav _ (nth_mem (by omega))).lv_all p q)), by have h1 := LogA.act_len (LG i t es) (nth acts k); have h2 := congrArg (fun x : LogA => x.l.length) hf9_9; simp only [List.length_map] at h1 h2; omega, hf9_9 ▸ LogA.act_good hΦ.2.2.2.2 _⟩, hw, (by omega)⟩)
    ·
      refine c_exitC rfl ?_
      refine c_reg ?_
      refine l_as rfl ?_
      refine l_end ?_
      exact c_ret (ret1 (v := .bool true) rfl rfl (fun w' hw => ⟨rfl, hw.drop⟩))
theorem rlogActsNil_s (index term : Nat) (av : Value) (acts : List ActD) (w : World) (hn : LenOk acts.length) (hi : ¬ (index ≤ 4611686018427387904 ∧ term ≤ 4611686018427387904)) (hav : Rd w [] (Res.sl av acts.length (acts.flatMap ActD.cells))) (all_hav : ∀ p ∈ acts, ActD.rd p w []) : Rets Try.prog 7 #[.int .u64 (index : Nat), .int .u64 (term : Nat), av] w fun u_ w' => u_ = .bool true ∧ Own w [] [] w' := by
  refine fn_enter (args := [.int .u64 (index : Nat), .int .u64 (term : Nat), av]) Try.func7 rfl Try.ntmps7 rfl (Own.start w) ?_
  refine c_reg ?_
  refine l_as rfl ?_
  refine l_end ?_
  refine c_reg ?_
  refine l_mv rfl ?_
  refine l_mv rfl ?_
  refine l_call (by kernel_rfl) rfl rfl (fun w' hw => ?_)
  refine (beginNil_s index term w' (by first | assumption | omega | (simp <;> omega) | (constructor <;> (first | omega | (simp only [LenOk]; omega) | (simp <;> omega))))).mono ?_
  rintro _ w1 ⟨wb1_, rfl, hO⟩
  refine (?_ : CL _ _ _ _ _ _ (Own w [] [])) w1 (hw.frame0 hO)
  refine l_mv rfl ?_
  refine l_ext (vs := [.pointer none, .pointer (some ⟨wb1_, 0, none⟩)]) rfl rfl rfl ?_
  refine l_ext (vs := [.pointer none, .pointer (some ⟨wb1_, 0, none⟩)]) rfl rfl rfl ?_
  refine l_as rfl ?_
  refine l_as rfl ?_
  refine l_end ?_
  refine c_seq ?_
  refine c_reg ?_
  refine l_call (by kernel_rfl) rfl rfl (fun w' hw => ?_)
  refine (answers_s w').mono ?_
  rintro _ w1 ⟨rfl, hO⟩
  refine (?_ : CL _ _ _ _ _ _ (Own w [] [])) w1 (hw.frame0 hO)
  refine l_not (b := true) rfl rfl ?_
  refine l_mv rfl ?_
  refine l_on rfl rfl ?_
  refine l_mv rfl ?_
  refine l_on rfl rfl ?_
  refine l_nilp (by kernel_rfl) rfl rfl rfl ?_
  refine l_on rfl rfl ?_
  refine l_mv rfl ?_
  refine l_on rfl rfl ?_
  refine l_gtr rfl rfl rfl ?_
  refine l_on rfl rfl ?_
  refine l_mv rfl ?_
  refine l_bor (q := ((4611686018427387904 : Nat) : Int) < ((index : Nat) : Int)) 2 7 [25, 24] (((4611686018427387904 : Nat) : Int) < ((term : Nat) : Int)) rfl rfl rfl rfl rfl rfl ⟨_, rfl, rfl, rfl⟩ rfl (fun h2_7 => ?_) (fun g2_10 => ?_)
  ·
    refine l_on rfl (gF h2_7) ?_
    refine l_mv rfl ?_
    refine l_on rfl (gF h2_7) ?_
    refine l_gtr rfl rfl rfl ?_
    exact l_nil (fun w' hw => ⟨(by repeat (first | exact Out.refl _ _ | refine Out.upd rfl ?_ | refine Out.msk rfl ?_)), rfl, hw⟩)
  refine l_on rfl rfl ?_
  refine l_bnep (by kernel_rfl) (bool_dec _) rfl rfl ?_
  refine l_pickF rfl rfl ?_
  refine l_end ?_
  refine c_dec rfl (fun c1 => ?_) (fun c1 => ?_)
  ·
    exact absurd ⟨fun _ => by omega, fun _ => rfl⟩ c1
  ·
    refine c_skipC ?_
    refine c_seq ?_
    refine c_reg ?_
    refine l_as rfl ?_
    refine l_end ?_
    refine c_block ?_
    refine c_loop1 (fun (k : Nat) => [(2, av), (7, .pointer none), (8, .pointer (some ⟨wb1_, 0, none⟩)), (9, .int .i64 (k : Nat))]) (fun (k : Nat) => True) (fun (k : Nat) => []) (fun (k : Nat) => acts.length - k) (fun w' hw => ⟨0, ⟨rfl, rfl, rfl, rfl, trivial⟩, trivial, hw⟩) (fun k g hΦ => ?_)
    refine c_seq ?_
    refine c_reg ?_
    refine l_mv rfl ?_
    refine l_mv rfl ?_
    refine l_lenS (len := acts.length) (cs := (acts.flatMap ActD.cells)) (by kernel_rfl) rfl (fun w' hw' => Own.rd hav hw') rfl ?_
    refine l_lss rfl rfl rfl ?_
    refine l_mv rfl ?_
    refine l_band (q := ((k : Nat) : Int) < ((acts.length : Nat) : Int)) 2 4 [35, 34] (((k : Nat) : Int) < 100) rfl rfl rfl rfl rfl rfl trivial rfl (fun h5_4 => ?_) (fun g5_7 => ?_)
    ·
      refine l_on rfl (gT h5_4) ?_
      refine l_mv rfl ?_
      refine l_on rfl (gT h5_4) ?_
      refine l_lss rfl rfl rfl ?_
      exact l_nil (fun w' hw => ⟨(by repeat (first | exact Out.refl _ _ | refine Out.upd rfl ?_ | refine Out.msk rfl ?_)), rfl, hw⟩)
    refine l_mv rfl ?_
    refine l_band (q := (((k : Nat) : Int) < ((acts.length : Nat) : Int)) ∧ (((k : Nat) : Int) < 100)) 2 8 [39, 38] (false = true) rfl rfl rfl rfl rfl rfl trivial rfl (fun h5_8 => ?_) (fun g5_11 => ?_)
    ·
      refine l_on rfl (gT h5_8) ?_
      refine l_mv rfl ?_
      refine l_on rfl (gT h5_8) ?_
      refine l_nilnp (by kernel_rfl) rfl rfl rfl ?_
      exact l_nil (fun w' hw => ⟨(by repeat (first | exact Out.refl _ _ | refine Out.upd rfl ?_ | refine Out.msk rfl ?_)), (bool_dec _), hw⟩)
    refine l_end ?_
    refine c_dec rfl (fun c2 => ?_) (fun c2 => ?_)
    ·
      exact absurd c2.2 (by decide)
    ·
      refine c_exitC rfl ?_
      refine c_reg ?_
      refine l_as rfl ?_
      refine l_end ?_
      exact c_ret (ret1 (v := .bool true) rfl rfl (fun w' hw => ⟨rfl, hw.drop⟩))
end Go.Proofs.Ytibbkbgodomfkaa
