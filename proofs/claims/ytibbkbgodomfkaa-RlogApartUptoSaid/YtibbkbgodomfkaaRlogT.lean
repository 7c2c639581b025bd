/-
  THE WALK OF RlogApart.
-/
import Derived.Test.YtibbkbgodomfkaaRlogP
set_option linter.unusedVariables false
set_option maxRecDepth 10000
namespace Go.Proofs.Ytibbkbgodomfkaa
open Go Go.Sc Go.Proofs

def EntD.blot (x : EntD) (q : Nat) : EntD := { x with data := x.data.set q 99 }
theorem EntD.blot_dres (x : EntD) (q : Nat) : (x.blot q).dres = Res.vec 5 1 x.dv x.data.length ((x.data.map vb).set q (.int .u8 99)) := by
  show Res.vec _ _ _ _ _ = Res.vec _ _ _ _ _
  have h : (x.blot q).data.map vb = (x.data.map vb).set q (.int .u8 99) := by show (x.data.set q 99).map vb = _; rw [List.map_set]; rfl
  rw [h]
  have h2 : (x.blot q).data.length = x.data.length := List.length_set
  rw [h2]; rfl
theorem nth_set {α : Type} [Inhabited α] {l : List α} {k : Nat} {b : α} (h : k < l.length) : nth (l.set k b) k = b := by simp [nth, h]
theorem blot_cells {rs : List EntD} {k q : Nat} (hk : k < rs.length) : (rs.set k ((nth rs k).blot q)).flatMap EntD.cells = rs.flatMap EntD.cells := by
  simp only [List.flatMap_def, List.map_set]
  have e : EntD.cells ((nth rs k).blot q) = (rs.map EntD.cells)[k]'(by simpa using hk) := by
    rw [List.getElem_map, ← nth_eq (List.getElem?_eq_getElem hk)]; rfl
  rw [e, List.set_getElem_self]
theorem blot_le {rs : List EntD} {k q n : Nat} (hk : k < rs.length) (h : ∀ e ∈ rs, e.data.length ≤ n) : ∀ e ∈ rs.set k ((nth rs k).blot q), e.data.length ≤ n := by
  intro e he
  rcases List.mem_or_eq_of_mem_set he with h' | h'
  · exact h e h'
  · rw [h']; show (List.set _ _ _).length ≤ n; rw [List.length_set]; exact h _ (nth_mem hk)

theorem rlogApart_s (av : Value) (acts : List ActD) (bv : Value) (more : List ActD) (w : World) (hl : (acts.map fun a => a.list.length).sum ≤ 1048576) (hn : LenOk acts.length) (ha : ∀ a ∈ acts, a.wf) (hl2 : (more.map fun a => a.list.length).sum ≤ 1048576) (hn2 : LenOk more.length) (ha2 : ∀ a ∈ more, a.wf) (hav : Rd w [] (Res.sl av acts.length (acts.flatMap ActD.cells))) (all_hav : ∀ p ∈ acts, ActD.rd p w []) (hbv : Rd w [] (Res.sl bv more.length (more.flatMap ActD.cells))) (all_hbv : ∀ p ∈ more, ActD.rd p w []) : Rets Try.prog 8 #[av, bv] w fun u_ w' => u_ = .bool true ∧ Own w [] [] w' := by
  refine fn_enter (args := [av, bv]) Try.func8 rfl Try.ntmps8 rfl (Own.start w) ?_
  refine c_reg ?_
  refine l_as rfl ?_
  refine l_end ?_
  refine c_reg ?_
  refine l_mv rfl ?_
  refine l_call (by kernel_rfl) rfl rfl (fun w' hw => ?_)
  refine (grown_s 3 1 av acts w' (by first | assumption | omega | (simp <;> omega) | (constructor <;> (first | omega | (simp only [LenOk]; omega) | (simp <;> omega)))) (by first | assumption | omega | (simp <;> omega) | (constructor <;> (first | omega | (simp only [LenOk]; omega) | (simp <;> omega)))) (by first | assumption | omega | (simp <;> omega) | (constructor <;> (first | omega | (simp only [LenOk]; omega) | (simp <;> omega)))) (hw.rd0 hav) (fun p hp => ActD.rd.at0 (all_hav p hp) hw)).mono ?_
  rintro _ w1 ⟨lb1_, i2_, t3_, lv4_, es5_, wb6_, j7_, u8_, rv9_, ms10_, rfl, hf1_1, hf1_1_1, hf1_1_2, hf1_1_3, hf1_1_4, hO⟩
  have hg1 := hf1_1_4
  have hb1 := (LG.le hg1).1
  have hq1 := LG.map_eq hf1_1_1
  have hln1 := hf1_1_3
  have hall1 := FromActs.rd hf1_1_2 all_hav
  refine (?_ : CL _ _ _ _ _ _ (Own w [] [Res.row lb1_ 66 [.int .u64 (i2_ : Nat), .int .u64 (t3_ : Nat), lv4_], Res.vec 38 5 lv4_ es5_.length (es5_.flatMap EntD.cells), Res.star (es5_.map EntD.dres), Res.row wb6_ 48 [.int .u64 (j7_ : Nat), .int .u64 (u8_ : Nat), rv9_], Res.vec 38 5 rv9_ ms10_.length (ms10_.flatMap EntD.cells)])) w1 (hw.frame0 hO)
  refine l_mv rfl ?_
  refine l_ext (vs := [.pointer (some ⟨lb1_, 0, none⟩), .pointer (some ⟨wb6_, 0, none⟩)]) rfl rfl rfl ?_
  refine l_ext (vs := [.pointer (some ⟨lb1_, 0, none⟩), .pointer (some ⟨wb6_, 0, none⟩)]) rfl rfl rfl ?_
  refine l_as rfl ?_
  refine l_as rfl ?_
  refine l_end ?_
  refine c_reg ?_
  refine l_mv rfl ?_
  refine l_call (by kernel_rfl) rfl rfl (fun w' hw => ?_)
  refine (copy_s lb1_ i2_ t3_ lv4_ es5_ w' (by first | assumption | omega | (simp <;> omega) | (constructor <;> (first | omega | (simp only [LenOk]; omega) | (simp <;> omega)))) (by first | assumption | omega | (simp <;> omega) | (constructor <;> (first | omega | (simp only [LenOk]; omega) | (simp <;> omega)))) (hw.give [0, 1, 2] rfl (by decide))).mono ?_
  rintro _ w1 ⟨b11_, lv'12_, es'13_, rfl, hf2_1, hO⟩
  have hc := LG.congr (i := i2_) (t := t3_) hf2_1
  have hcl := (LG.map_eq hc).2.2.2
  have hcg : (LG i2_ t3_ es'13_).good := by rw [hc]; exact hg1
  refine (?_ : CL _ _ _ _ _ _ (Own w [] [Res.row wb6_ 48 [.int .u64 (j7_ : Nat), .int .u64 (u8_ : Nat), rv9_], Res.vec 38 5 rv9_ ms10_.length (ms10_.flatMap EntD.cells), Res.row lb1_ 66 [.int .u64 (i2_ : Nat), .int .u64 (t3_ : Nat), lv4_], Res.vec 38 5 lv4_ es5_.length (es5_.flatMap EntD.cells), Res.star (es5_.map EntD.dres), Res.row b11_ 66 [.int .u64 (i2_ : Nat), .int .u64 (t3_ : Nat), lv'12_], Res.vec 38 5 lv'12_ es'13_.length (es'13_.flatMap EntD.cells), Res.star (es'13_.map EntD.dres)])) w1 (hw.frameL [0, 1, 2] rfl hO)
  refine l_as rfl ?_
  refine l_end ?_
  refine c_reg ?_
  refine l_bld (cs := [.int .u64 (3 : Nat), .int .u64 (1 : Nat), .slice none 0 0]) (z := [.int .u64 (0 : Nat), .int .u64 (0 : Nat), .slice none 0 0]) (pl := [(0, 1), (1, 1), (2, 1)]) (by kernel_rfl) (by kernel_rfl) rfl ?_
  refine l_box rfl rfl (fun b33 => ?_)
  refine l_as rfl ?_
  refine l_end ?_
  refine c_seq ?_
  refine c_reg ?_
  refine l_as rfl ?_
  refine l_end ?_
  refine c_block ?_
  refine c_loop9 (fun (k : Nat) (i : Nat) (t : Nat) (lv : Value) (es : List EntD) (j : Nat) (u : Nat) (rv : Value) (ms : List EntD) => [(1, bv), (5, .pointer (some ⟨lb1_, 0, none⟩)), (6, .pointer (some ⟨wb6_, 0, none⟩)), (7, .pointer (some ⟨b11_, 0, none⟩)), (8, .pointer (some ⟨b33, 0, none⟩)), (9, .int .i64 (k : Nat))]) (fun (k : Nat) (i : Nat) (t : Nat) (lv : Value) (es : List EntD) (j : Nat) (u : Nat) (rv : Value) (ms : List EntD) => (k ≤ more.length ∧ k ≤ 100) ∧ (LG i t es).good ∧ (LG j u ms).good ∧ FromActs ms more ∧ es.length ≤ 1048576 + ((more.take k).map fun a => a.list.length).sum ∧ ms.length ≤ ((more.take k).map fun a => a.list.length).sum) (fun (k : Nat) (i : Nat) (t : Nat) (lv : Value) (es : List EntD) (j : Nat) (u : Nat) (rv : Value) (ms : List EntD) => [Res.row lb1_ 66 [.int .u64 (i2_ : Nat), .int .u64 (t3_ : Nat), lv4_], Res.vec 38 5 lv4_ es5_.length (es5_.flatMap EntD.cells), Res.star (es5_.map EntD.dres), Res.row wb6_ 48 [.int .u64 (j7_ : Nat), .int .u64 (u8_ : Nat), rv9_], Res.vec 38 5 rv9_ ms10_.length (ms10_.flatMap EntD.cells), Res.row b11_ 66 [.int .u64 (i : Nat), .int .u64 (t : Nat), lv], Res.vec 38 5 lv es.length (es.flatMap EntD.cells), Res.star (es.map EntD.dres), Res.row b33 48 [.int .u64 (j : Nat), .int .u64 (u : Nat), rv], Res.vec 38 5 rv ms.length (ms.flatMap EntD.cells)]) (fun (k : Nat) (i : Nat) (t : Nat) (lv : Value) (es : List EntD) (j : Nat) (u : Nat) (rv : Value) (ms : List EntD) => more.length - k) (fun w' hw => ⟨0, i2_, t3_, lv'12_, es'13_, 3, 1, .slice none 0 0, [], ⟨rfl, rfl, rfl, rfl, rfl, rfl, trivial⟩, ⟨⟨Nat.zero_le _, Nat.zero_le _⟩, hcg, good0 (by decide) (by decide), (fun p hp => by cases hp), by omega, Nat.zero_le _⟩, (own_nil hw 38 5).sel [2, 3, 4, 0, 1, 5, 6, 7, 8, 9] rfl (by decide)⟩) (fun k i t lv es j u rv ms g hΦ => ?_)
  have hall := hΦ.2.2.2.1.rd all_hbv
  have hst := @sum_take more k
  have hle1 := hΦ.2.2.2.2.1
  have hle2 := hΦ.2.2.2.2.2
  refine c_seq ?_
  refine c_reg ?_
  refine l_mv rfl ?_
  refine l_mv rfl ?_
  refine l_lenS (len := more.length) (cs := (more.flatMap ActD.cells)) (by kernel_rfl) rfl (fun w' hw' => Own.rd hbv hw') rfl ?_
  refine l_lss rfl rfl rfl ?_
  refine l_mv rfl ?_
  refine l_band (q := ((k : Nat) : Int) < ((more.length : Nat) : Int)) 2 4 [40, 39] (((k : Nat) : Int) < 100) rfl rfl rfl rfl rfl rfl trivial rfl (fun h5_4 => ?_) (fun g5_7 => ?_)
  ·
    refine l_on rfl (gT h5_4) ?_
    refine l_mv rfl ?_
    refine l_on rfl (gT h5_4) ?_
    refine l_lss rfl rfl rfl ?_
    exact l_nil (fun w' hw => ⟨(by repeat (first | exact Out.refl _ _ | refine Out.upd rfl ?_ | refine Out.msk rfl ?_)), rfl, hw⟩)
  refine l_mv rfl ?_
  refine l_band (q := (((k : Nat) : Int) < ((more.length : Nat) : Int)) ∧ (((k : Nat) : Int) < 100)) 2 8 [44, 43] (true = true) rfl rfl rfl rfl rfl rfl trivial rfl (fun h5_8 => ?_) (fun g5_11 => ?_)
  ·
    refine l_on rfl (gT h5_8) ?_
    refine l_mv rfl ?_
    refine l_on rfl (gT h5_8) ?_
    refine l_nilnp (by kernel_rfl) rfl rfl rfl ?_
    exact l_nil (fun w' hw => ⟨(by repeat (first | exact Out.refl _ _ | refine Out.upd rfl ?_ | refine Out.msk rfl ?_)), (bool_dec _), hw⟩)
  refine l_end ?_
  refine c_dec rfl (fun c1 => ?_) (fun c1 => ?_)
  ·
    have hss := sum_step (acts := more) (k := k) (by omega)
    have hst1 := @sum_take more (k + 1)
    refine c_skipC ?_
    refine c_seq ?_
    refine c_block ?_
    refine c_last ?_
    refine l_mv rfl ?_
    refine l_mv rfl ?_
    refine l_mv rfl ?_
    refine l_mv rfl ?_
    refine l_idxS (j := k) (sz := 5) (len := more.length) (cs := (more.flatMap ActD.cells)) rfl rfl (by kernel_rfl) (fun w' hw' => Own.rd hbv hw') rfl (by omega) rfl ?_
    refine l_ldSN (v := bv) (off := offV bv + k * 5) (k * 5 + 0) (cs := (more.flatMap ActD.cells)) (ActD.cells (nth more k)) rfl (by omega) (fun w' hw' => Own.rd hbv hw') (flat_atN (sz := 5) (fun _ => rfl) (nth_some (by omega)) (o := 0) (us := (ActD.cells (nth more k))) (fun k u h => by rw [Nat.zero_add]; exact h)) (by kernel_rfl) rfl ?_
    refine l_call (by kernel_rfl) rfl rfl (fun w' hw => ?_)
    refine (act_g b11_ i t lv es b33 j u rv ms (nth more k) w' (by omega) hΦ.2.1 (by omega) hΦ.2.2.1 (ha2 _ (nth_mem (by omega))) (fun p hp => EntD.rd.at (hall p hp) hw [5, 6, 7, 8, 9] rfl) ((all_hbv _ (nth_mem (by omega))).at hw [5, 6, 7, 8, 9] rfl) (hw.give [5, 6, 7, 8, 9] rfl (by decide))).mono ?_
    rintro _ w1 ⟨r14_, i'15_, t'16_, lv'17_, es'18_, j'19_, u'20_, rv'21_, ms'22_, rfl, hf7_6, hf7_6_1, hf7_6_2, hf7_6_3, hO⟩
    refine (?_ : CL _ _ _ _ _ _ (Own w [] [Res.row lb1_ 66 [.int .u64 (i2_ : Nat), .int .u64 (t3_ : Nat), lv4_], Res.vec 38 5 lv4_ es5_.length (es5_.flatMap EntD.cells), Res.star (es5_.map EntD.dres), Res.row wb6_ 48 [.int .u64 (j7_ : Nat), .int .u64 (u8_ : Nat), rv9_], Res.vec 38 5 rv9_ ms10_.length (ms10_.flatMap EntD.cells), Res.row b11_ 66 [.int .u64 (i'15_ : Nat), .int .u64 (t'16_ : Nat), lv'17_], Res.vec 38 5 lv'17_ es'18_.length (es'18_.flatMap EntD.cells), Res.star (es'18_.map EntD.dres), Res.row b33 48 [.int .u64 (j'19_ : Nat), .int .u64 (u'20_ : Nat), rv'21_], Res.vec 38 5 rv'21_ ms'22_.length (ms'22_.flatMap EntD.cells)])) w1 (hw.frameL [5, 6, 7, 8, 9] rfl hO)
    refine l_end ?_
    refine c_last ?_
    refine l_mv rfl ?_
    refine l_add rfl rfl (wi64 (by omega)) rfl ?_
    refine l_as rfl ?_
    exact l_nil (fun w' hw => ⟨k + 1, i'15_, t'16_, lv'17_, es'18_, j'19_, u'20_, rv'21_, ms'22_, ⟨rfl, rfl, rfl, rfl, rfl, rfl, trivial⟩, ⟨⟨by omega, by omega⟩, (act_info hf7_6_1 hΦ.2.1).1, (act_info hf7_6_2 hΦ.2.2.1).1, hΦ.2.2.2.1.step (nth_mem (by omega)) hf7_6_3, by have := (act_info hf7_6_1 hΦ.2.1).2; omega, by have := (act_info hf7_6_2 hΦ.2.2.1).2; omega⟩, hw, (by omega)⟩)
  ·
    refine c_exitC rfl ?_
    refine c_seq ?_
    refine c_reg ?_
    refine l_call (by kernel_rfl) rfl rfl (fun w' hw => ?_)
    refine (answers_s w').mono ?_
    rintro _ w1 ⟨rfl, hO⟩
    refine (?_ : CL _ _ _ _ _ _ (Own w [] [Res.row lb1_ 66 [.int .u64 (i2_ : Nat), .int .u64 (t3_ : Nat), lv4_], Res.vec 38 5 lv4_ es5_.length (es5_.flatMap EntD.cells), Res.star (es5_.map EntD.dres), Res.row wb6_ 48 [.int .u64 (j7_ : Nat), .int .u64 (u8_ : Nat), rv9_], Res.vec 38 5 rv9_ ms10_.length (ms10_.flatMap EntD.cells), Res.row b11_ 66 [.int .u64 (i : Nat), .int .u64 (t : Nat), lv], Res.vec 38 5 lv es.length (es.flatMap EntD.cells), Res.star (es.map EntD.dres), Res.row b33 48 [.int .u64 (j : Nat), .int .u64 (u : Nat), rv], Res.vec 38 5 rv ms.length (ms.flatMap EntD.cells)])) w1 (hw.frame0 hO)
    refine l_not (b := true) rfl rfl ?_
    refine l_mv rfl ?_
    refine l_on rfl rfl ?_
    refine l_mv rfl ?_
    refine l_on rfl rfl ?_
    refine l_nilp (by kernel_rfl) rfl rfl rfl ?_
    refine l_pickF rfl rfl ?_
    refine l_mv rfl ?_
    refine l_on rfl rfl ?_
    refine l_mv rfl ?_
    refine l_on rfl rfl ?_
    refine l_mv rfl ?_
    refine l_on rfl rfl ?_
    refine l_call (by kernel_rfl) rfl rfl (fun w' hw => ?_)
    refine (alike_s lb1_ i2_ t3_ lv4_ es5_ wb6_ j7_ u8_ rv9_ ms10_ w' (by first | assumption | omega | (simp <;> omega) | (constructor <;> (first | omega | (simp only [LenOk]; omega) | (simp <;> omega)))) (by first | assumption | omega | (simp <;> omega) | (constructor <;> (first | omega | (simp only [LenOk]; omega) | (simp <;> omega)))) (by first | assumption | omega | (simp <;> omega) | (constructor <;> (first | omega | (simp only [LenOk]; omega) | (simp <;> omega)))) (hw.rdRes0 0 rfl) (hw.rdRes0 3 rfl) (hw.rdVec0 1 rfl) (EntD.rd.star0 2 rfl hw) (hw.rdVec0 4 rfl) (fun p hp => EntD.rd.at0 (hall1 p hp) hw)).mono ?_
    rintro _ w1 ⟨rfl, hO⟩
    refine (?_ : CL _ _ _ _ _ _ (Own w [] [Res.row lb1_ 66 [.int .u64 (i2_ : Nat), .int .u64 (t3_ : Nat), lv4_], Res.vec 38 5 lv4_ es5_.length (es5_.flatMap EntD.cells), Res.star (es5_.map EntD.dres), Res.row wb6_ 48 [.int .u64 (j7_ : Nat), .int .u64 (u8_ : Nat), rv9_], Res.vec 38 5 rv9_ ms10_.length (ms10_.flatMap EntD.cells), Res.row b11_ 66 [.int .u64 (i : Nat), .int .u64 (t : Nat), lv], Res.vec 38 5 lv es.length (es.flatMap EntD.cells), Res.star (es.map EntD.dres), Res.row b33 48 [.int .u64 (j : Nat), .int .u64 (u : Nat), rv], Res.vec 38 5 rv ms.length (ms.flatMap EntD.cells)])) w1 (hw.frame0 hO)
    refine l_on rfl rfl ?_
    refine l_not (b := true) rfl rfl ?_
    refine l_pickF rfl rfl ?_
    refine l_end ?_
    refine c_no rfl ?_
    refine c_skipC ?_
    refine c_reg ?_
    refine l_mv rfl ?_
    refine l_mv rfl ?_
    refine l_nck rfl rfl ?_
    refine l_fld (o := 0) rfl (by kernel_rfl) rfl ?_
    refine l_ldo 3 (v := .int .u64 (j7_ : Nat)) rfl rfl rfl (by kernel_rfl) rfl ?_
    refine l_add rfl rfl (wu64 (by omega)) rfl ?_
    refine l_call (by kernel_rfl) rfl rfl (fun w' hw => ?_)
    refine (from_s lb1_ i2_ t3_ lv4_ es5_ (j7_ + 1) 4611686018427387904 w' (by omega) hg1 (hw.rdRes0 0 rfl) (hw.rdVec0 1 rfl) (EntD.rd.star0 2 rfl hw)).mono ?_
    rintro _ w1 ⟨r23_, rs24_, e25_, rfl, hf10_6, hO⟩
    have hrd := LG.from_data hg1 hf10_6
    have hrd2 := hrd.2
    refine (?_ : CL _ _ _ _ _ _ (Own w [] [Res.row lb1_ 66 [.int .u64 (i2_ : Nat), .int .u64 (t3_ : Nat), lv4_], Res.vec 38 5 lv4_ es5_.length (es5_.flatMap EntD.cells), Res.star (es5_.map EntD.dres), Res.row wb6_ 48 [.int .u64 (j7_ : Nat), .int .u64 (u8_ : Nat), rv9_], Res.vec 38 5 rv9_ ms10_.length (ms10_.flatMap EntD.cells), Res.row b11_ 66 [.int .u64 (i : Nat), .int .u64 (t : Nat), lv], Res.vec 38 5 lv es.length (es.flatMap EntD.cells), Res.star (es.map EntD.dres), Res.row b33 48 [.int .u64 (j : Nat), .int .u64 (u : Nat), rv], Res.vec 38 5 rv ms.length (ms.flatMap EntD.cells), Res.vec 38 5 r23_ rs24_.length (rs24_.flatMap EntD.cells), Res.star (rs24_.map EntD.dres)])) w1 (hw.frame0 hO)
    refine l_mv rfl ?_
    refine l_ext (vs := [r23_, .int .i64 e25_]) rfl rfl rfl ?_
    refine l_ext (vs := [r23_, .int .i64 e25_]) rfl rfl rfl ?_
    refine l_as rfl ?_
    refine l_as rfl ?_
    refine l_end ?_
    refine c_seq ?_
    refine c_reg ?_
    refine l_as rfl ?_
    refine l_end ?_
    refine c_block ?_
    refine c_loop2 (fun (k2 : Nat) (rs : List EntD) => [(5, .pointer (some ⟨lb1_, 0, none⟩)), (6, .pointer (some ⟨wb6_, 0, none⟩)), (10, r23_), (12, .int .i64 (k2 : Nat))]) (fun (k2 : Nat) (rs : List EntD) => k2 ≤ rs.length ∧ LenOk rs.length ∧ ∀ e ∈ rs, e.data.length ≤ 4096) (fun (k2 : Nat) (rs : List EntD) => [Res.row lb1_ 66 [.int .u64 (i2_ : Nat), .int .u64 (t3_ : Nat), lv4_], Res.vec 38 5 lv4_ es5_.length (es5_.flatMap EntD.cells), Res.star (es5_.map EntD.dres), Res.row wb6_ 48 [.int .u64 (j7_ : Nat), .int .u64 (u8_ : Nat), rv9_], Res.vec 38 5 rv9_ ms10_.length (ms10_.flatMap EntD.cells), Res.vec 38 5 r23_ rs.length (rs.flatMap EntD.cells), Res.star (rs.map EntD.dres)]) (fun (k2 : Nat) (rs : List EntD) => rs.length - k2) (fun w' hw => ⟨0, rs24_, ⟨rfl, rfl, rfl, rfl, trivial⟩, ⟨Nat.zero_le _, by show _ ≤ _; omega, hrd.1⟩, hw.sel [0, 1, 2, 3, 4, 10, 11] rfl (by decide)⟩) (fun k2 rs g hΦ => ?_)
    have hrl := hΦ.2.1
    have hk2 := hΦ.1
    refine c_seq ?_
    refine c_reg ?_
    refine l_mv rfl ?_
    refine l_mv rfl ?_
    refine l_lenS (len := rs.length) (cs := (rs.flatMap EntD.cells)) (by kernel_rfl) rfl (fun w' hw' => Vec.sl (Own.holds hw' 5 _ rfl)) rfl ?_
    refine l_lss rfl rfl rfl ?_
    refine l_end ?_
    refine c_dec rfl (fun c3 => ?_) (fun c3 => ?_)
    ·
      refine c_skipC ?_
      refine c_seq ?_
      refine c_block ?_
      refine c_reg ?_
      refine l_as rfl ?_
      refine l_end ?_
      refine c_block ?_
      refine c_loop2 (fun (q : Nat) (rs2 : List EntD) => [(5, .pointer (some ⟨lb1_, 0, none⟩)), (6, .pointer (some ⟨wb6_, 0, none⟩)), (10, r23_), (12, .int .i64 (k2 : Nat)), (13, .int .i64 (q : Nat))]) (fun (q : Nat) (rs2 : List EntD) => (k2 < rs2.length ∧ rs2.length = rs.length) ∧ q ≤ (nth rs2 k2).data.length ∧ ∀ e ∈ rs2, e.data.length ≤ 4096) (fun (q : Nat) (rs2 : List EntD) => [Res.row lb1_ 66 [.int .u64 (i2_ : Nat), .int .u64 (t3_ : Nat), lv4_], Res.vec 38 5 lv4_ es5_.length (es5_.flatMap EntD.cells), Res.star (es5_.map EntD.dres), Res.row wb6_ 48 [.int .u64 (j7_ : Nat), .int .u64 (u8_ : Nat), rv9_], Res.vec 38 5 rv9_ ms10_.length (ms10_.flatMap EntD.cells), Res.vec 38 5 r23_ rs2.length (rs2.flatMap EntD.cells), Res.star (rs2.map EntD.dres)]) (fun (q : Nat) (rs2 : List EntD) => (nth rs2 k2).data.length - q) (fun w' hw => ⟨0, rs, ⟨rfl, rfl, rfl, rfl, rfl, trivial⟩, ⟨⟨by omega, rfl⟩, Nat.zero_le _, hΦ.2.2⟩, hw⟩) (fun q rs2 g hΦ => ?_)
      have hd3 := hΦ.2.2 _ (nth_mem hΦ.1.1)
      have hk3 := hΦ.1.1
      refine c_seq ?_
      refine c_reg ?_
      refine l_mv rfl ?_
      refine l_mv rfl ?_
      refine l_mv rfl ?_
      refine l_idxS (j := k2) (sz := 5) (len := rs2.length) (cs := (rs2.flatMap EntD.cells)) rfl rfl (by kernel_rfl) (fun w' hw' => Vec.sl (Own.holds hw' 5 _ rfl)) rfl (by omega) rfl ?_
      refine l_fld (o := 4) rfl (by kernel_rfl) rfl ?_
      refine l_ldS (v := r23_) (off := offV r23_ + k2 * 5 + 4) (k2 * 5 + 4) (cs := (rs2.flatMap EntD.cells)) rfl (by omega) (fun w' hw' => Vec.sl (Own.holds hw' 5 _ rfl)) (flat_at (sz := 5) (fun _ => rfl) (nth_some (by omega)) (i := 4) rfl) (by kernel_rfl) rfl ?_
      refine l_lenS (len := ((nth rs2 k2).data).length) (cs := (((nth rs2 k2).data).map vb)) (by kernel_rfl) rfl (fun w' hw' => (EntD.rd.star0 6 rfl hw' _ (nth_mem (by omega))).dv.φ) rfl ?_
      refine l_lss rfl rfl rfl ?_
      refine l_end ?_
      refine c_dec rfl (fun c4 => ?_) (fun c4 => ?_)
      ·
        refine c_skipC ?_
        refine c_seq ?_
        refine c_block ?_
        refine c_last ?_
        refine l_mv rfl ?_
        refine l_mv rfl ?_
        refine l_idxS (j := k2) (sz := 5) (len := rs2.length) (cs := (rs2.flatMap EntD.cells)) rfl rfl (by kernel_rfl) (fun w' hw' => Vec.sl (Own.holds hw' 5 _ rfl)) rfl (by omega) rfl ?_
        refine l_fld (o := 4) rfl (by kernel_rfl) rfl ?_
        refine l_ldS (v := r23_) (off := offV r23_ + k2 * 5 + 4) (k2 * 5 + 4) (cs := (rs2.flatMap EntD.cells)) rfl (by omega) (fun w' hw' => Vec.sl (Own.holds hw' 5 _ rfl)) (flat_at (sz := 5) (fun _ => rfl) (nth_some (by omega)) (i := 4) rfl) (by kernel_rfl) rfl ?_
        refine l_mv rfl ?_
        refine l_idxS (j := q) (sz := 1) (len := ((nth rs2 k2).data).length) (cs := (((nth rs2 k2).data).map vb)) rfl rfl (by kernel_rfl) (fun w' hw' => (EntD.rd.star0 6 rfl hw' _ (nth_mem (by omega))).dv.φ) rfl (by omega) rfl ?_
        refine l_stStar (g := EntD.dres) (off := offV (nth rs2 k2).dv + q * 1) (l := rs2) (a := nth rs2 k2) (b := (nth rs2 k2).blot q) 6 k2 q rfl (nth_some (by omega)) rfl (EntD.blot_dres _ _) rfl (by omega) rfl (by kernel_rfl) rfl (by simp; omega) ?_
        refine l_end ?_
        refine c_last ?_
        refine l_mv rfl ?_
        refine l_add rfl rfl (wi64 (by omega)) rfl ?_
        refine l_as rfl ?_
        exact l_nil (fun w' hw => ⟨q + 1, rs2.set k2 ((nth rs2 k2).blot q), ⟨rfl, rfl, rfl, rfl, rfl, trivial⟩, ⟨⟨by rw [List.length_set]; omega, by rw [List.length_set]; omega⟩, by rw [nth_set (by omega)]; show q + 1 ≤ (List.set _ _ _).length; rw [List.length_set]; omega, blot_le (by omega) hΦ.2.2⟩, by rw [blot_cells (by omega), List.length_set]; exact hw, by rw [nth_set (by omega)]; show (List.set _ _ _).length - _ < _; rw [List.length_set]; omega⟩)
      ·
        refine c_exitC rfl ?_
        refine c_last ?_
        refine l_mv rfl ?_
        refine l_add rfl rfl (wi64 (by omega)) rfl ?_
        refine l_as rfl ?_
        exact l_nil (fun w' hw => ⟨k2 + 1, rs2, ⟨rfl, rfl, rfl, rfl, trivial⟩, ⟨by omega, by show _ ≤ _; omega, hΦ.2.2⟩, hw, (by omega)⟩)
    ·
      refine c_exitC rfl ?_
      refine c_reg ?_
      refine l_as rfl ?_
      refine l_end ?_
      refine c_reg ?_
      refine l_mv rfl ?_
      refine l_call (by kernel_rfl) rfl rfl (fun w' hw => ?_)
      refine (termNil_s 1 w').mono ?_
      rintro _ w1 ⟨rfl, hO⟩
      refine (?_ : CL _ _ _ _ _ _ (Own w [] [Res.row lb1_ 66 [.int .u64 (i2_ : Nat), .int .u64 (t3_ : Nat), lv4_], Res.vec 38 5 lv4_ es5_.length (es5_.flatMap EntD.cells), Res.star (es5_.map EntD.dres), Res.row wb6_ 48 [.int .u64 (j7_ : Nat), .int .u64 (u8_ : Nat), rv9_], Res.vec 38 5 rv9_ ms10_.length (ms10_.flatMap EntD.cells), Res.vec 38 5 r23_ rs.length (rs.flatMap EntD.cells), Res.star (rs.map EntD.dres)])) w1 (hw.frame0 hO)
      refine l_mv rfl ?_
      refine l_ext (vs := [.int .u64 (0 : Nat), .int .i64 1]) rfl rfl rfl ?_
      refine l_ext (vs := [.int .u64 (0 : Nat), .int .i64 1]) rfl rfl rfl ?_
      refine l_as rfl ?_
      refine l_as rfl ?_
      refine l_end ?_
      refine c_reg ?_
      refine l_mv rfl ?_
      refine l_call (by kernel_rfl) rfl rfl (fun w' hw => ?_)
      refine (fromNil_s 1 1 w').mono ?_
      rintro _ w1 ⟨rfl, hO⟩
      refine (?_ : CL _ _ _ _ _ _ (Own w [] [Res.row lb1_ 66 [.int .u64 (i2_ : Nat), .int .u64 (t3_ : Nat), lv4_], Res.vec 38 5 lv4_ es5_.length (es5_.flatMap EntD.cells), Res.star (es5_.map EntD.dres), Res.row wb6_ 48 [.int .u64 (j7_ : Nat), .int .u64 (u8_ : Nat), rv9_], Res.vec 38 5 rv9_ ms10_.length (ms10_.flatMap EntD.cells), Res.vec 38 5 r23_ rs.length (rs.flatMap EntD.cells), Res.star (rs.map EntD.dres)])) w1 (hw.frame0 hO)
      refine l_mv rfl ?_
      refine l_ext (vs := [.slice none 0 0, .int .i64 1]) rfl rfl rfl ?_
      refine l_ext (vs := [.slice none 0 0, .int .i64 1]) rfl rfl rfl ?_
      refine l_as rfl ?_
      refine l_as rfl ?_
      refine l_end ?_
      refine c_reg ?_
      refine l_mv rfl ?_
      refine l_call (by kernel_rfl) rfl rfl (fun w' hw => ?_)
      refine (appendNil_s 1 1 (.slice none 0 0) [] w' Rd.nil (fun p hp => by cases hp)).mono ?_
      rintro _ w1 ⟨rfl, hO⟩
      refine (?_ : CL _ _ _ _ _ _ (Own w [] [Res.row lb1_ 66 [.int .u64 (i2_ : Nat), .int .u64 (t3_ : Nat), lv4_], Res.vec 38 5 lv4_ es5_.length (es5_.flatMap EntD.cells), Res.star (es5_.map EntD.dres), Res.row wb6_ 48 [.int .u64 (j7_ : Nat), .int .u64 (u8_ : Nat), rv9_], Res.vec 38 5 rv9_ ms10_.length (ms10_.flatMap EntD.cells), Res.vec 38 5 r23_ rs.length (rs.flatMap EntD.cells), Res.star (rs.map EntD.dres)])) w1 (hw.frame0 hO)
      refine l_mv rfl ?_
      refine l_ext (vs := [.int .u64 (0 : Nat), .int .u64 (0 : Nat), .int .i64 1]) rfl rfl rfl ?_
      refine l_ext (vs := [.int .u64 (0 : Nat), .int .u64 (0 : Nat), .int .i64 1]) rfl rfl rfl ?_
      refine l_ext (vs := [.int .u64 (0 : Nat), .int .u64 (0 : Nat), .int .i64 1]) rfl rfl rfl ?_
      refine l_as rfl ?_
      refine l_as rfl ?_
      refine l_as rfl ?_
      refine l_end ?_
      refine c_reg ?_
      refine l_mv rfl ?_
      refine l_call (by kernel_rfl) rfl rfl (fun w' hw => ?_)
      refine (lastNil_s w').mono ?_
      rintro _ w1 ⟨rfl, hO⟩
      refine (?_ : CL _ _ _ _ _ _ (Own w [] [Res.row lb1_ 66 [.int .u64 (i2_ : Nat), .int .u64 (t3_ : Nat), lv4_], Res.vec 38 5 lv4_ es5_.length (es5_.flatMap EntD.cells), Res.star (es5_.map EntD.dres), Res.row wb6_ 48 [.int .u64 (j7_ : Nat), .int .u64 (u8_ : Nat), rv9_], Res.vec 38 5 rv9_ ms10_.length (ms10_.flatMap EntD.cells), Res.vec 38 5 r23_ rs.length (rs.flatMap EntD.cells), Res.star (rs.map EntD.dres)])) w1 (hw.frame0 hO)
      refine l_mv rfl ?_
      refine l_ext (vs := [.int .u64 (0 : Nat), .int .u64 (0 : Nat)]) rfl rfl rfl ?_
      refine l_ext (vs := [.int .u64 (0 : Nat), .int .u64 (0 : Nat)]) rfl rfl rfl ?_
      refine l_as rfl ?_
      refine l_as rfl ?_
      refine l_end ?_
      refine c_reg ?_
      refine l_as rfl ?_
      refine l_end ?_
      refine c_reg ?_
      refine l_mv rfl ?_
      refine l_mv rfl ?_
      refine l_call (by kernel_rfl) rfl rfl (fun w' hw => ?_)
      refine (alike_s lb1_ i2_ t3_ lv4_ es5_ wb6_ j7_ u8_ rv9_ ms10_ w' (by first | assumption | omega | (simp <;> omega) | (constructor <;> (first | omega | (simp only [LenOk]; omega) | (simp <;> omega)))) (by first | assumption | omega | (simp <;> omega) | (constructor <;> (first | omega | (simp only [LenOk]; omega) | (simp <;> omega)))) (by first | assumption | omega | (simp <;> omega) | (constructor <;> (first | omega | (simp only [LenOk]; omega) | (simp <;> omega)))) (hw.rdRes0 0 rfl) (hw.rdRes0 3 rfl) (hw.rdVec0 1 rfl) (EntD.rd.star0 2 rfl hw) (hw.rdVec0 4 rfl) (fun p hp => EntD.rd.at0 (hall1 p hp) hw)).mono ?_
      rintro _ w1 ⟨rfl, hO⟩
      refine (?_ : CL _ _ _ _ _ _ (Own w [] [Res.row lb1_ 66 [.int .u64 (i2_ : Nat), .int .u64 (t3_ : Nat), lv4_], Res.vec 38 5 lv4_ es5_.length (es5_.flatMap EntD.cells), Res.star (es5_.map EntD.dres), Res.row wb6_ 48 [.int .u64 (j7_ : Nat), .int .u64 (u8_ : Nat), rv9_], Res.vec 38 5 rv9_ ms10_.length (ms10_.flatMap EntD.cells), Res.vec 38 5 r23_ rs.length (rs.flatMap EntD.cells), Res.star (rs.map EntD.dres)])) w1 (hw.frame0 hO)
      refine l_mv rfl ?_
      refine l_on rfl rfl ?_
      refine l_mv rfl ?_
      refine l_on rfl rfl ?_
      refine l_mv rfl ?_
      refine l_on rfl rfl ?_
      refine l_eq rfl rfl rfl ?_
      refine l_pickT rfl rfl ?_
      refine l_mv rfl ?_
      refine l_band (q := 1 = 1) 3 8 [132, 131, 130] (1 = 1) rfl rfl rfl rfl rfl rfl trivial rfl (fun h24_8 => ?_) (fun g24_12 => ?_)
      ·
        refine l_on rfl (gT h24_8) ?_
        refine l_mv rfl ?_
        refine l_on rfl (gT h24_8) ?_
        refine l_mv rfl ?_
        refine l_on rfl (gT h24_8) ?_
        refine l_eq rfl rfl rfl ?_
        exact l_nil (fun w' hw => ⟨(by repeat (first | exact Out.refl _ _ | refine Out.upd rfl ?_ | refine Out.msk rfl ?_)), rfl, hw⟩)
      refine l_mv rfl ?_
      refine l_band (q := (1 = 1) ∧ (1 = 1)) 3 13 [137, 136, 135] (1 = 1) rfl rfl rfl rfl rfl rfl trivial rfl (fun h24_13 => ?_) (fun g24_17 => ?_)
      ·
        refine l_on rfl (gT h24_13) ?_
        refine l_mv rfl ?_
        refine l_on rfl (gT h24_13) ?_
        refine l_mv rfl ?_
        refine l_on rfl (gT h24_13) ?_
        refine l_eq rfl rfl rfl ?_
        exact l_nil (fun w' hw => ⟨(by repeat (first | exact Out.refl _ _ | refine Out.upd rfl ?_ | refine Out.msk rfl ?_)), rfl, hw⟩)
      refine l_mv rfl ?_
      refine l_band (q := ((1 = 1) ∧ (1 = 1)) ∧ (1 = 1)) 4 18 [143, 142, 141, 140] (1 = 1) rfl rfl rfl rfl rfl rfl trivial rfl (fun h24_18 => ?_) (fun g24_23 => ?_)
      ·
        refine l_on rfl (gT h24_18) ?_
        refine l_mv rfl ?_
        refine l_on rfl (gT h24_18) ?_
        refine l_call (by kernel_rfl) rfl rfl (fun w' hw => ?_)
        refine (shrinkNil_s 1 w').mono ?_
        rintro _ w1 ⟨rfl, hO⟩
        refine (?_ : CL _ _ _ _ _ _ (Own w [] [Res.row lb1_ 66 [.int .u64 (i2_ : Nat), .int .u64 (t3_ : Nat), lv4_], Res.vec 38 5 lv4_ es5_.length (es5_.flatMap EntD.cells), Res.star (es5_.map EntD.dres), Res.row wb6_ 48 [.int .u64 (j7_ : Nat), .int .u64 (u8_ : Nat), rv9_], Res.vec 38 5 rv9_ ms10_.length (ms10_.flatMap EntD.cells), Res.vec 38 5 r23_ rs.length (rs.flatMap EntD.cells), Res.star (rs.map EntD.dres)])) w1 (hw.frame0 hO)
        refine l_on rfl (gT h24_18) ?_
        refine l_mv rfl ?_
        refine l_on rfl (gT h24_18) ?_
        refine l_eq rfl rfl rfl ?_
        exact l_nil (fun w' hw => ⟨(by repeat (first | exact Out.refl _ _ | refine Out.upd rfl ?_ | refine Out.msk rfl ?_)), rfl, hw⟩)
      refine l_mv rfl ?_
      refine l_band (q := (((1 = 1) ∧ (1 = 1)) ∧ (1 = 1)) ∧ (1 = 1)) 2 24 [147, 146] (((0 : Nat) : Int) = ((0 : Nat) : Int)) rfl rfl rfl rfl rfl rfl trivial rfl (fun h24_24 => ?_) (fun g24_27 => ?_)
      ·
        refine l_on rfl (gT h24_24) ?_
        refine l_mv rfl ?_
        refine l_on rfl (gT h24_24) ?_
        refine l_eq rfl rfl rfl ?_
        exact l_nil (fun w' hw => ⟨(by repeat (first | exact Out.refl _ _ | refine Out.upd rfl ?_ | refine Out.msk rfl ?_)), rfl, hw⟩)
      refine l_mv rfl ?_
      refine l_band (q := ((((1 = 1) ∧ (1 = 1)) ∧ (1 = 1)) ∧ (1 = 1)) ∧ (((0 : Nat) : Int) = ((0 : Nat) : Int))) 2 28 [151, 150] (((0 : Nat) : Int) = ((0 : Nat) : Int)) rfl rfl rfl rfl rfl rfl trivial rfl (fun h24_28 => ?_) (fun g24_31 => ?_)
      ·
        refine l_on rfl (gT h24_28) ?_
        refine l_mv rfl ?_
        refine l_on rfl (gT h24_28) ?_
        refine l_eq rfl rfl rfl ?_
        exact l_nil (fun w' hw => ⟨(by repeat (first | exact Out.refl _ _ | refine Out.upd rfl ?_ | refine Out.msk rfl ?_)), rfl, hw⟩)
      refine l_mv rfl ?_
      refine l_band (q := (((((1 = 1) ∧ (1 = 1)) ∧ (1 = 1)) ∧ (1 = 1)) ∧ (((0 : Nat) : Int) = ((0 : Nat) : Int))) ∧ (((0 : Nat) : Int) = ((0 : Nat) : Int))) 3 32 [156, 155, 154] (true = true) rfl rfl rfl rfl rfl rfl trivial rfl (fun h24_32 => ?_) (fun g24_36 => ?_)
      ·
        refine l_on rfl (gT h24_32) ?_
        refine l_mv rfl ?_
        refine l_on rfl (gT h24_32) ?_
        refine l_call (by kernel_rfl) rfl rfl (fun w' hw => ?_)
        refine (fitsNil_s 0 0 w').mono ?_
        rintro _ w1 ⟨rfl, hO⟩
        refine (?_ : CL _ _ _ _ _ _ (Own w [] [Res.row lb1_ 66 [.int .u64 (i2_ : Nat), .int .u64 (t3_ : Nat), lv4_], Res.vec 38 5 lv4_ es5_.length (es5_.flatMap EntD.cells), Res.star (es5_.map EntD.dres), Res.row wb6_ 48 [.int .u64 (j7_ : Nat), .int .u64 (u8_ : Nat), rv9_], Res.vec 38 5 rv9_ ms10_.length (ms10_.flatMap EntD.cells), Res.vec 38 5 r23_ rs.length (rs.flatMap EntD.cells), Res.star (rs.map EntD.dres)])) w1 (hw.frame0 hO)
        refine l_on rfl (gT h24_32) ?_
        refine l_not (b := false) rfl rfl ?_
        exact l_nil (fun w' hw => ⟨(by repeat (first | exact Out.refl _ _ | refine Out.upd rfl ?_ | refine Out.msk rfl ?_)), (bool_dec _), hw⟩)
      refine l_mv rfl ?_
      refine l_band (q := ((((((1 = 1) ∧ (1 = 1)) ∧ (1 = 1)) ∧ (1 = 1)) ∧ (((0 : Nat) : Int) = ((0 : Nat) : Int))) ∧ (((0 : Nat) : Int) = ((0 : Nat) : Int))) ∧ (true = true)) 3 37 [161, 160, 159] (true = true) rfl rfl rfl rfl rfl rfl trivial rfl (fun h24_37 => ?_) (fun g24_41 => ?_)
      ·
        refine l_on rfl (gT h24_37) ?_
        refine l_mv rfl ?_
        refine l_on rfl (gT h24_37) ?_
        refine l_call (by kernel_rfl) rfl rfl (fun w' hw => ?_)
        refine (freshNil_s 0 0 w').mono ?_
        rintro _ w1 ⟨rfl, hO⟩
        refine (?_ : CL _ _ _ _ _ _ (Own w [] [Res.row lb1_ 66 [.int .u64 (i2_ : Nat), .int .u64 (t3_ : Nat), lv4_], Res.vec 38 5 lv4_ es5_.length (es5_.flatMap EntD.cells), Res.star (es5_.map EntD.dres), Res.row wb6_ 48 [.int .u64 (j7_ : Nat), .int .u64 (u8_ : Nat), rv9_], Res.vec 38 5 rv9_ ms10_.length (ms10_.flatMap EntD.cells), Res.vec 38 5 r23_ rs.length (rs.flatMap EntD.cells), Res.star (rs.map EntD.dres)])) w1 (hw.frame0 hO)
        refine l_on rfl (gT h24_37) ?_
        refine l_not (b := false) rfl rfl ?_
        exact l_nil (fun w' hw => ⟨(by repeat (first | exact Out.refl _ _ | refine Out.upd rfl ?_ | refine Out.msk rfl ?_)), (bool_dec _), hw⟩)
      refine l_mv rfl ?_
      refine l_band (q := (((((((1 = 1) ∧ (1 = 1)) ∧ (1 = 1)) ∧ (1 = 1)) ∧ (((0 : Nat) : Int) = ((0 : Nat) : Int))) ∧ (((0 : Nat) : Int) = ((0 : Nat) : Int))) ∧ (true = true)) ∧ (true = true)) 3 42 [166, 165, 164] (true = true) rfl rfl rfl rfl rfl rfl trivial rfl (fun h24_42 => ?_) (fun g24_46 => ?_)
      ·
        refine l_on rfl (gT h24_42) ?_
        refine l_mv rfl ?_
        refine l_on rfl (gT h24_42) ?_
        refine l_call (by kernel_rfl) rfl rfl (fun w' hw => ?_)
        refine (copyNil_s w').mono ?_
        rintro _ w1 ⟨rfl, hO⟩
        refine (?_ : CL _ _ _ _ _ _ (Own w [] [Res.row lb1_ 66 [.int .u64 (i2_ : Nat), .int .u64 (t3_ : Nat), lv4_], Res.vec 38 5 lv4_ es5_.length (es5_.flatMap EntD.cells), Res.star (es5_.map EntD.dres), Res.row wb6_ 48 [.int .u64 (j7_ : Nat), .int .u64 (u8_ : Nat), rv9_], Res.vec 38 5 rv9_ ms10_.length (ms10_.flatMap EntD.cells), Res.vec 38 5 r23_ rs.length (rs.flatMap EntD.cells), Res.star (rs.map EntD.dres)])) w1 (hw.frame0 hO)
        refine l_on rfl (gT h24_42) ?_
        refine l_nilp (by kernel_rfl) rfl rfl rfl ?_
        exact l_nil (fun w' hw => ⟨(by repeat (first | exact Out.refl _ _ | refine Out.upd rfl ?_ | refine Out.msk rfl ?_)), (bool_dec _), hw⟩)
      refine l_as rfl ?_
      refine l_end ?_
      exact c_ret (ret1 (v := .bool (decide (((((((((1 = 1) ∧ (1 = 1)) ∧ (1 = 1)) ∧ (1 = 1)) ∧ (((0 : Nat) : Int) = ((0 : Nat) : Int))) ∧ (((0 : Nat) : Int) = ((0 : Nat) : Int))) ∧ (true = true)) ∧ (true = true)) ∧ (true = true)))) rfl rfl (fun w' hw => ⟨(by simp), hw.drop⟩))
end Go.Proofs.Ytibbkbgodomfkaa
