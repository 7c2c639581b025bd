/-
  THE WALKS OF four laws of the log: Hints, Matches, Splits, Acts.
-/
import Derived.Test.YtibbkbgodomfkaaRlogL
set_option linter.unusedVariables false
set_option maxRecDepth 10000
namespace Go.Proofs.Ytibbkbgodomfkaa
open Go Go.Sc Go.Proofs

theorem hintN_spec {i t : Nat} {es : List EntD} (hg : (LG i t es).good) {k u : Nat} : ∀ {n x y : Nat}, n ≤ es.length → (LG i t es).hintN k u n = (x, y) →
    (LG i t es).fits x y ∧ (x ≠ i → x ≤ k ∧ y ≤ u) ∧ ∀ j, j < n → ¬ (x < (nth es j).index ∧ (nth es j).index ≤ k ∧ (nth es j).term ≤ u)
  | 0, x, y, _, h => by
    have h0 : (i, t) = (x, y) := h
    simp only [Prod.mk.injEq] at h0
    obtain ⟨rfl, rfl⟩ := h0
    refine ⟨?_, fun h => absurd rfl h, fun j hj => by omega⟩
    unfold LogA.fits; rw [LG.term_at rfl]; exact ⟨rfl, rfl⟩
  | n + 1, x, y, hn, h => by
    by_cases c : (nth es n).index ≤ k ∧ (nth es n).term ≤ u
    · rw [hint_hit (n := n + 1) (by omega) hn c] at h
      simp only [Nat.add_sub_cancel, Prod.mk.injEq] at h
      obtain ⟨rfl, rfl⟩ := h
      have hq := (LG.ent hg (k := n) (by omega)).1
      refine ⟨?_, fun _ => c, fun j hj hc => ?_⟩
      · unfold LogA.fits; rw [LG.term_in (j := n) (by omega) (by omega) (by omega)]; exact ⟨rfl, rfl⟩
      · have := (LG.ent hg (k := j) (by omega)).1; omega
    · rw [hint_miss (n := n + 1) (by omega) hn c] at h
      obtain ⟨h1, h2, h3⟩ := hintN_spec hg (by omega) h
      refine ⟨h1, h2, fun j hj hc => ?_⟩
      by_cases e : j = n
      · subst e; exact c hc.2
      · exact h3 j (by omega) hc
theorem hint_spec {i t : Nat} {es : List EntD} (hg : (LG i t es).good) {k u x y : Nat} (h : (LG i t es).hint k u = (x, y)) :
    (LG i t es).fits x y ∧ (x ≠ i → x ≤ k ∧ y ≤ u) ∧ ∀ j, j < es.length → ¬ (x < (nth es j).index ∧ (nth es j).index ≤ k ∧ (nth es j).term ≤ u) := by
  unfold LogA.hint at h; rw [List.length_map] at h
  exact hintN_spec hg (Nat.le_refl _) h
theorem LG.nth_eq {i t j u : Nat} {es ms : List EntD} (he : LG j u ms = LG i t es) {q : Nat} (hq : q < ms.length) : (nth ms q).toEntA = (nth es q).toEntA := by
  have h := (LG.map_eq he).2.2.1
  have hl := (LG.map_eq he).2.2.2
  rw [← nthA hq, ← nthA (by omega), h]

theorem fits_lt {i t x y : Nat} {es : List EntD} (hg : (LG i t es).good) (h : (LG i t es).fits x y) : x < 18446744073709551616 ∧ y ≤ 4611686018427387904 := by
  have h1 := LogA.fits_end h
  have h2 := (LG.le hg).1
  rw [LG.last_eq] at h1
  exact ⟨by omega, by rw [← h1.2]; exact (hg.fol.take _).term_le hg.t⟩
theorem rlogHints_s (index term : Nat) (av : Value) (acts : List ActD) (k u : Nat) (w : World) (hl : (acts.map fun a => a.list.length).sum ≤ 1048576) (hn : LenOk acts.length) (ha : ∀ a ∈ acts, a.wf) (hav : Rd w [] (Res.sl av acts.length (acts.flatMap ActD.cells))) (all_hav : ∀ p ∈ acts, ActD.rd p w []) : Rets Try.prog 5 #[.int .u64 (index : Nat), .int .u64 (term : Nat), av, .int .u64 (k : Nat), .int .u64 (u : Nat)] w fun u_ w' => u_ = .bool true ∧ Own w [] [] w' := by
  refine fn_enter (args := [.int .u64 (index : Nat), .int .u64 (term : Nat), av, .int .u64 (k : Nat), .int .u64 (u : Nat)]) Try.func5 rfl Try.ntmps5 rfl (Own.start w) ?_
  refine c_reg ?_
  refine l_as rfl ?_
  refine l_end ?_
  refine c_reg ?_
  refine l_mv rfl ?_
  refine l_mv rfl ?_
  refine l_mv rfl ?_
  refine l_call (by kernel_rfl) rfl rfl (fun w' hw => ?_)
  refine (grown_s index term av acts w' (by first | assumption | omega | (simp <;> omega) | (constructor <;> (first | omega | (simp only [LenOk]; omega) | (simp <;> omega)))) (by first | assumption | omega | (simp <;> omega) | (constructor <;> (first | omega | (simp only [LenOk]; omega) | (simp <;> omega)))) (by first | assumption | omega | (simp <;> omega) | (constructor <;> (first | omega | (simp only [LenOk]; omega) | (simp <;> omega)))) (hw.rd0 hav) (fun p hp => ActD.rd.at0 (all_hav p hp) hw)).mono ?_
  rintro _ w1 ⟨lb1_, i2_, t3_, lv4_, es5_, wb6_, j7_, u8_, rv9_, ms10_, rfl, hf1_3, hf1_3_1, hf1_3_2, hf1_3_3, hf1_3_4, hO⟩
  have hg := hf1_3_4
  have hb := (LG.le hg).1
  have hq := LG.map_eq hf1_3_1
  have hln := hf1_3_3
  have hall := FromActs.rd hf1_3_2 all_hav
  refine (?_ : CL _ _ _ _ _ _ (Own w [] [Res.row lb1_ 66 [.int .u64 (i2_ : Nat), .int .u64 (t3_ : Nat), lv4_], Res.vec 38 5 lv4_ es5_.length (es5_.flatMap EntD.cells), Res.star (es5_.map EntD.dres), Res.row wb6_ 48 [.int .u64 (j7_ : Nat), .int .u64 (u8_ : Nat), rv9_], Res.vec 38 5 rv9_ ms10_.length (ms10_.flatMap EntD.cells)])) w1 (hw.frame0 hO)
  refine l_mv rfl ?_
  refine l_ext (vs := [.pointer (some ⟨lb1_, 0, none⟩), .pointer (some ⟨wb6_, 0, none⟩)]) rfl rfl rfl ?_
  refine l_ext (vs := [.pointer (some ⟨lb1_, 0, none⟩), .pointer (some ⟨wb6_, 0, none⟩)]) rfl rfl rfl ?_
  refine l_as rfl ?_
  refine l_as rfl ?_
  refine l_end ?_
  refine c_seq ?_
  refine c_reg ?_
  refine l_call (by kernel_rfl) rfl rfl (fun w' hw => ?_)
  refine (answers_s w').mono ?_
  rintro _ w1 ⟨rfl, hO⟩
  refine (?_ : CL _ _ _ _ _ _ (Own w [] [Res.row lb1_ 66 [.int .u64 (i2_ : Nat), .int .u64 (t3_ : Nat), lv4_], Res.vec 38 5 lv4_ es5_.length (es5_.flatMap EntD.cells), Res.star (es5_.map EntD.dres), Res.row wb6_ 48 [.int .u64 (j7_ : Nat), .int .u64 (u8_ : Nat), rv9_], Res.vec 38 5 rv9_ ms10_.length (ms10_.flatMap EntD.cells)])) w1 (hw.frame0 hO)
  refine l_not (b := true) rfl rfl ?_
  refine l_mv rfl ?_
  refine l_on rfl rfl ?_
  refine l_mv rfl ?_
  refine l_on rfl rfl ?_
  refine l_nilp (by kernel_rfl) rfl rfl rfl ?_
  refine l_pickF rfl rfl ?_
  refine l_end ?_
  refine c_no rfl ?_
  refine c_skipC ?_
  refine c_reg ?_
  refine l_mv rfl ?_
  refine l_mv rfl ?_
  refine l_mv rfl ?_
  refine l_call (by kernel_rfl) rfl rfl (fun w' hw => ?_)
  refine (hint_s lb1_ i2_ t3_ lv4_ es5_ k u w' (by first | assumption | omega | (simp <;> omega) | (constructor <;> (first | omega | (simp only [LenOk]; omega) | (simp <;> omega)))) (hw.rdRes0 0 rfl) (hw.rdVec0 1 rfl) (EntD.rd.star0 2 rfl hw)).mono ?_
  rintro _ w1 ⟨x11_, y12_, rfl, hf4_3, hO⟩
  have hs := hint_spec hg hf4_3
  have hxl := fits_lt hg hs.1
  refine (?_ : CL _ _ _ _ _ _ (Own w [] [Res.row lb1_ 66 [.int .u64 (i2_ : Nat), .int .u64 (t3_ : Nat), lv4_], Res.vec 38 5 lv4_ es5_.length (es5_.flatMap EntD.cells), Res.star (es5_.map EntD.dres), Res.row wb6_ 48 [.int .u64 (j7_ : Nat), .int .u64 (u8_ : Nat), rv9_], Res.vec 38 5 rv9_ ms10_.length (ms10_.flatMap EntD.cells)])) w1 (hw.frame0 hO)
  refine l_mv rfl ?_
  refine l_ext (vs := [.int .u64 (x11_ : Nat), .int .u64 (y12_ : Nat)]) rfl rfl rfl ?_
  refine l_ext (vs := [.int .u64 (x11_ : Nat), .int .u64 (y12_ : Nat)]) rfl rfl rfl ?_
  refine l_as rfl ?_
  refine l_as rfl ?_
  refine l_end ?_
  refine c_seq ?_
  refine c_reg ?_
  refine l_mv rfl ?_
  refine l_mv rfl ?_
  refine l_mv rfl ?_
  refine l_call (by kernel_rfl) rfl rfl (fun w' hw => ?_)
  refine (fits_s' lb1_ i2_ t3_ lv4_ es5_ x11_ y12_ w' (by first | assumption | omega | (simp <;> omega) | (constructor <;> (first | omega | (simp only [LenOk]; omega) | (simp <;> omega)))) (by first | assumption | omega | (simp <;> omega) | (constructor <;> (first | omega | (simp only [LenOk]; omega) | (simp <;> omega)))) hxl.1 (hw.rdRes0 0 rfl) (hw.rdVec0 1 rfl) (EntD.rd.star0 2 rfl hw)).mono ?_
  rintro _ w1 ⟨rfl, hO⟩
  refine (?_ : CL _ _ _ _ _ _ (Own w [] [Res.row lb1_ 66 [.int .u64 (i2_ : Nat), .int .u64 (t3_ : Nat), lv4_], Res.vec 38 5 lv4_ es5_.length (es5_.flatMap EntD.cells), Res.star (es5_.map EntD.dres), Res.row wb6_ 48 [.int .u64 (j7_ : Nat), .int .u64 (u8_ : Nat), rv9_], Res.vec 38 5 rv9_ ms10_.length (ms10_.flatMap EntD.cells)])) w1 (hw.frame0 hO)
  refine l_notp (q := (LG i2_ t3_ es5_).fits x11_ y12_) rfl rfl ?_
  refine l_mv rfl ?_
  refine l_bor (q := ¬ ((LG i2_ t3_ es5_).fits x11_ y12_)) 16 5 [58, 57, 56, 55, 54, 53, 52, 51, 50, 49, 48, 47, 46, 45, 44, 43] ((((x11_ : Nat) : Int) ≠ ((j7_ : Nat) : Int)) ∧ ((((k : Nat) : Int) < ((x11_ : Nat) : Int)) ∨ (((u : Nat) : Int) < ((y12_ : Nat) : Int)))) rfl rfl rfl rfl rfl rfl trivial rfl (fun h5_5 => ?_) (fun g5_22 => ?_)
  ·
    refine l_on rfl (gF h5_5) ?_
    refine l_mv rfl ?_
    refine l_on rfl (gF h5_5) ?_
    refine l_mv rfl ?_
    refine l_on rfl (gF h5_5) ?_
    refine l_nck rfl rfl ?_
    refine l_on rfl (gF h5_5) ?_
    refine l_fld (o := 0) rfl (by kernel_rfl) rfl ?_
    refine l_on rfl (gF h5_5) ?_
    refine l_ldo 3 (v := .int .u64 (j7_ : Nat)) rfl rfl rfl (by kernel_rfl) rfl ?_
    refine l_on rfl (gF h5_5) ?_
    refine l_ne rfl rfl rfl ?_
    refine l_on rfl (gF h5_5) ?_
    refine l_mv rfl ?_
    refine l_band (q := ((x11_ : Nat) : Int) ≠ ((j7_ : Nat) : Int)) 8 12 [57, 56, 55, 54, 53, 52, 51, 50] ((((k : Nat) : Int) < ((x11_ : Nat) : Int)) ∨ (((u : Nat) : Int) < ((y12_ : Nat) : Int))) rfl rfl rfl rfl rfl rfl ⟨_, rfl, rfl, gF h5_5⟩ rfl (fun h5_12 => ?_) (fun g5_21 => ?_)
    ·
      refine l_on rfl (gT h5_12) ?_
      refine l_mv rfl ?_
      refine l_on rfl (gT h5_12) ?_
      refine l_mv rfl ?_
      refine l_on rfl (gT h5_12) ?_
      refine l_gtr rfl rfl rfl ?_
      refine l_on rfl (gT h5_12) ?_
      refine l_mv rfl ?_
      refine l_bor (q := ((k : Nat) : Int) < ((x11_ : Nat) : Int)) 3 16 [56, 55, 54] (((u : Nat) : Int) < ((y12_ : Nat) : Int)) rfl rfl rfl rfl rfl rfl ⟨_, rfl, rfl, gT h5_12⟩ rfl (fun h5_16 => ?_) (fun g5_20 => ?_)
      ·
        refine l_on rfl (gF h5_16) ?_
        refine l_mv rfl ?_
        refine l_on rfl (gF h5_16) ?_
        refine l_mv rfl ?_
        refine l_on rfl (gF h5_16) ?_
        refine l_gtr rfl rfl rfl ?_
        exact l_nil (fun w' hw => ⟨(by repeat (first | exact Out.refl _ _ | refine Out.upd rfl ?_ | refine Out.msk rfl ?_)), rfl, hw⟩)
      exact l_nil (fun w' hw => ⟨(by repeat (first | exact Out.refl _ _ | refine Out.upd rfl ?_ | refine Out.msk rfl ?_)), rfl, hw⟩)
    exact l_nil (fun w' hw => ⟨(by repeat (first | exact Out.refl _ _ | refine Out.upd rfl ?_ | refine Out.msk rfl ?_)), rfl, hw⟩)
  refine l_end ?_
  refine c_dec rfl (fun c2 => ?_) (fun c2 => ?_)
  ·
    exact absurd c2 (fun h => h.elim (fun q => q hs.1) (fun q => by have := hs.2.1 (by omega); omega))
  ·
    refine c_skipC ?_
    refine c_seq ?_
    refine c_reg ?_
    refine l_as rfl ?_
    refine l_end ?_
    refine c_block ?_
    refine c_loop1 (fun (n : Nat) => [(3, .int .u64 (k : Nat)), (4, .int .u64 (u : Nat)), (12, .pointer (some ⟨wb6_, 0, none⟩)), (13, .int .u64 (x11_ : Nat)), (15, .int .i64 (n : Nat))]) (fun (n : Nat) => n ≤ ms10_.length) (fun (n : Nat) => [Res.row lb1_ 66 [.int .u64 (i2_ : Nat), .int .u64 (t3_ : Nat), lv4_], Res.vec 38 5 lv4_ es5_.length (es5_.flatMap EntD.cells), Res.star (es5_.map EntD.dres), Res.row wb6_ 48 [.int .u64 (j7_ : Nat), .int .u64 (u8_ : Nat), rv9_], Res.vec 38 5 rv9_ ms10_.length (ms10_.flatMap EntD.cells)]) (fun (n : Nat) => ms10_.length - n) (fun w' hw => ⟨0, ⟨rfl, rfl, rfl, rfl, rfl, trivial⟩, Nat.zero_le _, hw⟩) (fun n g hΦ => ?_)
    refine c_seq ?_
    refine c_reg ?_
    refine l_mv rfl ?_
    refine l_mv rfl ?_
    refine l_nck rfl rfl ?_
    refine l_fld (o := 2) rfl (by kernel_rfl) rfl ?_
    refine l_ldo 3 (v := rv9_) rfl rfl rfl (by kernel_rfl) rfl ?_
    refine l_lenS (len := ms10_.length) (cs := (ms10_.flatMap EntD.cells)) (by kernel_rfl) rfl (fun w' hw' => Vec.sl (Own.holds hw' 4 _ rfl)) rfl ?_
    refine l_lss rfl rfl rfl ?_
    refine l_end ?_
    refine c_dec rfl (fun c3 => ?_) (fun c3 => ?_)
    ·
      have hne := LG.nth_eq hf1_3_1 (q := n) (by omega)
      have e1 : (nth ms10_ n).index = (nth es5_ n).index := congrArg EntA.index hne
      have e2 : (nth ms10_ n).term = (nth es5_ n).term := congrArg EntA.term hne
      refine c_skipC ?_
      refine c_seq ?_
      refine c_block ?_
      refine c_reg ?_
      refine l_mv rfl ?_
      refine l_nck rfl rfl ?_
      refine l_fld (o := 2) rfl (by kernel_rfl) rfl ?_
      refine l_ldo 3 (v := rv9_) rfl rfl rfl (by kernel_rfl) rfl ?_
      refine l_mv rfl ?_
      refine l_idxS (j := n) (sz := 5) (len := ms10_.length) (cs := (ms10_.flatMap EntD.cells)) rfl rfl (by kernel_rfl) (fun w' hw' => Vec.sl (Own.holds hw' 4 _ rfl)) rfl (by omega) rfl ?_
      refine l_ldSN (n * 5 + 0) (cs := (ms10_.flatMap EntD.cells)) (EntD.cells (nth ms10_ n)) rfl (by omega) (fun w' hw' => Vec.sl (Own.holds hw' 4 _ rfl)) (flat_atN (sz := 5) (fun _ => rfl) (nth_some (by omega)) (o := 0) (us := (EntD.cells (nth ms10_ n))) (fun k u h => by rw [Nat.zero_add]; exact h)) (by kernel_rfl) rfl ?_
      refine l_new (v := .agg #[.int .u64 (0 : Nat), .int .u64 (0 : Nat), .int .i64 0, .int .i64 0, .slice none 0 0]) (by kernel_rfl) rfl (fun b16 => ?_)
      refine l_stN (cs := [.int .u64 (0 : Nat), .int .u64 (0 : Nat), .int .i64 0, .int .i64 0, .slice none 0 0]) (vs := [.int .u64 ((nth ms10_ n).index : Nat), .int .u64 ((nth ms10_ n).term : Nat), .int .i64 ((nth ms10_ n).kind), .int .i64 ((nth ms10_ n).delta), (nth ms10_ n).dv]) 5 rfl rfl rfl (by kernel_rfl) (allc_cons rfl (allc_cons rfl (allc_cons rfl (allc_cons rfl (allc_cons (Sl.cell1 (Rd.φ ((hall _ (nth_mem (by omega))).dv))) allc_nil))))) (Nat.le_of_ble_eq_true rfl) ?_
      refine l_end ?_
      refine c_reg ?_
      refine l_fld (o := 0) rfl (by kernel_rfl) rfl ?_
      refine l_ldo 5 (v := .int .u64 ((nth ms10_ n).index : Nat)) rfl rfl rfl (by kernel_rfl) rfl ?_
      refine l_mv rfl ?_
      refine l_gtr rfl rfl rfl ?_
      refine l_mv rfl ?_
      refine l_band (q := ((x11_ : Nat) : Int) < (((nth ms10_ n).index : Nat) : Int)) 4 4 [84, 83, 82, 81] ((((nth ms10_ n).index : Nat) : Int) ≤ ((k : Nat) : Int)) rfl rfl rfl rfl rfl rfl trivial rfl (fun h11_4 => ?_) (fun g11_9 => ?_)
      ·
        refine l_on rfl (gT h11_4) ?_
        refine l_fld (o := 0) rfl (by kernel_rfl) rfl ?_
        refine l_on rfl (gT h11_4) ?_
        refine l_ldo 5 (v := .int .u64 ((nth ms10_ n).index : Nat)) rfl rfl rfl (by kernel_rfl) rfl ?_
        refine l_on rfl (gT h11_4) ?_
        refine l_mv rfl ?_
        refine l_on rfl (gT h11_4) ?_
        refine l_leq rfl rfl rfl ?_
        exact l_nil (fun w' hw => ⟨(by repeat (first | exact Out.refl _ _ | refine Out.upd rfl ?_ | refine Out.msk rfl ?_)), rfl, hw⟩)
      refine l_mv rfl ?_
      refine l_band (q := (((x11_ : Nat) : Int) < (((nth ms10_ n).index : Nat) : Int)) ∧ ((((nth ms10_ n).index : Nat) : Int) ≤ ((k : Nat) : Int))) 4 10 [90, 89, 88, 87] ((((nth ms10_ n).term : Nat) : Int) ≤ ((u : Nat) : Int)) rfl rfl rfl rfl rfl rfl trivial rfl (fun h11_10 => ?_) (fun g11_15 => ?_)
      ·
        refine l_on rfl (gT h11_10) ?_
        refine l_fld (o := 1) rfl (by kernel_rfl) rfl ?_
        refine l_on rfl (gT h11_10) ?_
        refine l_ldo 5 (v := .int .u64 ((nth ms10_ n).term : Nat)) rfl rfl rfl (by kernel_rfl) rfl ?_
        refine l_on rfl (gT h11_10) ?_
        refine l_mv rfl ?_
        refine l_on rfl (gT h11_10) ?_
        refine l_leq rfl rfl rfl ?_
        exact l_nil (fun w' hw => ⟨(by repeat (first | exact Out.refl _ _ | refine Out.upd rfl ?_ | refine Out.msk rfl ?_)), rfl, hw⟩)
      refine l_end ?_
      refine c_dec rfl (fun c4 => ?_) (fun c4 => ?_)
      ·
        exact absurd (⟨by omega, by omega, by omega⟩ : _ ∧ _ ∧ _) (hs.2.2 n (by omega))
      ·
        refine c_skipC ?_
        refine c_last ?_
        refine l_mv rfl ?_
        refine l_add rfl rfl (wi64 (by omega)) rfl ?_
        refine l_as rfl ?_
        exact l_nil (fun w' hw => ⟨n + 1, ⟨rfl, rfl, rfl, rfl, rfl, trivial⟩, (by omega), hw.sel [0, 1, 2, 3, 4] rfl (by decide), (by omega)⟩)
    ·
      refine c_exitC rfl ?_
      refine c_reg ?_
      refine l_as rfl ?_
      refine l_end ?_
      exact c_ret (ret1 (v := .bool true) rfl rfl (fun w' hw => ⟨rfl, hw.drop⟩))
theorem put0_all {A : LogA} {p q : Nat} {m : List EntA} (hm : folA p q m) (hA : A.fits p q) : (A.put m).put m = A.put m ∧ (A.put m).put0 m = 0 := LogA.put_same (put_all hm hA)
theorem fits_termE {A B : LogA} {k x y x' : Nat} {e e' : Int} (h1 : A.termE k = (x, e)) (h2 : B.termE k = (x', e')) (hA : A.fits k y) (hB : B.fits k y) : x = x' := by
  have a := hA.2; have b := hB.2
  rw [h1] at a; rw [h2] at b
  simp only at a b; omega
theorem ans_ok {x : LogA} {p q a b : Nat} {e : Int} {m : List EntA} (h : x.ans p q m = (a, b, e)) : (e = 0 ↔ folA p q m ∧ x.fits p q) ∧ (e = 0 → a = p + m.length ∧ b = x.put0 m) ∧ (x.fits p q → e ≠ 0 → e = 2) := by
  unfold LogA.ans at h
  by_cases h1 : folA p q m
  · rw [if_pos h1] at h
    by_cases h2 : x.fits p q
    · rw [if_pos h2] at h; cases h; exact ⟨⟨fun _ => ⟨h1, h2⟩, fun _ => rfl⟩, fun _ => ⟨rfl, rfl⟩, fun _ h => absurd rfl h⟩
    · rw [if_neg h2] at h; cases h; exact ⟨⟨fun h => absurd h (by decide), fun h => absurd h.2 h2⟩, fun h => absurd h (by decide), fun h => absurd h h2⟩
  · rw [if_neg h1] at h; cases h; exact ⟨⟨fun h => absurd h (by decide), fun h => absurd h.1 h1⟩, fun h => absurd h (by decide), fun _ _ => rfl⟩
theorem append_put {A : LogA} {p q : Nat} {m : List EntA} (hm : folA p q m) (hA : A.fits p q) : A.append p q m = A.put m := if_pos ⟨hm, hA⟩
theorem append_no {A : LogA} {p q : Nat} {m : List EntA} (hm : ¬ (folA p q m ∧ A.fits p q)) : A.append p q m = A := if_neg hm
theorem append_fits {A : LogA} {p q : Nat} {m : List EntA} (hA : A.fits p q) : (A.append p q m).fits p q := by
  by_cases hm : folA p q m
  · rw [append_put hm hA]
    have := put_fits hm hA (k := 0) (Nat.zero_le _)
    simpa [endT] using this
  · rw [append_no fun h => hm h.1]; exact hA
theorem app_info {i t p q : Nat} {es es' : List EntD} {m : List EntA} (h : LG i t es' = (LG i t es).append p q m) (hg : (LG i t es).good) : (LG i t es').good ∧ es'.length ≤ es.length + m.length := by
  refine ⟨by rw [h]; exact LogA.append_good hg, ?_⟩
  have h1 := LogA.append_len (LG i t es) p q m
  have h2 := congrArg (fun x : LogA => x.l.length) h
  simp only [List.length_map] at h1 h2; omega
theorem LG.congr {i t : Nat} {es es' : List EntD} (h : es'.map EntD.toEntA = es.map EntD.toEntA) : LG i t es' = LG i t es := by
  show (⟨i, t, _⟩ : LogA) = ⟨i, t, _⟩; rw [h]
theorem match_all {A B A' B' A'' : LogA} {p q a b a2 b2 a3 b3 : Nat} {m : List EntA} {e1 e2 e3 : Int} (hA : A.fits p q) (hB : B.fits p q) (h1 : A' = A.append p q m) (h2 : B' = B.append p q m) (h3 : A'' = A'.append p q m)
    (r1 : A.ans p q m = (a, b, e1)) (r2 : B.ans p q m = (a2, b2, e2)) (r3 : A'.ans p q m = (a3, b3, e3)) :
    (e1 = e2 ∧ e1 = e3) ∧ (e1 = 0 → a = p + m.length ∧ a2 = a ∧ a3 = a ∧ b3 = 0 ∧ ∀ j, j ≤ m.length → ∃ y, A''.fits (p + j) y ∧ B'.fits (p + j) y) := by
  have hA' : A'.fits p q := by rw [h1]; exact append_fits hA
  have k1 := ans_ok r1
  have k2 := ans_ok r2
  have k3 := ans_ok r3
  by_cases hm : folA p q m
  · have z1 := k1.1.2 ⟨hm, hA⟩
    have z2 := k2.1.2 ⟨hm, hB⟩
    have z3 := k3.1.2 ⟨hm, hA'⟩
    refine ⟨⟨by omega, by omega⟩, fun _ => ⟨(k1.2.1 z1).1, by rw [(k1.2.1 z1).1, (k2.2.1 z2).1], by rw [(k1.2.1 z1).1, (k3.2.1 z3).1], ?_, fun j hj => ?_⟩⟩
    · rw [(k3.2.1 z3).2, h1, append_put hm hA]; exact (put0_all hm hA).2
    · rw [h3, append_put hm hA', h1, append_put hm hA, (put0_all hm hA).1, h2, append_put hm hB]
      exact ⟨_, put_fits hm hA hj, put_fits hm hB hj⟩
  · have n1 : e1 ≠ 0 := fun h => hm (k1.1.1 h).1
    have n2 : e2 ≠ 0 := fun h => hm (k2.1.1 h).1
    have n3 : e3 ≠ 0 := fun h => hm (k3.1.1 h).1
    have z1 := k1.2.2 hA n1
    have z2 := k2.2.2 hB n2
    have z3 := k3.2.2 hA' n3
    exact ⟨⟨by omega, by omega⟩, fun h => absurd h n1⟩
theorem split_all {A A' B1 B2 : LogA} {p q k a b a2 b2 a3 b3 : Nat} {m : List EntA} {e1 e2 e3 : Int} (h0 : e1 = 0) (hk : 0 < k) (hk2 : k ≤ m.length) (r1 : A.ans p q m = (a, b, e1)) (h1 : A' = A.append p q m) (h2 : B1 = A.append p q (m.take k)) (r2 : A.ans p q (m.take k) = (a2, b2, e2))
    (h3 : B2 = B1.append (nth m (k - 1)).index (nth m (k - 1)).term (m.drop k)) (r3 : B1.ans (nth m (k - 1)).index (nth m (k - 1)).term (m.drop k) = (a3, b3, e3)) :
    e2 = 0 ∧ e3 = 0 ∧ a3 = a ∧ a = p + m.length ∧ ∀ j, j ≤ m.length → ∃ y, A'.fits (p + j) y ∧ B2.fits (p + j) y := by
  have k1 := ans_ok r1
  obtain ⟨hm, hA⟩ := k1.1.1 h0
  have hmt := hm.take k
  have hl : (m.take k).length = k := by simp; omega
  have hkt : endT q (m.take k) = (nth m (k - 1)).term := by rw [endT_eq (by omega), hl, nth_take (by omega)]
  have hki : (nth m (k - 1)).index = p + k := by have := hm.idx (k - 1) (by omega); omega
  have hmd : folA (nth m (k - 1)).index (nth m (k - 1)).term (m.drop k) := by
    have h := hm
    rw [← List.take_append_drop k m] at h
    have h := (folA_append.1 h).2
    rw [hkt] at h
    have e : endI p (m.take k) = (nth m (k - 1)).index := by unfold endI; omega
    rwa [e] at h
  have hB1 : B1 = A.put (m.take k) := by rw [h2, append_put hmt hA]
  have hBf : B1.fits (nth m (k - 1)).index (nth m (k - 1)).term := by
    have h := put_fits hmt hA (k := k) (by omega)
    rw [List.take_take, Nat.min_self, hkt, ← hki, ← hB1] at h; exact h
  have k2 := ans_ok r2
  have k3 := ans_ok r3
  have z2 := k2.1.2 ⟨hmt, hA⟩
  have z3 := k3.1.2 ⟨hmd, hBf⟩
  refine ⟨z2, z3, ?_, (k1.2.1 h0).1, fun j hj => ?_⟩
  · rw [(k3.2.1 z3).1, (k1.2.1 h0).1, hki]; simp; omega
  · refine ⟨endT q (m.take j), by rw [h1, append_put hm hA]; exact put_fits hm hA hj, ?_⟩
    rw [h3, append_put hmd hBf]
    by_cases c : j ≤ k
    · have h := put_fits hmt hA (k := j) (by omega)
      rw [List.take_take, Nat.min_eq_left c, ← hB1] at h
      have h4 := LogA.fits_end h
      have h5 := put_len hmd hBf
      refine LogA.fits_of ⟨by rw [h5.2.1]; exact h4.1.1, ?_⟩ ?_
      · have := h5.1; omega
      · rw [h5.2.1, h5.2.2, put_take hmd hBf h4.1.1 (by omega)]; exact h4.2
    · have h := put_fits hmd hBf (k := j - k) (by simp; omega)
      rw [show (nth m (k - 1)).index + (j - k) = p + j by omega] at h
      have hj2 : endT (nth m (k - 1)).term ((m.drop k).take (j - k)) = endT q (m.take j) := by
        have ha : ((m.drop k).take (j - k)).length = j - k := by simp; omega
        have hb : (m.take j).length = j := by simp; omega
        rw [endT_eq (by omega), endT_eq (l := m.take j) (by omega), ha, hb, nth_take (by omega), nth_take (by omega), nth_drop]
        congr 2; omega
      rw [hj2] at h; exact h
end Go.Proofs.Ytibbkbgodomfkaa
