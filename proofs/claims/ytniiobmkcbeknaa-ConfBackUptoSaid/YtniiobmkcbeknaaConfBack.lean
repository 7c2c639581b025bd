/-
  ConfBack is true of every input that is not greater than the statement's bound: the program returns, it returns true, and what came in reads as it did. Condition: the bulk that the statement names.
-/
import Derived.Test.YtniiobmkcbeknaaConfW
import Derived.Test.YtniiobmkcbeknaaConfRd
set_option linter.unusedVariables false
set_option maxRecDepth 10000
namespace Go.Proofs.Ytniiobmkcbeknaa
open Go Go.Sc Go.Proofs Go.RowKit Go.ChangeShapes Go.WideShapes

theorem del_none {n : Int} {l : List Int} (q : n ∉ l) : delL l n = l := List.filter_eq_self.2 fun x hx => by simp; exact fun e => q (e ▸ hx)
theorem del_cons (a n : Int) (l : List Int) : delL (a :: l) n = if a = n then delL l n else a :: delL l n := by
  unfold delL
  rw [List.filter_cons]
  by_cases h : a = n <;> simp [h]
theorem del_with {l : List Int} {n : Int} (h : n ∉ l) : delL (withR l n) n = l := by
  induction l with
  | nil => simp [withR, delL]
  | cons a l ih =>
    have hna : ¬ a = n := fun q => h (by rw [q]; exact List.mem_cons_self ..)
    have hnl : n ∉ l := fun q => h (List.mem_cons_of_mem _ q)
    unfold withR
    split
    · rw [del_cons, if_pos rfl, del_none h]
    · rw [del_cons, if_neg hna, ih hnl]
theorem del_length {l : List Int} {n : Int} (hs : l.Pairwise (· < ·)) : l.length ≤ (delL l n).length + 1 := by
  induction l with
  | nil => simp
  | cons a l ih =>
    have := ih (List.pairwise_cons.1 hs).2
    rw [del_cons]
    by_cases h : a = n
    · rw [if_pos h, del_none (fun q => by have := (List.pairwise_cons.1 hs).1 n q; omega)]; simp
    · rw [if_neg h]; simp only [List.length_cons]; omega
theorem delL_le (l : List Int) (n : Int) : (delL l n).length ≤ l.length := List.length_filter_le _ _
theorem chg_len {k : Int} {c : ConfD} {id e : Int} {vs ls : List Int} (h : chg k c.a id = (⟨vs, ls⟩, e)) : vs.length ≤ c.vs.length + 1 ∧ ls.length ≤ c.ls.length + 1 := by
  have h1 := delL_le c.vs id
  have h2 := delL_le c.ls id
  have h3 := withR_length c.vs id
  have h4 := withR_length c.ls id
  have hz : ∀ {q : ConfA × Int}, q = (⟨vs, ls⟩, e) → (q.1.vs.length ≤ c.vs.length + 1 ∧ q.1.ls.length ≤ c.ls.length + 1) → vs.length ≤ c.vs.length + 1 ∧ ls.length ≤ c.ls.length + 1 := by rintro _ rfl q; exact q
  refine hz h ?_
  unfold chg
  repeat' split
  all_goals simp only [ConfD.a, List.length_nil]; omega
theorem chg_ok {k : Int} {c : ConfD} {id : Int} {r : ConfA} (h : chg k c.a id = (r, 0)) : c.ok := by
  refine Decidable.byContradiction fun q => ?_
  rw [chg_bad (c := c.a) q] at h
  cases h
theorem few16 {c : ConfD} (h : c.ok) : c.vs.length ≤ 16 ∧ c.ls.length ≤ 16 := ⟨(Rises.few' h.1.1.1).1, (Rises.few' h.1.1.2).1⟩
theorem with_cons (a n : Int) (l : List Int) : withR (a :: l) n = if n < a then n :: a :: l else a :: withR l n := rfl
theorem with_all {n : Int} : ∀ {l : List Int}, (∀ x ∈ l, n < x) → withR l n = n :: l
  | [], _ => rfl
  | a :: l, h => by rw [with_cons, if_pos (h a (List.mem_cons_self ..))]
theorem with_del {n : Int} : ∀ {l : List Int}, n ∈ l → l.Pairwise (· < ·) → withR (delL l n) n = l
  | [], h, _ => by cases h
  | a :: l, h, hs => by
    rw [del_cons]
    have hs' := List.pairwise_cons.1 hs
    by_cases ha : a = n
    · subst ha
      rw [if_pos rfl, del_none (fun q => by have := hs'.1 a q; omega), with_all (fun x hx => hs'.1 x hx)]
    · have hn : n ∈ l := by rcases List.mem_cons.1 h with q | q; exact absurd q.symm ha; exact q
      rw [if_neg ha, with_cons, if_neg (by have := hs'.1 n hn; omega), with_del hn hs'.2]
/-- Who learns and leaves is gone. -/
theorem learn_leave {c : ConfD} {id f : Int} {av al bv bl : List Int} (ha : chg 1 c.a id = (⟨av, al⟩, 0)) (hb : chg 3 ⟨av, al⟩ id = (⟨bv, bl⟩, f)) : (((f = 0 ∧ bv = c.vs ∧ bl = c.ls) ∧ (ConfA.ok ⟨av, al⟩ ∧ (id ∈ av ∨ id ∈ al))) ∧ ¬ (ConfA.ok ⟨av, al⟩ ∧ id ∈ av)) := by
  unfold chg at ha
  split at ha; · cases ha
  rename_i hok
  have hok : c.ok := Decidable.not_not.1 hok
  split at ha; · cases ha
  rename_i hid
  have hid : 1 ≤ id ∧ id ≤ 16 := Decidable.not_not.1 hid
  rw [if_pos rfl] at ha
  split at ha; · cases ha
  rename_i hn
  have hn1 : id ∉ c.vs := fun q => hn (.inl q)
  have hn2 : id ∉ c.ls := fun q => hn (.inr q)
  cases ha
  have hok' : ConfA.ok ⟨c.vs, withR c.ls id⟩ := ⟨⟨⟨hok.1.1.1, rises_with hok.1.1.2 hn2 hid⟩, hok.1.2⟩, fun v hv q => by rcases withR_mem.1 q with h | h; exact hok.2 v hv h; exact hn1 (h ▸ hv)⟩
  have hm : id ∈ withR c.ls id := withR_mem.2 (.inr rfl)
  unfold chg at hb
  rw [if_neg (fun q => q hok'), if_neg (fun q => q hid), if_neg (by decide), if_neg (by decide), if_neg (fun q => q (.inr hm)), if_neg (fun q => hn1 q.1)] at hb
  cases hb
  exact ⟨⟨⟨rfl, del_none hn1, del_with hn2⟩, hok', .inr hm⟩, fun q => hn1 q.2⟩
/-- Who leaves, learns and votes, votes again. -/
theorem leave_back {c : ConfD} {id h i : Int} {xv xl yv yl zv zl : List Int} (hx : chg 3 c.a id = (⟨xv, xl⟩, 0)) (hm : id ∈ c.vs) (hy : chg 1 ⟨xv, xl⟩ id = (⟨yv, yl⟩, h)) (hz : chg 2 ⟨yv, yl⟩ id = (⟨zv, zl⟩, i)) : (h = 0 ∧ i = 0) ∧ zv = c.vs ∧ zl = c.ls := by
  unfold chg at hx
  split at hx; · cases hx
  rename_i hok
  have hok : c.ok := Decidable.not_not.1 hok
  split at hx; · cases hx
  rename_i hid
  have hid : 1 ≤ id ∧ id ≤ 16 := Decidable.not_not.1 hid
  rw [if_neg (by decide), if_neg (by decide), if_neg (fun q => q (.inl hm))] at hx
  split at hx; · cases hx
  rename_i hone
  have hnl : id ∉ c.ls := hok.2 id hm
  have hlt := hok.1.1.1.lt
  have hlen : 0 < (delL c.vs id).length := by
    have h1 := del_length (n := id) hlt
    have h2 : c.vs.length ≠ 1 := fun q => hone ⟨hm, q⟩
    have h3 : 0 < c.vs.length := hok.1.2
    omega
  have hcl : c.a.ls = c.ls := rfl
  have hcv : c.a.vs = c.vs := rfl
  rw [hcl, hcv, del_none hnl] at hx
  cases hx
  have hn1 : id ∉ delL c.vs id := fun q => (del_mem.1 q).2 rfl
  have hokx : ConfA.ok ⟨delL c.vs id, c.ls⟩ := ⟨⟨⟨rises_del hok.1.1.1, hok.1.1.2⟩, hlen⟩, fun v hv => hok.2 v (del_mem.1 hv).1⟩
  unfold chg at hy
  rw [if_neg (fun q => q hokx), if_neg (fun q => q hid), if_pos rfl, if_neg (fun q => q.elim hn1 hnl)] at hy
  cases hy
  have hoky : ConfA.ok ⟨delL c.vs id, withR c.ls id⟩ := ⟨⟨⟨rises_del hok.1.1.1, rises_with hok.1.1.2 hnl hid⟩, hlen⟩, fun v hv q => by rcases withR_mem.1 q with h | h; exact hok.2 v (del_mem.1 hv).1 h; exact (del_mem.1 hv).2 h⟩
  unfold chg at hz
  rw [if_neg (fun q => q hoky), if_neg (fun q => q hid), if_neg (by decide), if_pos rfl, if_pos (withR_mem.2 (.inr rfl))] at hz
  cases hz
  exact ⟨⟨rfl, rfl⟩, with_del hm hlt, del_with hnl⟩
theorem confBack_s (c : ConfD) (id : Int) (w : World) (hf : c.few) (rd_c : ConfD.rd c w []) : Rets Try.prog 7 #[.agg (ConfD.cells c).toArray, .int .i64 id] w fun u_ w' => u_ = .bool true ∧ Own w [] [] w' := by
  have hv := hf.vs
  have hl := hf.ls
  refine fn_enter (args := [.agg (ConfD.cells c).toArray, .int .i64 id]) Try.func7 rfl Try.ntmps7 rfl (Own.start w) ?_
  refine c_reg ?_
  refine l_box rfl rfl (fun b2 => ?_)
  refine l_as rfl ?_
  refine l_end ?_
  refine c_reg ?_
  refine l_ldr (cs := (ConfD.cells c)) 0 rfl rfl (by kernel_rfl) rfl ?_
  refine l_call (by kernel_rfl) rfl rfl (fun w' hw => ?_)
  refine (ownConf_s c w' (by first | assumption | omega | (simp <;> omega) | (constructor <;> (first | omega | (simp only [LenOk]; omega) | (simp <;> omega)))) (rd_c.at0 hw)).mono ?_
  rintro _ w1 ⟨a1_, b2_, rfl, hO⟩
  refine (?_ : CL _ _ _ _ _ _ (Own w [] [Res.row b2 24 (ConfD.cells c), Res.vec 3 1 a1_ c.vs.length (c.vs.flatMap I1), Res.vec 3 1 b2_ c.ls.length (c.ls.flatMap I1)])) w1 (hw.frame0 hO)
  refine l_new (v := .agg #[.slice none 0 0, .slice none 0 0]) (by kernel_rfl) rfl (fun b5 => ?_)
  refine l_haveO (fun w' hw => Own.cell1Vec (i := 1) rfl hw) (fun hc1_ => ?_)
  refine l_haveO (fun w' hw => Own.cell1Vec (i := 2) rfl hw) (fun hc2_ => ?_)
  refine l_stN (cs := [.slice none 0 0, .slice none 0 0]) (vs := [a1_, b2_]) 3 rfl rfl rfl (by kernel_rfl) (allc_cons hc1_ (allc_cons hc2_ allc_nil)) (Nat.le_of_ble_eq_true rfl) ?_
  refine l_end ?_
  refine c_reg ?_
  refine l_ldr (cs := [a1_, b2_]) 3 rfl rfl (by kernel_rfl) rfl ?_
  refine l_mv rfl ?_
  refine l_call (by kernel_rfl) rfl rfl (fun w' hw => ?_)
  refine (learn_s ({ c with vv := a1_, lv := b2_ } : ConfD) id w' (by first | assumption | omega | (simp <;> omega) | (constructor <;> (first | omega | (simp only [LenOk]; omega) | (simp <;> omega)))) ⟨(hw.rdVec0 1 rfl), (hw.rdVec0 2 rfl)⟩).mono ?_
  rintro _ w1 ⟨a3_, vs4_, b5_, ls6_, e7_, rfl, hf2_2, hO⟩
  have hn1 := chg_len hf2_2
  refine (?_ : CL _ _ _ _ _ _ (Own w [] [Res.row b2 24 (ConfD.cells c), Res.vec 3 1 a1_ c.vs.length (c.vs.flatMap I1), Res.vec 3 1 b2_ c.ls.length (c.ls.flatMap I1), Res.row b5 24 [a1_, b2_], Res.vec 3 1 a3_ vs4_.length (vs4_.flatMap I1), Res.vec 3 1 b5_ ls6_.length (ls6_.flatMap I1)])) w1 (hw.frame0 hO)
  refine l_mv rfl ?_
  refine l_ext (vs := [.agg #[a3_, b5_], .int .i64 e7_]) rfl rfl rfl ?_
  refine l_ext (vs := [.agg #[a3_, b5_], .int .i64 e7_]) rfl rfl rfl ?_
  refine l_new (v := .agg #[.slice none 0 0, .slice none 0 0]) (by kernel_rfl) rfl (fun b6 => ?_)
  refine l_haveO (fun w' hw => Own.cell1Vec (i := 4) rfl hw) (fun hc3_ => ?_)
  refine l_haveO (fun w' hw => Own.cell1Vec (i := 5) rfl hw) (fun hc4_ => ?_)
  refine l_stN (cs := [.slice none 0 0, .slice none 0 0]) (vs := [a3_, b5_]) 6 rfl rfl rfl (by kernel_rfl) (allc_cons hc3_ (allc_cons hc4_ allc_nil)) (Nat.le_of_ble_eq_true rfl) ?_
  refine l_as rfl ?_
  refine l_end ?_
  refine c_seq ?_
  refine c_reg ?_
  refine l_call (by kernel_rfl) rfl rfl (fun w' hw => ?_)
  refine (answers_s w').mono ?_
  rintro _ w1 ⟨rfl, hO⟩
  refine (?_ : CL _ _ _ _ _ _ (Own w [] [Res.row b2 24 (ConfD.cells c), Res.vec 3 1 a1_ c.vs.length (c.vs.flatMap I1), Res.vec 3 1 b2_ c.ls.length (c.ls.flatMap I1), Res.row b5 24 [a1_, b2_], Res.vec 3 1 a3_ vs4_.length (vs4_.flatMap I1), Res.vec 3 1 b5_ ls6_.length (ls6_.flatMap I1), Res.row b6 24 [a3_, b5_]])) w1 (hw.frame0 hO)
  refine l_not (b := true) rfl rfl ?_
  refine l_mv rfl ?_
  refine l_on rfl rfl ?_
  refine l_ldr (cs := [a1_, b2_]) 3 rfl rfl (by kernel_rfl) rfl ?_
  refine l_on rfl rfl ?_
  refine l_ldr (cs := (ConfD.cells c)) 0 rfl rfl (by kernel_rfl) rfl ?_
  refine l_on rfl rfl ?_
  refine l_call (by kernel_rfl) rfl rfl (fun w' hw => ?_)
  refine (sameConf_spec ({ c with vv := a1_, lv := b2_ } : ConfD) c w' (by first | assumption | omega | (simp <;> omega) | (constructor <;> (first | omega | (simp only [LenOk]; omega) | (simp <;> omega)))) (by first | assumption | omega | (simp <;> omega) | (constructor <;> (first | omega | (simp only [LenOk]; omega) | (simp <;> omega)))) (by first | assumption | omega | (simp <;> omega) | (constructor <;> (first | omega | (simp only [LenOk]; omega) | (simp <;> omega)))) (by first | assumption | omega | (simp <;> omega) | (constructor <;> (first | omega | (simp only [LenOk]; omega) | (simp <;> omega)))) ⟨(hw.rdVec0 1 rfl), (hw.rdVec0 2 rfl)⟩ (rd_c.at0 hw)).mono ?_
  rintro _ w1 ⟨rfl, hO⟩
  refine (?_ : CL _ _ _ _ _ _ (Own w [] [Res.row b2 24 (ConfD.cells c), Res.vec 3 1 a1_ c.vs.length (c.vs.flatMap I1), Res.vec 3 1 b2_ c.ls.length (c.ls.flatMap I1), Res.row b5 24 [a1_, b2_], Res.vec 3 1 a3_ vs4_.length (vs4_.flatMap I1), Res.vec 3 1 b5_ ls6_.length (ls6_.flatMap I1), Res.row b6 24 [a3_, b5_]])) w1 (hw.frame0 hO)
  refine l_on rfl rfl ?_
  refine l_notp (q := ({ c with vv := a1_, lv := b2_ } : ConfD).vs = c.vs ∧ ({ c with vv := a1_, lv := b2_ } : ConfD).ls = c.ls) rfl rfl ?_
  refine l_pickF rfl rfl ?_
  refine l_end ?_
  refine c_dec rfl (fun c1 => ?_) (fun c1 => ?_)
  ·
    exact absurd ⟨rfl, rfl⟩ c1
  ·
    refine c_skipC ?_
    refine c_seq ?_
    refine c_reg ?_
    refine l_mv rfl ?_
    refine l_eq rfl rfl rfl ?_
    refine l_end ?_
    refine c_dec rfl (fun c2 => ?_) (fun c2 => ?_)
    ·
      have hok := few_of (chg_ok (c2 ▸ hf2_2))
      have hq := few16 (chg_ok (c2 ▸ hf2_2))
      have hn1a : vs4_.length ≤ 17 := by omega
      have hn1b : ls6_.length ≤ 17 := by omega
      refine c_reg ?_
      refine l_ldr (cs := [a3_, b5_]) 6 rfl rfl (by kernel_rfl) rfl ?_
      refine l_mv rfl ?_
      refine l_call (by kernel_rfl) rfl rfl (fun w' hw => ?_)
      refine (leave_s ({ vv := a3_, vs := vs4_, lv := b5_, ls := ls6_ } : ConfD) id w' (by first | assumption | omega | (simp <;> omega) | (constructor <;> (first | omega | (simp only [LenOk]; omega) | (simp <;> omega)))) ⟨(hw.rdVec0 4 rfl), (hw.rdVec0 5 rfl)⟩).mono ?_
      rintro _ w1 ⟨a8_, vs9_, b10_, ls11_, e12_, rfl, hf6_2, hO⟩
      have hn2 : vs9_.length ≤ vs4_.length + 1 ∧ ls11_.length ≤ ls6_.length + 1 := chg_len hf6_2
      refine (?_ : CL _ _ _ _ _ _ (Own w [] [Res.row b2 24 (ConfD.cells c), Res.vec 3 1 a1_ c.vs.length (c.vs.flatMap I1), Res.vec 3 1 b2_ c.ls.length (c.ls.flatMap I1), Res.row b5 24 [a1_, b2_], Res.vec 3 1 a3_ vs4_.length (vs4_.flatMap I1), Res.vec 3 1 b5_ ls6_.length (ls6_.flatMap I1), Res.row b6 24 [a3_, b5_], Res.vec 3 1 a8_ vs9_.length (vs9_.flatMap I1), Res.vec 3 1 b10_ ls11_.length (ls11_.flatMap I1)])) w1 (hw.frame0 hO)
      refine l_mv rfl ?_
      refine l_ext (vs := [.agg #[a8_, b10_], .int .i64 e12_]) rfl rfl rfl ?_
      refine l_ext (vs := [.agg #[a8_, b10_], .int .i64 e12_]) rfl rfl rfl ?_
      refine l_new (v := .agg #[.slice none 0 0, .slice none 0 0]) (by kernel_rfl) rfl (fun b8 => ?_)
      refine l_haveO (fun w' hw => Own.cell1Vec (i := 7) rfl hw) (fun hc5_ => ?_)
      refine l_haveO (fun w' hw => Own.cell1Vec (i := 8) rfl hw) (fun hc6_ => ?_)
      refine l_stN (cs := [.slice none 0 0, .slice none 0 0]) (vs := [a8_, b10_]) 9 rfl rfl rfl (by kernel_rfl) (allc_cons hc5_ (allc_cons hc6_ allc_nil)) (Nat.le_of_ble_eq_true rfl) ?_
      refine l_as rfl ?_
      refine l_end ?_
      refine c_reg ?_
      refine l_mv rfl ?_
      refine l_eq rfl rfl rfl ?_
      refine l_mv rfl ?_
      refine l_band (q := e12_ = 0) 3 2 [46, 45, 44] (({ vv := a8_, vs := vs9_, lv := b10_, ls := ls11_ } : ConfD).vs = c.vs ∧ ({ vv := a8_, vs := vs9_, lv := b10_, ls := ls11_ } : ConfD).ls = c.ls) rfl rfl rfl rfl rfl rfl trivial rfl (fun h7_2 => ?_) (fun g7_6 => ?_)
      ·
        refine l_on rfl (gT h7_2) ?_
        refine l_ldr (cs := [a8_, b10_]) 9 rfl rfl (by kernel_rfl) rfl ?_
        refine l_on rfl (gT h7_2) ?_
        refine l_ldr (cs := (ConfD.cells c)) 0 rfl rfl (by kernel_rfl) rfl ?_
        refine l_on rfl (gT h7_2) ?_
        refine l_call (by kernel_rfl) rfl rfl (fun w' hw => ?_)
        refine (sameConf_spec ({ vv := a8_, vs := vs9_, lv := b10_, ls := ls11_ } : ConfD) c w' (by first | assumption | omega | (simp <;> omega) | (constructor <;> (first | omega | (simp only [LenOk]; omega) | (simp <;> omega)))) (by first | assumption | omega | (simp <;> omega) | (constructor <;> (first | omega | (simp only [LenOk]; omega) | (simp <;> omega)))) (by first | assumption | omega | (simp <;> omega) | (constructor <;> (first | omega | (simp only [LenOk]; omega) | (simp <;> omega)))) (by first | assumption | omega | (simp <;> omega) | (constructor <;> (first | omega | (simp only [LenOk]; omega) | (simp <;> omega)))) ⟨(hw.rdVec0 7 rfl), (hw.rdVec0 8 rfl)⟩ (rd_c.at0 hw)).mono ?_
        rintro _ w1 ⟨rfl, hO⟩
        refine (?_ : CL _ _ _ _ _ _ (Own w [] [Res.row b2 24 (ConfD.cells c), Res.vec 3 1 a1_ c.vs.length (c.vs.flatMap I1), Res.vec 3 1 b2_ c.ls.length (c.ls.flatMap I1), Res.row b5 24 [a1_, b2_], Res.vec 3 1 a3_ vs4_.length (vs4_.flatMap I1), Res.vec 3 1 b5_ ls6_.length (ls6_.flatMap I1), Res.row b6 24 [a3_, b5_], Res.vec 3 1 a8_ vs9_.length (vs9_.flatMap I1), Res.vec 3 1 b10_ ls11_.length (ls11_.flatMap I1), Res.row b8 24 [a8_, b10_]])) w1 (hw.frame0 hO)
        exact l_nil (fun w' hw => ⟨(by repeat (first | exact Out.refl _ _ | refine Out.upd rfl ?_ | refine Out.msk rfl ?_)), rfl, hw⟩)
      refine l_mv rfl ?_
      refine l_band (q := (e12_ = 0) ∧ (({ vv := a8_, vs := vs9_, lv := b10_, ls := ls11_ } : ConfD).vs = c.vs ∧ ({ vv := a8_, vs := vs9_, lv := b10_, ls := ls11_ } : ConfD).ls = c.ls)) 3 7 [51, 50, 49] (({ vv := a3_, vs := vs4_, lv := b5_, ls := ls6_ } : ConfD).ok ∧ (id ∈ ({ vv := a3_, vs := vs4_, lv := b5_, ls := ls6_ } : ConfD).vs ∨ id ∈ ({ vv := a3_, vs := vs4_, lv := b5_, ls := ls6_ } : ConfD).ls)) rfl rfl rfl rfl rfl rfl trivial rfl (fun h7_7 => ?_) (fun g7_11 => ?_)
      ·
        refine l_on rfl (gT h7_7) ?_
        refine l_ldr (cs := [a3_, b5_]) 6 rfl rfl (by kernel_rfl) rfl ?_
        refine l_on rfl (gT h7_7) ?_
        refine l_mv rfl ?_
        refine l_on rfl (gT h7_7) ?_
        refine l_call (by kernel_rfl) rfl rfl (fun w' hw => ?_)
        refine (rmember_s ({ vv := a3_, vs := vs4_, lv := b5_, ls := ls6_ } : ConfD) id w' (by first | assumption | omega | (simp <;> omega) | (constructor <;> (first | omega | (simp only [LenOk]; omega) | (simp <;> omega)))) ⟨(hw.rdVec0 4 rfl), (hw.rdVec0 5 rfl)⟩).mono ?_
        rintro _ w1 ⟨rfl, hO⟩
        refine (?_ : CL _ _ _ _ _ _ (Own w [] [Res.row b2 24 (ConfD.cells c), Res.vec 3 1 a1_ c.vs.length (c.vs.flatMap I1), Res.vec 3 1 b2_ c.ls.length (c.ls.flatMap I1), Res.row b5 24 [a1_, b2_], Res.vec 3 1 a3_ vs4_.length (vs4_.flatMap I1), Res.vec 3 1 b5_ ls6_.length (ls6_.flatMap I1), Res.row b6 24 [a3_, b5_], Res.vec 3 1 a8_ vs9_.length (vs9_.flatMap I1), Res.vec 3 1 b10_ ls11_.length (ls11_.flatMap I1), Res.row b8 24 [a8_, b10_]])) w1 (hw.frame0 hO)
        exact l_nil (fun w' hw => ⟨(by repeat (first | exact Out.refl _ _ | refine Out.upd rfl ?_ | refine Out.msk rfl ?_)), rfl, hw⟩)
      refine l_mv rfl ?_
      refine l_band (q := ((e12_ = 0) ∧ (({ vv := a8_, vs := vs9_, lv := b10_, ls := ls11_ } : ConfD).vs = c.vs ∧ ({ vv := a8_, vs := vs9_, lv := b10_, ls := ls11_ } : ConfD).ls = c.ls)) ∧ (({ vv := a3_, vs := vs4_, lv := b5_, ls := ls6_ } : ConfD).ok ∧ (id ∈ ({ vv := a3_, vs := vs4_, lv := b5_, ls := ls6_ } : ConfD).vs ∨ id ∈ ({ vv := a3_, vs := vs4_, lv := b5_, ls := ls6_ } : ConfD).ls))) 4 12 [57, 56, 55, 54] (¬ (({ vv := a3_, vs := vs4_, lv := b5_, ls := ls6_ } : ConfD).ok ∧ id ∈ ({ vv := a3_, vs := vs4_, lv := b5_, ls := ls6_ } : ConfD).vs)) rfl rfl rfl rfl rfl rfl trivial rfl (fun h7_12 => ?_) (fun g7_17 => ?_)
      ·
        refine l_on rfl (gT h7_12) ?_
        refine l_ldr (cs := [a3_, b5_]) 6 rfl rfl (by kernel_rfl) rfl ?_
        refine l_on rfl (gT h7_12) ?_
        refine l_mv rfl ?_
        refine l_on rfl (gT h7_12) ?_
        refine l_call (by kernel_rfl) rfl rfl (fun w' hw => ?_)
        refine (rvoter_s ({ vv := a3_, vs := vs4_, lv := b5_, ls := ls6_ } : ConfD) id w' (by first | assumption | omega | (simp <;> omega) | (constructor <;> (first | omega | (simp only [LenOk]; omega) | (simp <;> omega)))) ⟨(hw.rdVec0 4 rfl), (hw.rdVec0 5 rfl)⟩).mono ?_
        rintro _ w1 ⟨rfl, hO⟩
        refine (?_ : CL _ _ _ _ _ _ (Own w [] [Res.row b2 24 (ConfD.cells c), Res.vec 3 1 a1_ c.vs.length (c.vs.flatMap I1), Res.vec 3 1 b2_ c.ls.length (c.ls.flatMap I1), Res.row b5 24 [a1_, b2_], Res.vec 3 1 a3_ vs4_.length (vs4_.flatMap I1), Res.vec 3 1 b5_ ls6_.length (ls6_.flatMap I1), Res.row b6 24 [a3_, b5_], Res.vec 3 1 a8_ vs9_.length (vs9_.flatMap I1), Res.vec 3 1 b10_ ls11_.length (ls11_.flatMap I1), Res.row b8 24 [a8_, b10_]])) w1 (hw.frame0 hO)
        refine l_on rfl (gT h7_12) ?_
        refine l_notp (q := ({ vv := a3_, vs := vs4_, lv := b5_, ls := ls6_ } : ConfD).ok ∧ id ∈ ({ vv := a3_, vs := vs4_, lv := b5_, ls := ls6_ } : ConfD).vs) rfl rfl ?_
        exact l_nil (fun w' hw => ⟨(by repeat (first | exact Out.refl _ _ | refine Out.upd rfl ?_ | refine Out.msk rfl ?_)), rfl, hw⟩)
      refine l_as rfl ?_
      refine l_end ?_
      exact c_ret (ret1 (v := .bool (decide ((((e12_ = 0) ∧ (({ vv := a8_, vs := vs9_, lv := b10_, ls := ls11_ } : ConfD).vs = c.vs ∧ ({ vv := a8_, vs := vs9_, lv := b10_, ls := ls11_ } : ConfD).ls = c.ls)) ∧ (({ vv := a3_, vs := vs4_, lv := b5_, ls := ls6_ } : ConfD).ok ∧ (id ∈ ({ vv := a3_, vs := vs4_, lv := b5_, ls := ls6_ } : ConfD).vs ∨ id ∈ ({ vv := a3_, vs := vs4_, lv := b5_, ls := ls6_ } : ConfD).ls))) ∧ (¬ (({ vv := a3_, vs := vs4_, lv := b5_, ls := ls6_ } : ConfD).ok ∧ id ∈ ({ vv := a3_, vs := vs4_, lv := b5_, ls := ls6_ } : ConfD).vs))))) rfl rfl (fun w' hw => ⟨(congrArg Value.bool (decide_eq_true (learn_leave (c2 ▸ hf2_2) hf6_2))), hw.drop⟩))
    ·
      refine c_skipC ?_
      refine c_reg ?_
      refine l_ldr (cs := [a1_, b2_]) 3 rfl rfl (by kernel_rfl) rfl ?_
      refine l_mv rfl ?_
      refine l_call (by kernel_rfl) rfl rfl (fun w' hw => ?_)
      refine (leave_s ({ c with vv := a1_, lv := b2_ } : ConfD) id w' (by first | assumption | omega | (simp <;> omega) | (constructor <;> (first | omega | (simp only [LenOk]; omega) | (simp <;> omega)))) ⟨(hw.rdVec0 1 rfl), (hw.rdVec0 2 rfl)⟩).mono ?_
      rintro _ w1 ⟨a13_, vs14_, b15_, ls16_, e17_, rfl, hf8_2, hO⟩
      have hn3 : vs14_.length ≤ c.vs.length + 1 ∧ ls16_.length ≤ c.ls.length + 1 := chg_len hf8_2
      refine (?_ : CL _ _ _ _ _ _ (Own w [] [Res.row b2 24 (ConfD.cells c), Res.vec 3 1 a1_ c.vs.length (c.vs.flatMap I1), Res.vec 3 1 b2_ c.ls.length (c.ls.flatMap I1), Res.row b5 24 [a1_, b2_], Res.vec 3 1 a3_ vs4_.length (vs4_.flatMap I1), Res.vec 3 1 b5_ ls6_.length (ls6_.flatMap I1), Res.row b6 24 [a3_, b5_], Res.vec 3 1 a13_ vs14_.length (vs14_.flatMap I1), Res.vec 3 1 b15_ ls16_.length (ls16_.flatMap I1)])) w1 (hw.frame0 hO)
      refine l_mv rfl ?_
      refine l_ext (vs := [.agg #[a13_, b15_], .int .i64 e17_]) rfl rfl rfl ?_
      refine l_ext (vs := [.agg #[a13_, b15_], .int .i64 e17_]) rfl rfl rfl ?_
      refine l_new (v := .agg #[.slice none 0 0, .slice none 0 0]) (by kernel_rfl) rfl (fun b10 => ?_)
      refine l_haveO (fun w' hw => Own.cell1Vec (i := 7) rfl hw) (fun hc7_ => ?_)
      refine l_haveO (fun w' hw => Own.cell1Vec (i := 8) rfl hw) (fun hc8_ => ?_)
      refine l_stN (cs := [.slice none 0 0, .slice none 0 0]) (vs := [a13_, b15_]) 9 rfl rfl rfl (by kernel_rfl) (allc_cons hc7_ (allc_cons hc8_ allc_nil)) (Nat.le_of_ble_eq_true rfl) ?_
      refine l_as rfl ?_
      refine l_end ?_
      refine c_seq ?_
      refine c_reg ?_
      refine l_mv rfl ?_
      refine l_ne rfl rfl rfl ?_
      refine l_mv rfl ?_
      refine l_bor (q := e17_ ≠ 0) 4 2 [71, 70, 69, 68] (¬ (c.ok ∧ id ∈ c.vs)) rfl rfl rfl rfl rfl rfl trivial rfl (fun h9_2 => ?_) (fun g9_7 => ?_)
      ·
        refine l_on rfl (gF h9_2) ?_
        refine l_ldr (cs := (ConfD.cells c)) 0 rfl rfl (by kernel_rfl) rfl ?_
        refine l_on rfl (gF h9_2) ?_
        refine l_mv rfl ?_
        refine l_on rfl (gF h9_2) ?_
        refine l_call (by kernel_rfl) rfl rfl (fun w' hw => ?_)
        refine (rvoter_s c id w' (by first | assumption | omega | (simp <;> omega) | (constructor <;> (first | omega | (simp only [LenOk]; omega) | (simp <;> omega)))) (rd_c.at0 hw)).mono ?_
        rintro _ w1 ⟨rfl, hO⟩
        refine (?_ : CL _ _ _ _ _ _ (Own w [] [Res.row b2 24 (ConfD.cells c), Res.vec 3 1 a1_ c.vs.length (c.vs.flatMap I1), Res.vec 3 1 b2_ c.ls.length (c.ls.flatMap I1), Res.row b5 24 [a1_, b2_], Res.vec 3 1 a3_ vs4_.length (vs4_.flatMap I1), Res.vec 3 1 b5_ ls6_.length (ls6_.flatMap I1), Res.row b6 24 [a3_, b5_], Res.vec 3 1 a13_ vs14_.length (vs14_.flatMap I1), Res.vec 3 1 b15_ ls16_.length (ls16_.flatMap I1), Res.row b10 24 [a13_, b15_]])) w1 (hw.frame0 hO)
        refine l_on rfl (gF h9_2) ?_
        refine l_notp (q := c.ok ∧ id ∈ c.vs) rfl rfl ?_
        exact l_nil (fun w' hw => ⟨(by repeat (first | exact Out.refl _ _ | refine Out.upd rfl ?_ | refine Out.msk rfl ?_)), rfl, hw⟩)
      refine l_end ?_
      refine c_dec rfl (fun c3 => ?_) (fun c3 => ?_)
      ·
        skip
        refine c_reg ?_
        refine l_ldr (cs := [a1_, b2_]) 3 rfl rfl (by kernel_rfl) rfl ?_
        refine l_ldr (cs := (ConfD.cells c)) 0 rfl rfl (by kernel_rfl) rfl ?_
        refine l_call (by kernel_rfl) rfl rfl (fun w' hw => ?_)
        refine (sameConf_spec ({ c with vv := a1_, lv := b2_ } : ConfD) c w' (by first | assumption | omega | (simp <;> omega) | (constructor <;> (first | omega | (simp only [LenOk]; omega) | (simp <;> omega)))) (by first | assumption | omega | (simp <;> omega) | (constructor <;> (first | omega | (simp only [LenOk]; omega) | (simp <;> omega)))) (by first | assumption | omega | (simp <;> omega) | (constructor <;> (first | omega | (simp only [LenOk]; omega) | (simp <;> omega)))) (by first | assumption | omega | (simp <;> omega) | (constructor <;> (first | omega | (simp only [LenOk]; omega) | (simp <;> omega)))) ⟨(hw.rdVec0 1 rfl), (hw.rdVec0 2 rfl)⟩ (rd_c.at0 hw)).mono ?_
        rintro _ w1 ⟨rfl, hO⟩
        refine (?_ : CL _ _ _ _ _ _ (Own w [] [Res.row b2 24 (ConfD.cells c), Res.vec 3 1 a1_ c.vs.length (c.vs.flatMap I1), Res.vec 3 1 b2_ c.ls.length (c.ls.flatMap I1), Res.row b5 24 [a1_, b2_], Res.vec 3 1 a3_ vs4_.length (vs4_.flatMap I1), Res.vec 3 1 b5_ ls6_.length (ls6_.flatMap I1), Res.row b6 24 [a3_, b5_], Res.vec 3 1 a13_ vs14_.length (vs14_.flatMap I1), Res.vec 3 1 b15_ ls16_.length (ls16_.flatMap I1), Res.row b10 24 [a13_, b15_]])) w1 (hw.frame0 hO)
        refine l_as rfl ?_
        refine l_end ?_
        exact c_ret (ret1 (v := .bool (decide (({ c with vv := a1_, lv := b2_ } : ConfD).vs = c.vs ∧ ({ c with vv := a1_, lv := b2_ } : ConfD).ls = c.ls))) rfl rfl (fun w' hw => ⟨(congrArg Value.bool (decide_eq_true ⟨rfl, rfl⟩)), hw.drop⟩))
      ·
        have h17 : e17_ = 0 := Decidable.byContradiction fun q => c3 (.inl q)
        have hm : id ∈ c.vs := (Decidable.byContradiction fun q => c3 (.inr q) : c.ok ∧ id ∈ c.vs).2
        have hq := few16 (chg_ok (h17 ▸ hf8_2))
        have hq1 : c.vs.length ≤ 16 ∧ c.ls.length ≤ 16 := hq
        refine c_skipC ?_
        refine c_reg ?_
        refine l_ldr (cs := [a13_, b15_]) 9 rfl rfl (by kernel_rfl) rfl ?_
        refine l_mv rfl ?_
        refine l_call (by kernel_rfl) rfl rfl (fun w' hw => ?_)
        refine (learn_s ({ vv := a13_, vs := vs14_, lv := b15_, ls := ls16_ } : ConfD) id w' (by first | assumption | omega | (simp <;> omega) | (constructor <;> (first | omega | (simp only [LenOk]; omega) | (simp <;> omega)))) ⟨(hw.rdVec0 7 rfl), (hw.rdVec0 8 rfl)⟩).mono ?_
        rintro _ w1 ⟨a18_, vs19_, b20_, ls21_, e22_, rfl, hf11_2, hO⟩
        have hn4 : vs19_.length ≤ vs14_.length + 1 ∧ ls21_.length ≤ ls16_.length + 1 := chg_len hf11_2
        refine (?_ : CL _ _ _ _ _ _ (Own w [] [Res.row b2 24 (ConfD.cells c), Res.vec 3 1 a1_ c.vs.length (c.vs.flatMap I1), Res.vec 3 1 b2_ c.ls.length (c.ls.flatMap I1), Res.row b5 24 [a1_, b2_], Res.vec 3 1 a3_ vs4_.length (vs4_.flatMap I1), Res.vec 3 1 b5_ ls6_.length (ls6_.flatMap I1), Res.row b6 24 [a3_, b5_], Res.vec 3 1 a13_ vs14_.length (vs14_.flatMap I1), Res.vec 3 1 b15_ ls16_.length (ls16_.flatMap I1), Res.row b10 24 [a13_, b15_], Res.vec 3 1 a18_ vs19_.length (vs19_.flatMap I1), Res.vec 3 1 b20_ ls21_.length (ls21_.flatMap I1)])) w1 (hw.frame0 hO)
        refine l_mv rfl ?_
        refine l_ext (vs := [.agg #[a18_, b20_], .int .i64 e22_]) rfl rfl rfl ?_
        refine l_ext (vs := [.agg #[a18_, b20_], .int .i64 e22_]) rfl rfl rfl ?_
        refine l_new (v := .agg #[.slice none 0 0, .slice none 0 0]) (by kernel_rfl) rfl (fun b12 => ?_)
        refine l_haveO (fun w' hw => Own.cell1Vec (i := 10) rfl hw) (fun hc9_ => ?_)
        refine l_haveO (fun w' hw => Own.cell1Vec (i := 11) rfl hw) (fun hc10_ => ?_)
        refine l_stN (cs := [.slice none 0 0, .slice none 0 0]) (vs := [a18_, b20_]) 12 rfl rfl rfl (by kernel_rfl) (allc_cons hc9_ (allc_cons hc10_ allc_nil)) (Nat.le_of_ble_eq_true rfl) ?_
        refine l_as rfl ?_
        refine l_end ?_
        refine c_reg ?_
        refine l_ldr (cs := [a18_, b20_]) 12 rfl rfl (by kernel_rfl) rfl ?_
        refine l_mv rfl ?_
        refine l_call (by kernel_rfl) rfl rfl (fun w' hw => ?_)
        refine (vote_s ({ vv := a18_, vs := vs19_, lv := b20_, ls := ls21_ } : ConfD) id w' (by first | assumption | omega | (simp <;> omega) | (constructor <;> (first | omega | (simp only [LenOk]; omega) | (simp <;> omega)))) ⟨(hw.rdVec0 10 rfl), (hw.rdVec0 11 rfl)⟩).mono ?_
        rintro _ w1 ⟨a23_, vs24_, b25_, ls26_, e27_, rfl, hf12_2, hO⟩
        have hn5 : vs24_.length ≤ vs19_.length + 1 ∧ ls26_.length ≤ ls21_.length + 1 := chg_len hf12_2
        refine (?_ : CL _ _ _ _ _ _ (Own w [] [Res.row b2 24 (ConfD.cells c), Res.vec 3 1 a1_ c.vs.length (c.vs.flatMap I1), Res.vec 3 1 b2_ c.ls.length (c.ls.flatMap I1), Res.row b5 24 [a1_, b2_], Res.vec 3 1 a3_ vs4_.length (vs4_.flatMap I1), Res.vec 3 1 b5_ ls6_.length (ls6_.flatMap I1), Res.row b6 24 [a3_, b5_], Res.vec 3 1 a13_ vs14_.length (vs14_.flatMap I1), Res.vec 3 1 b15_ ls16_.length (ls16_.flatMap I1), Res.row b10 24 [a13_, b15_], Res.vec 3 1 a18_ vs19_.length (vs19_.flatMap I1), Res.vec 3 1 b20_ ls21_.length (ls21_.flatMap I1), Res.row b12 24 [a18_, b20_], Res.vec 3 1 a23_ vs24_.length (vs24_.flatMap I1), Res.vec 3 1 b25_ ls26_.length (ls26_.flatMap I1)])) w1 (hw.frame0 hO)
        refine l_mv rfl ?_
        refine l_ext (vs := [.agg #[a23_, b25_], .int .i64 e27_]) rfl rfl rfl ?_
        refine l_ext (vs := [.agg #[a23_, b25_], .int .i64 e27_]) rfl rfl rfl ?_
        refine l_new (v := .agg #[.slice none 0 0, .slice none 0 0]) (by kernel_rfl) rfl (fun b14 => ?_)
        refine l_haveO (fun w' hw => Own.cell1Vec (i := 13) rfl hw) (fun hc11_ => ?_)
        refine l_haveO (fun w' hw => Own.cell1Vec (i := 14) rfl hw) (fun hc12_ => ?_)
        refine l_stN (cs := [.slice none 0 0, .slice none 0 0]) (vs := [a23_, b25_]) 15 rfl rfl rfl (by kernel_rfl) (allc_cons hc11_ (allc_cons hc12_ allc_nil)) (Nat.le_of_ble_eq_true rfl) ?_
        refine l_as rfl ?_
        refine l_end ?_
        refine c_seq ?_
        refine c_reg ?_
        refine l_as rfl ?_
        refine l_end ?_
        refine c_block ?_
        refine c_loop2 (fun (k : Nat) (xs : List Int) => [(2, .pointer (some ⟨b2, 0, none⟩)), (5, .pointer (some ⟨b5, 0, none⟩)), (10, .pointer (some ⟨b10, 0, none⟩)), (13, .int .i64 e22_), (14, .pointer (some ⟨b14, 0, none⟩)), (15, .int .i64 e27_), (16, .int .i64 (k : Nat))]) (fun (k : Nat) (xs : List Int) => k ≤ xs.length ∧ xs.length = vs14_.length) (fun (k : Nat) (xs : List Int) => [Res.row b2 24 (ConfD.cells c), Res.vec 3 1 a1_ c.vs.length (c.vs.flatMap I1), Res.vec 3 1 b2_ c.ls.length (c.ls.flatMap I1), Res.row b5 24 [a1_, b2_], Res.vec 3 1 a3_ vs4_.length (vs4_.flatMap I1), Res.vec 3 1 b5_ ls6_.length (ls6_.flatMap I1), Res.row b6 24 [a3_, b5_], Res.vec 3 1 a13_ xs.length (xs.flatMap I1), Res.vec 3 1 b15_ ls16_.length (ls16_.flatMap I1), Res.row b10 24 [a13_, b15_], Res.vec 3 1 a18_ vs19_.length (vs19_.flatMap I1), Res.vec 3 1 b20_ ls21_.length (ls21_.flatMap I1), Res.row b12 24 [a18_, b20_], Res.vec 3 1 a23_ vs24_.length (vs24_.flatMap I1), Res.vec 3 1 b25_ ls26_.length (ls26_.flatMap I1), Res.row b14 24 [a23_, b25_]]) (fun (k : Nat) (xs : List Int) => xs.length - k) (fun w' hw => ⟨0, vs14_, ⟨rfl, rfl, rfl, rfl, rfl, rfl, rfl, trivial⟩, ⟨Nat.zero_le _, rfl⟩, hw⟩) (fun k xs g hΦ => ?_)
        refine c_seq ?_
        refine c_reg ?_
        refine l_mv rfl ?_
        refine l_fld (o := 0) rfl (by kernel_rfl) rfl ?_
        refine l_ldo 9 (v := a13_) rfl rfl rfl (by kernel_rfl) rfl ?_
        refine l_lenS (len := xs.length) (cs := (xs.flatMap I1)) (by kernel_rfl) rfl (fun w' hw' => Vec.sl (Own.holds hw' 7 _ rfl)) rfl ?_
        refine l_lss rfl rfl rfl ?_
        refine l_end ?_
        refine c_dec rfl (fun c4 => ?_) (fun c4 => ?_)
        ·
          refine c_skipC ?_
          refine c_seq ?_
          refine c_block ?_
          refine c_last ?_
          refine l_fld (o := 0) rfl (by kernel_rfl) rfl ?_
          refine l_ldo 9 (v := a13_) rfl rfl rfl (by kernel_rfl) rfl ?_
          refine l_mv rfl ?_
          refine l_idxS (j := k) (sz := 1) (len := xs.length) (cs := (xs.flatMap I1)) rfl rfl (by kernel_rfl) (fun w' hw' => Vec.sl (Own.holds hw' 7 _ rfl)) rfl (by omega) rfl ?_
          refine l_stV 7 k (v := a13_) (off := offV a13_ + k * 1) (cs := (xs.flatMap I1)) rfl (by omega) rfl rfl (by kernel_rfl) rfl (by rw [flat_len (g := I1) (sz := 1) (fun _ => rfl)]; omega) ?_
          refine l_own [Res.row b2 24 (ConfD.cells c), Res.vec 3 1 a1_ c.vs.length (c.vs.flatMap I1), Res.vec 3 1 b2_ c.ls.length (c.ls.flatMap I1), Res.row b5 24 [a1_, b2_], Res.vec 3 1 a3_ vs4_.length (vs4_.flatMap I1), Res.vec 3 1 b5_ ls6_.length (ls6_.flatMap I1), Res.row b6 24 [a3_, b5_], Res.vec 3 1 a13_ (xs.set k 99).length ((xs.set k 99).flatMap I1), Res.vec 3 1 b15_ ls16_.length (ls16_.flatMap I1), Res.row b10 24 [a13_, b15_], Res.vec 3 1 a18_ vs19_.length (vs19_.flatMap I1), Res.vec 3 1 b20_ ls21_.length (ls21_.flatMap I1), Res.row b12 24 [a18_, b20_], Res.vec 3 1 a23_ vs24_.length (vs24_.flatMap I1), Res.vec 3 1 b25_ ls26_.length (ls26_.flatMap I1), Res.row b14 24 [a23_, b25_]] (fun w' hw => by rw [flat_set1 (fun _ => rfl), List.length_set]; exact hw) ?_
          refine l_end ?_
          refine c_last ?_
          refine l_mv rfl ?_
          refine l_add rfl rfl (wi64 (by omega)) rfl ?_
          refine l_as rfl ?_
          exact l_nil (fun w' hw => ⟨k + 1, xs.set k 99, ⟨rfl, rfl, rfl, rfl, rfl, rfl, rfl, trivial⟩, ⟨by rw [List.length_set]; omega, by rw [List.length_set]; exact hΦ.2⟩, hw, by rw [List.length_set]; omega⟩)
        ·
          refine c_exitC rfl ?_
          refine c_reg ?_
          refine l_mv rfl ?_
          refine l_eq rfl rfl rfl ?_
          refine l_mv rfl ?_
          refine l_band (q := e22_ = 0) 2 2 [103, 102] (e27_ = 0) rfl rfl rfl rfl rfl rfl trivial rfl (fun h17_2 => ?_) (fun g17_5 => ?_)
          ·
            refine l_on rfl (gT h17_2) ?_
            refine l_mv rfl ?_
            refine l_on rfl (gT h17_2) ?_
            refine l_eq rfl rfl rfl ?_
            exact l_nil (fun w' hw => ⟨(by repeat (first | exact Out.refl _ _ | refine Out.upd rfl ?_ | refine Out.msk rfl ?_)), rfl, hw⟩)
          refine l_mv rfl ?_
          refine l_band (q := (e22_ = 0) ∧ (e27_ = 0)) 3 6 [108, 107, 106] (({ vv := a23_, vs := vs24_, lv := b25_, ls := ls26_ } : ConfD).vs = c.vs ∧ ({ vv := a23_, vs := vs24_, lv := b25_, ls := ls26_ } : ConfD).ls = c.ls) rfl rfl rfl rfl rfl rfl trivial rfl (fun h17_6 => ?_) (fun g17_10 => ?_)
          ·
            refine l_on rfl (gT h17_6) ?_
            refine l_ldr (cs := [a23_, b25_]) 15 rfl rfl (by kernel_rfl) rfl ?_
            refine l_on rfl (gT h17_6) ?_
            refine l_ldr (cs := (ConfD.cells c)) 0 rfl rfl (by kernel_rfl) rfl ?_
            refine l_on rfl (gT h17_6) ?_
            refine l_call (by kernel_rfl) rfl rfl (fun w' hw => ?_)
            refine (sameConf_spec ({ vv := a23_, vs := vs24_, lv := b25_, ls := ls26_ } : ConfD) c w' (by first | assumption | omega | (simp <;> omega) | (constructor <;> (first | omega | (simp only [LenOk]; omega) | (simp <;> omega)))) (by first | assumption | omega | (simp <;> omega) | (constructor <;> (first | omega | (simp only [LenOk]; omega) | (simp <;> omega)))) (by first | assumption | omega | (simp <;> omega) | (constructor <;> (first | omega | (simp only [LenOk]; omega) | (simp <;> omega)))) (by first | assumption | omega | (simp <;> omega) | (constructor <;> (first | omega | (simp only [LenOk]; omega) | (simp <;> omega)))) ⟨(hw.rdVec0 13 rfl), (hw.rdVec0 14 rfl)⟩ (rd_c.at0 hw)).mono ?_
            rintro _ w1 ⟨rfl, hO⟩
            refine (?_ : CL _ _ _ _ _ _ (Own w [] [Res.row b2 24 (ConfD.cells c), Res.vec 3 1 a1_ c.vs.length (c.vs.flatMap I1), Res.vec 3 1 b2_ c.ls.length (c.ls.flatMap I1), Res.row b5 24 [a1_, b2_], Res.vec 3 1 a3_ vs4_.length (vs4_.flatMap I1), Res.vec 3 1 b5_ ls6_.length (ls6_.flatMap I1), Res.row b6 24 [a3_, b5_], Res.vec 3 1 a13_ xs.length (xs.flatMap I1), Res.vec 3 1 b15_ ls16_.length (ls16_.flatMap I1), Res.row b10 24 [a13_, b15_], Res.vec 3 1 a18_ vs19_.length (vs19_.flatMap I1), Res.vec 3 1 b20_ ls21_.length (ls21_.flatMap I1), Res.row b12 24 [a18_, b20_], Res.vec 3 1 a23_ vs24_.length (vs24_.flatMap I1), Res.vec 3 1 b25_ ls26_.length (ls26_.flatMap I1), Res.row b14 24 [a23_, b25_]])) w1 (hw.frame0 hO)
            exact l_nil (fun w' hw => ⟨(by repeat (first | exact Out.refl _ _ | refine Out.upd rfl ?_ | refine Out.msk rfl ?_)), rfl, hw⟩)
          refine l_mv rfl ?_
          refine l_band (q := ((e22_ = 0) ∧ (e27_ = 0)) ∧ (({ vv := a23_, vs := vs24_, lv := b25_, ls := ls26_ } : ConfD).vs = c.vs ∧ ({ vv := a23_, vs := vs24_, lv := b25_, ls := ls26_ } : ConfD).ls = c.ls)) 3 11 [113, 112, 111] (({ c with vv := a1_, lv := b2_ } : ConfD).vs = c.vs ∧ ({ c with vv := a1_, lv := b2_ } : ConfD).ls = c.ls) rfl rfl rfl rfl rfl rfl trivial rfl (fun h17_11 => ?_) (fun g17_15 => ?_)
          ·
            refine l_on rfl (gT h17_11) ?_
            refine l_ldr (cs := [a1_, b2_]) 3 rfl rfl (by kernel_rfl) rfl ?_
            refine l_on rfl (gT h17_11) ?_
            refine l_ldr (cs := (ConfD.cells c)) 0 rfl rfl (by kernel_rfl) rfl ?_
            refine l_on rfl (gT h17_11) ?_
            refine l_call (by kernel_rfl) rfl rfl (fun w' hw => ?_)
            refine (sameConf_spec ({ c with vv := a1_, lv := b2_ } : ConfD) c w' (by first | assumption | omega | (simp <;> omega) | (constructor <;> (first | omega | (simp only [LenOk]; omega) | (simp <;> omega)))) (by first | assumption | omega | (simp <;> omega) | (constructor <;> (first | omega | (simp only [LenOk]; omega) | (simp <;> omega)))) (by first | assumption | omega | (simp <;> omega) | (constructor <;> (first | omega | (simp only [LenOk]; omega) | (simp <;> omega)))) (by first | assumption | omega | (simp <;> omega) | (constructor <;> (first | omega | (simp only [LenOk]; omega) | (simp <;> omega)))) ⟨(hw.rdVec0 1 rfl), (hw.rdVec0 2 rfl)⟩ (rd_c.at0 hw)).mono ?_
            rintro _ w1 ⟨rfl, hO⟩
            refine (?_ : CL _ _ _ _ _ _ (Own w [] [Res.row b2 24 (ConfD.cells c), Res.vec 3 1 a1_ c.vs.length (c.vs.flatMap I1), Res.vec 3 1 b2_ c.ls.length (c.ls.flatMap I1), Res.row b5 24 [a1_, b2_], Res.vec 3 1 a3_ vs4_.length (vs4_.flatMap I1), Res.vec 3 1 b5_ ls6_.length (ls6_.flatMap I1), Res.row b6 24 [a3_, b5_], Res.vec 3 1 a13_ xs.length (xs.flatMap I1), Res.vec 3 1 b15_ ls16_.length (ls16_.flatMap I1), Res.row b10 24 [a13_, b15_], Res.vec 3 1 a18_ vs19_.length (vs19_.flatMap I1), Res.vec 3 1 b20_ ls21_.length (ls21_.flatMap I1), Res.row b12 24 [a18_, b20_], Res.vec 3 1 a23_ vs24_.length (vs24_.flatMap I1), Res.vec 3 1 b25_ ls26_.length (ls26_.flatMap I1), Res.row b14 24 [a23_, b25_]])) w1 (hw.frame0 hO)
            exact l_nil (fun w' hw => ⟨(by repeat (first | exact Out.refl _ _ | refine Out.upd rfl ?_ | refine Out.msk rfl ?_)), rfl, hw⟩)
          refine l_as rfl ?_
          refine l_end ?_
          exact c_ret (ret1 (v := .bool (decide ((((e22_ = 0) ∧ (e27_ = 0)) ∧ (({ vv := a23_, vs := vs24_, lv := b25_, ls := ls26_ } : ConfD).vs = c.vs ∧ ({ vv := a23_, vs := vs24_, lv := b25_, ls := ls26_ } : ConfD).ls = c.ls)) ∧ (({ c with vv := a1_, lv := b2_ } : ConfD).vs = c.vs ∧ ({ c with vv := a1_, lv := b2_ } : ConfD).ls = c.ls)))) rfl rfl (fun w' hw => ⟨(congrArg Value.bool (decide_eq_true ⟨leave_back (h17 ▸ hf8_2) hm hf11_2 hf12_2, rfl, rfl⟩)), hw.drop⟩))
namespace confBack
theorem own : ownKnob Try.prog.godebug = none := by kernel_rfl
theorem laidOut : laidOutB Try.prog = true := by kernel_rfl

theorem contract (H : Type) (enc : TypeId × Value → H) (W : World) (base : Nat) (args : Array Value) (ds gs : List (DataW H)) (before : List MemPlace)
    (hval : ∀ (j : Nat) t v, Try.f7.params[j]? = some t → args[j]? = some v → Value.okWide Try.prog W .any base t v)
    (hW : DataW.Whole enc Try.prog Try.f7.params.toList Rows.confBackSpec.vars false W args.toList ds gs before) (hk : Rows.uptoSmall H (ds ++ gs) = true) :
    Calls Try.prog 7 args W fun e W' => ∃ v, e = .returned v ∧ Rows.confBackSpec.post enc Try.prog Try.f7 false true false false W args v W' := by
  have hW' := hW
  obtain ⟨p, q, hA0, hV, rfl, hfz, hnd⟩ := hW
  have hA : DataW.TrodAll enc Try.prog W 0 (fun _ => true) true Try.f7.params.toList args.toList ds p := hA0
  rw [Try.params7] at hA hval
  obtain ⟨v0, vs0, d0, ds0, p0, q0, hargs, rfl, rfl, h0, r0⟩ := trodAll_cons hA
  obtain ⟨v1, vs1, d1, ds1, p1, q1, rfl, rfl, rfl, h1, r1⟩ := trodAll_cons r0
  obtain ⟨rfl, rfl, rfl⟩ := trodAll_nil r1
  obtain rfl : args = #[v0, v1] := by cases args; simp_all
  obtain ⟨rfl, rfl⟩ := trodVars_none hV
  have hB : Rows.uptoBulk d0 + Rows.uptoBulk d1 ≤ 1048576 := by
    have := of_decide_eq_true hk
    simp only [List.append_nil, Rows.uptoBulkAll] at this
    omega
  obtain ⟨u0, hf0⟩ := h0
  obtain ⟨a0, e0, w0, z0⟩ := (rdConf W) H enc _ _ _ hf0
  obtain ⟨u1, hf1⟩ := h1
  obtain ⟨a1, e1, w1, z1⟩ := (RdA.i64 (W := W) Try.underlying3) H enc _ _ _ hf1
  try dsimp only at z0
  try dsimp only at z1
  obtain rfl := arg_struct Try.underlying24 (hval 0 _ v0 rfl rfl) e0
  obtain rfl := arg_int Try.underlying3 (hval 1 _ v1 rfl rfl) e1
  refine Calls.mono (confBack_s a0 a1 W ⟨by omega, by omega⟩ w0) fun e W' he => ?_
  obtain ⟨v, rfl, rfl, hO⟩ := he
  exact ⟨_, rfl, law_post laidOut rfl (fun ds h => by
    rw [Try.params7] at h
    match ds, h with
    | [_, _], _ => rfl) rfl Try.underlying4 (by kernel_rfl) hW' (Own.below hO)⟩

set_option maxRecDepth 100000 in
theorem lifted (os : Os) (started : os.Started) (H : Type) (enc : TypeId × Value → H) (F : Stop.Interp) :
    ReturnsInHanded {} Try.checked os 7 .any ((Rows.OpenSpec.upto Rows.confBackSpec).pre6 enc Try.prog Try.f7 Rows.confBackUptoRow.domain false) (((Rows.OpenSpec.upto Rows.confBackSpec).at F).post enc Try.prog Try.f7 false true false false) := by
  refine returnsInHanded_of_cond (C := Try.checked) (s := Rows.OpenSpec.upto Rows.confBackSpec) (k := Rows.uptoSmall) rfl own started (by kernel_rfl) Try.func7
    (OpenSpec.witness (enc := enc) (C := Try.checked) (s := Rows.OpenSpec.upto Rows.confBackSpec) (k := Rows.uptoSmall) rfl false ⟨#[], #[.agg #[.slice none 0 0, .slice none 0 0], .int .i64 0], []⟩ 8 (by kernel_rfl) (by kernel_rfl) (by kernel_rfl)
      (x := ([.agg [.nil, .nil], .lit (.int .i64 0)], [], [])) (by kernel_rfl) rfl (by kernel_rfl)) ?_
  intro W base args ds gs before hval hW _ hk _
  exact contract H enc W base args ds gs before hval hW hk

/-- ConfBack: proved. -/
theorem proved : Rows.ConfBackUptoSaid :=
  OpenClaim.holds_of_cond 7 Try.f7 rfl rfl rfl rfl rfl rfl rfl ⟨rfl, rfl, rfl, rfl, rfl⟩ rfl rfl rfl rfl rfl (by kernel_rfl) Try.func7 (by kernel_rfl)
    (of_decide_eq_true (by kernel_rfl)) (by unfold Func.isWrapper; first | (rw [if_pos (by decide +kernel)]; kernel_rfl) | (rw [if_neg (by decide +kernel)]; exact ⟨rfl, rfl⟩))
    (fun os started H enc _ F => lifted os started H enc F)
end confBack
end Go.Proofs.Ytniiobmkcbeknaa
