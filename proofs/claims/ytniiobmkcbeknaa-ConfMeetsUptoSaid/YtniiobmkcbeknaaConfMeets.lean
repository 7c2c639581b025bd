/-
  ConfMeets is true of every input that is not greater than the statement's bound: the program returns, it returns true, and what came in reads as it did. Condition: the bulk that the statement names.
-/
import Derived.Test.YtniiobmkcbeknaaConfW
import Derived.Test.YtniiobmkcbeknaaConfRd
set_option linter.unusedVariables false
set_option maxRecDepth 10000
namespace Go.Proofs.Ytniiobmkcbeknaa
open Go Go.Sc Go.Proofs Go.RowKit Go.ChangeShapes Go.WideShapes

/-- Two lists taken out of one, of which more than all are marked: one is marked twice. -/
theorem two_of {p q a b : Int → Bool} : ∀ {l : List Int}, l.length < ((l.filter p).filter a).length + ((l.filter q).filter b).length → ∃ x ∈ l, p x = true ∧ q x = true ∧ a x = true ∧ b x = true
  | [], h => by simp at h
  | x :: l, h => by
    by_cases hx : p x = true ∧ q x = true ∧ a x = true ∧ b x = true
    · exact ⟨x, List.mem_cons_self .., hx⟩
    · have : l.length < ((l.filter p).filter a).length + ((l.filter q).filter b).length := by
        rw [List.filter_filter, List.filter_filter] at h ⊢
        simp only [List.filter_cons, List.length_cons] at h
        cases hp : p x <;> cases hq : q x <;> cases ha : a x <;> cases hb : b x <;> simp [hp, hq, ha, hb] at h hx <;> omega
      obtain ⟨y, hy, hy'⟩ := two_of this
      exact ⟨y, List.mem_cons_of_mem _ hy, hy'⟩
theorem del_none {n : Int} {l : List Int} (q : n ∉ l) : delL l n = l := List.filter_eq_self.2 fun x hx => by simp; exact fun e => q (e ▸ hx)
theorem del_cons (a n : Int) (l : List Int) : delL (a :: l) n = if a = n then delL l n else a :: delL l n := by
  unfold delL
  rw [List.filter_cons]
  by_cases h : a = n <;> simp [h]
theorem del_with {l : List Int} {n : Int} (h : n ∉ l) : delL (withR l n) n = l := by
  induction l with
  | nil => simp [withR, delL]
  | cons a l ih =>
    have hna : ¬ a = n := fun q => h (by rw [q]; exact List.mem_cons_self ..)
    have hnl : n ∉ l := fun q => h (List.mem_cons_of_mem _ q)
    unfold withR
    split
    · rw [del_cons, if_pos rfl, del_none h]
    · rw [del_cons, if_neg hna, ih hnl]
theorem del_length {l : List Int} {n : Int} (hs : l.Pairwise (· < ·)) : l.length ≤ (delL l n).length + 1 := by
  induction l with
  | nil => simp
  | cons a l ih =>
    have := ih (List.pairwise_cons.1 hs).2
    rw [del_cons]
    by_cases h : a = n
    · rw [if_pos h, del_none (fun q => by have := (List.pairwise_cons.1 hs).1 n q; omega)]; simp
    · rw [if_neg h]; simp only [List.length_cons]; omega
theorem filt_id (l : List Int) : l.filter (fun _ => true) = l := List.filter_eq_self.2 fun _ _ => rfl
/-- What votes after a change, beside what voted. -/
theorem chg_near {k : Int} {c : ConfD} {id : Int} {vs ls : List Int} (hok : c.ok) (h : chg k c.a id = (⟨vs, ls⟩, 0)) : ∃ (u : List Int) (p q : Int → Bool), c.vs = u.filter p ∧ vs = u.filter q ∧ u.length ≤ c.vs.length + 1 ∧ u.length ≤ vs.length + 1 ∧ (u.length ≤ c.vs.length ∨ u.length ≤ vs.length) := by
  have hlt := hok.1.1.1.lt
  unfold chg at h
  rw [if_neg (fun q => q hok)] at h
  split at h; · cases h
  split at h
  · split at h; · cases h
    cases h; exact ⟨c.vs, fun _ => true, fun _ => true, (filt_id _).symm, (filt_id _).symm, by omega, Nat.le_succ _, .inl (Nat.le_refl _)⟩
  split at h
  · split at h
    · rename_i hl
      cases h
      have hn : id ∉ c.vs := fun q => hok.2 id q hl
      have hw := withR_length c.vs id
      exact ⟨withR c.vs id, fun x => decide (x ≠ id), fun _ => true, (del_with hn).symm, (filt_id _).symm, (by omega), by show _ ≤ (withR c.vs id).length + 1; omega, .inr (Nat.le_refl _)⟩
    · cases h
  split at h; · cases h
  split at h; · cases h
  cases h
  exact ⟨c.vs, fun _ => true, fun x => decide (x ≠ id), (filt_id _).symm, rfl, by omega, del_length hlt, by omega⟩
theorem meet {vs ws a b : List Int} {u : List Int} {p q : Int → Bool} (hv : vs = u.filter p) (hw : ws = u.filter q) (h1 : u.length ≤ vs.length + 1) (h2 : u.length ≤ ws.length + 1) (h3 : u.length ≤ vs.length ∨ u.length ≤ ws.length) (ha : vs.length < 2 * cnt vs a) (hb : ws.length < 2 * cnt ws b) : ∃ x ∈ vs, x ∈ a ∧ x ∈ b := by
  unfold cnt at ha hb
  have : u.length < ((u.filter p).filter (fun x => decide (x ∈ a))).length + ((u.filter q).filter (fun x => decide (x ∈ b))).length := by rw [← hv, ← hw]; omega
  obtain ⟨x, hx, hp, hq, h4, h5⟩ := two_of this
  exact ⟨x, by rw [hv]; exact List.mem_filter.2 ⟨hx, hp⟩, by simpa using h4, by simpa using h5⟩
theorem take_ext {l : List Int} {k : Nat} {P : Int → Prop} (h : ∀ x ∈ l.take k, P x) (hk : k < l.length) (hn : P (nth l k)) : ∀ x ∈ l.take (k + 1), P x := by
  intro x hx
  rw [take_nth hk] at hx
  rcases List.mem_append.1 hx with q | q
  · exact h x q
  · rw [List.mem_singleton.1 q]; exact hn
theorem meet_all {vs ws a b : List Int} {u : List Int} {p q : Int → Bool} {k : Nat} (hv : vs = u.filter p) (hw : ws = u.filter q) (h1 : u.length ≤ vs.length + 1) (h2 : u.length ≤ ws.length + 1) (h3 : u.length ≤ vs.length ∨ u.length ≤ ws.length) (ha : vs.length < 2 * cnt vs a) (hb : ws.length < 2 * cnt ws b) (hk : a.length ≤ k) (hn : ∀ x ∈ a.take k, ¬ (x ∈ b ∧ x ∈ vs)) : False := by
  obtain ⟨x, hx, hxa, hxb⟩ := meet hv hw h1 h2 h3 ha hb
  exact hn x (by rw [List.take_of_length_le hk]; exact hxa) ⟨hxb, hx⟩
theorem delL_le (l : List Int) (n : Int) : (delL l n).length ≤ l.length := List.length_filter_le _ _
theorem chg_len {k : Int} {c : ConfD} {id e : Int} {vs ls : List Int} (h : chg k c.a id = (⟨vs, ls⟩, e)) : vs.length ≤ c.vs.length + 1 ∧ ls.length ≤ c.ls.length + 1 := by
  have h1 := delL_le c.vs id
  have h2 := delL_le c.ls id
  have h3 := withR_length c.vs id
  have h4 := withR_length c.ls id
  have hz : ∀ {q : ConfA × Int}, q = (⟨vs, ls⟩, e) → (q.1.vs.length ≤ c.vs.length + 1 ∧ q.1.ls.length ≤ c.ls.length + 1) → vs.length ≤ c.vs.length + 1 ∧ ls.length ≤ c.ls.length + 1 := by rintro _ rfl q; exact q
  refine hz h ?_
  unfold chg
  repeat' split
  all_goals simp only [ConfD.a, List.length_nil]; omega
theorem confMeets_s (c : ConfD) (kind : Nat) (id : Int) (v : Value) (a : List Int) (u : Value) (b : List Int) (w : World) (hf : c.few) (hk : kind < 256) (hla : LenOk a.length) (hlb : LenOk b.length) (ha : Rd w [] (Res.sl v a.length (a.flatMap I1))) (hb : Rd w [] (Res.sl u b.length (b.flatMap I1))) (rd_c : ConfD.rd c w []) : Rets Try.prog 6 #[.agg (ConfD.cells c).toArray, .int .u8 (kind : Nat), .int .i64 id, v, u] w fun u_ w' => u_ = .bool true ∧ Own w [] [] w' := by
  have hv := hf.vs
  have hl := hf.ls
  refine fn_enter (args := [.agg (ConfD.cells c).toArray, .int .u8 (kind : Nat), .int .i64 id, v, u]) Try.func6 rfl Try.ntmps6 rfl (Own.start w) ?_
  refine c_reg ?_
  refine l_box rfl rfl (fun b5 => ?_)
  refine l_as rfl ?_
  refine l_end ?_
  refine c_reg ?_
  refine l_mv rfl ?_
  refine l_rem (c := ((kind % 3 : Nat) : Int)) rfl rfl (by omega) rfl rfl ?_
  refine l_cvt (by kernel_rfl) rfl (wi64 (by omega)) rfl ?_ (by kernel_rfl)
  refine l_add rfl rfl (wi64 (by omega)) rfl ?_
  refine l_ldr (cs := (ConfD.cells c)) 0 rfl rfl (by kernel_rfl) rfl ?_
  refine l_mv rfl ?_
  refine l_call (by kernel_rfl) rfl rfl (fun w' hw => ?_)
  refine (change_s (((kind % 3) + 1 : Nat) : Int) c id w' (by first | assumption | omega | (simp <;> omega) | (constructor <;> (first | omega | (simp only [LenOk]; omega) | (simp <;> omega)))) (by first | assumption | omega | (simp <;> omega) | (constructor <;> (first | omega | (simp only [LenOk]; omega) | (simp <;> omega)))) (rd_c.at0 hw)).mono ?_
  rintro _ w1 ⟨a1_, vs2_, b3_, ls4_, e5_, rfl, hf1_6, hO⟩
  refine (?_ : CL _ _ _ _ _ _ (Own w [] [Res.row b5 24 (ConfD.cells c), Res.vec 3 1 a1_ vs2_.length (vs2_.flatMap I1), Res.vec 3 1 b3_ ls4_.length (ls4_.flatMap I1)])) w1 (hw.frame0 hO)
  refine l_mv rfl ?_
  refine l_ext (vs := [.agg #[a1_, b3_], .int .i64 e5_]) rfl rfl rfl ?_
  refine l_ext (vs := [.agg #[a1_, b3_], .int .i64 e5_]) rfl rfl rfl ?_
  refine l_new (v := .agg #[.slice none 0 0, .slice none 0 0]) (by kernel_rfl) rfl (fun b11 => ?_)
  refine l_haveO (fun w' hw => Own.cell1Vec (i := 1) rfl hw) (fun hc1_ => ?_)
  refine l_haveO (fun w' hw => Own.cell1Vec (i := 2) rfl hw) (fun hc2_ => ?_)
  refine l_stN (cs := [.slice none 0 0, .slice none 0 0]) (vs := [a1_, b3_]) 3 rfl rfl rfl (by kernel_rfl) (allc_cons hc1_ (allc_cons hc2_ allc_nil)) (Nat.le_of_ble_eq_true rfl) ?_
  refine l_as rfl ?_
  refine l_end ?_
  refine c_seq ?_
  refine c_reg ?_
  refine l_call (by kernel_rfl) rfl rfl (fun w' hw => ?_)
  refine (answers_s w').mono ?_
  rintro _ w1 ⟨rfl, hO⟩
  refine (?_ : CL _ _ _ _ _ _ (Own w [] [Res.row b5 24 (ConfD.cells c), Res.vec 3 1 a1_ vs2_.length (vs2_.flatMap I1), Res.vec 3 1 b3_ ls4_.length (ls4_.flatMap I1), Res.row b11 24 [a1_, b3_]])) w1 (hw.frame0 hO)
  refine l_not (b := true) rfl rfl ?_
  refine l_mv rfl ?_
  refine l_on rfl rfl ?_
  refine l_ldr (cs := (ConfD.cells c)) 0 rfl rfl (by kernel_rfl) rfl ?_
  refine l_on rfl rfl ?_
  refine l_call (by kernel_rfl) rfl rfl (fun w' hw => ?_)
  refine (confOK_spec c w' (by first | assumption | omega | (simp <;> omega) | (constructor <;> (first | omega | (simp only [LenOk]; omega) | (simp <;> omega)))) (rd_c.at0 hw)).mono ?_
  rintro _ w1 ⟨rfl, hO⟩
  refine (?_ : CL _ _ _ _ _ _ (Own w [] [Res.row b5 24 (ConfD.cells c), Res.vec 3 1 a1_ vs2_.length (vs2_.flatMap I1), Res.vec 3 1 b3_ ls4_.length (ls4_.flatMap I1), Res.row b11 24 [a1_, b3_]])) w1 (hw.frame0 hO)
  refine l_on rfl rfl ?_
  refine l_notp (q := c.ok) rfl rfl ?_
  refine l_pickF rfl rfl ?_
  refine l_end ?_
  refine c_dec rfl (fun c1 => ?_) (fun c1 => ?_)
  ·
    refine c_reg ?_
    refine l_call (by kernel_rfl) rfl rfl (fun w' hw => ?_)
    refine (answers_s w').mono ?_
    rintro _ w1 ⟨rfl, hO⟩
    refine (?_ : CL _ _ _ _ _ _ (Own w [] [Res.row b5 24 (ConfD.cells c), Res.vec 3 1 a1_ vs2_.length (vs2_.flatMap I1), Res.vec 3 1 b3_ ls4_.length (ls4_.flatMap I1), Res.row b11 24 [a1_, b3_]])) w1 (hw.frame0 hO)
    refine l_as rfl ?_
    refine l_end ?_
    exact c_ret (ret1 (v := .bool true) rfl rfl (fun w' hw => ⟨rfl, hw.drop⟩))
  ·
    have hfew := few_of (Decidable.not_not.1 c1)
    have hf1 := hfew.vs
    have hlen := chg_len hf1_6
    have hq1 := Rises.few' (Decidable.not_not.1 c1).1.1.1
    have hq2 := Rises.few' (Decidable.not_not.1 c1).1.1.2
    have hq3 : vs2_.length ≤ 17 := by omega
    have hq4 : ls4_.length ≤ 17 := by omega
    refine c_skipC ?_
    refine c_seq ?_
    refine c_reg ?_
    refine l_mv rfl ?_
    refine l_ne rfl rfl rfl ?_
    refine l_end ?_
    refine c_dec rfl (fun c2 => ?_) (fun c2 => ?_)
    ·
      refine c_last ?_
      refine l_ldr (cs := (ConfD.cells c)) 0 rfl rfl (by kernel_rfl) rfl ?_
      refine l_stN (cs := [a1_, b3_]) (vs := [c.vv, c.lv]) 3 rfl rfl rfl (by kernel_rfl) (allc_cons (Sl.cell1 (Rd.φ rd_c.vv)) (allc_cons (Sl.cell1 (Rd.φ rd_c.lv)) allc_nil)) (Nat.le_of_ble_eq_true rfl) ?_
      refine l_end ?_
      refine c_seq ?_
      refine c_seq ?_
      refine c_heldo [0, 1, 2, 3] rfl (by decide) (by kernel_rfl) (fun w' hw hS => ?_)
      refine h_take 0 rfl (by kernel_rfl) (by kernel_rfl) (by kernel_rfl) (v_ldr (cs := (ConfD.cells c)) 0 rfl rfl (by kernel_rfl)) rfl hS ?_
      refine h_take 2 rfl (by kernel_rfl) (by kernel_rfl) (by kernel_rfl) (v_mv) rfl hS ?_
      refine h_one 1 (by kernel_rfl) rfl hw ?_
      refine l_bsl (e := 3) (sz := 1) (vs := []) (by kernel_rfl) rfl rfl (by simp [Value.cells]) (by decide) rfl (fun b36 => ?_)
      refine l_nil (fun w' hw => ?_)
      have hS := hw.sel [0, 1, 2, 3] rfl (by decide)
      refine ⟨hS, ?_⟩
      refine h_one 3 (by kernel_rfl) rfl hw ?_
      refine l_appF (g := I1) (sz := 1) (by' := 8) (fun _ => rfl) (l := []) (l' := a) (by simp [cell1, I1]) 4 (by kernel_rfl) rfl rfl rfl (fun w' hw' => Own.rd ha hw') (by first | omega | (simp; omega)) (by decide) rfl (fun v38 => ?_)
      refine l_nil (fun w' hw => ?_)
      have hS := hw.sel [0, 1, 2, 3] rfl (by decide)
      refine ⟨hS, ?_⟩
      refine h_one 4 (by kernel_rfl) rfl hw ?_
      refine l_call (by kernel_rfl) rfl rfl (fun w' hw => ?_)
      refine (quorum_s c v38 a w' (by first | assumption | omega | (simp <;> omega) | (constructor <;> (first | omega | (simp only [LenOk]; omega) | (simp <;> omega)))) (by first | assumption | omega | (simp <;> omega) | (constructor <;> (first | omega | (simp only [LenOk]; omega) | (simp <;> omega)))) (hw.rdVec0 4 rfl) (rd_c.at0 hw)).mono ?_
      rintro _ w1 ⟨rfl, hO⟩
      refine (?_ : CL _ _ _ _ _ _ (Own w [] [Res.row b5 24 (ConfD.cells c), Res.vec 3 1 a1_ vs2_.length (vs2_.flatMap I1), Res.vec 3 1 b3_ ls4_.length (ls4_.flatMap I1), Res.row b11 24 (ConfD.cells c), Res.vec 3 1 v38 a.length (a.flatMap I1)])) w1 (hw.frame0 hO)
      refine l_nil (fun w' hw => ?_)
      have hS := hw.sel [0, 1, 2, 3] rfl (by decide)
      refine ⟨hS, ?_⟩
      refine h_take 5 rfl (by kernel_rfl) (by kernel_rfl) (by kernel_rfl) (v_notp (q := c.quorum a) rfl) rfl hS ?_
      refine h_take 6 rfl (by kernel_rfl) (by kernel_rfl) (by kernel_rfl) (v_mv) rfl hS ?_
      by_cases g6_6 : ¬ (c.quorum a)
      ·
        refine h_offg 7 rfl rfl (gT g6_6) rfl (by kernel_rfl) (by kernel_rfl) (by kernel_rfl) rfl hS ?_
        refine h_offg 8 rfl rfl (gT g6_6) rfl (by kernel_rfl) (by kernel_rfl) (by kernel_rfl) rfl hS ?_
        refine h_offg 9 rfl rfl (gT g6_6) rfl (by kernel_rfl) (by kernel_rfl) (by kernel_rfl) rfl hS ?_
        refine h_offg 10 rfl rfl (gT g6_6) rfl (by kernel_rfl) (by kernel_rfl) (by kernel_rfl) rfl hS ?_
        refine h_offg 11 rfl rfl (gT g6_6) rfl (by kernel_rfl) (by kernel_rfl) (by kernel_rfl) rfl hS ?_
        refine h_offg 12 rfl rfl (gT g6_6) rfl (by kernel_rfl) (by kernel_rfl) (by kernel_rfl) rfl hS ?_
        refine h_take 13 rfl (by kernel_rfl) (by kernel_rfl) (by kernel_rfl) (v_pickT (gT g6_6)) rfl hS ?_
        refine h_done (by kernel_rfl) ?_
        refine (?_ : C _ _ _ _ _ _ _ (Own w [] [Res.row b5 24 (ConfD.cells c), Res.vec 3 1 a1_ vs2_.length (vs2_.flatMap I1), Res.vec 3 1 b3_ ls4_.length (ls4_.flatMap I1), Res.row b11 24 (ConfD.cells c), Res.vec 3 1 v38 a.length (a.flatMap I1)])) _ hw
        refine c_yes rfl ?_
        refine c_reg ?_
        refine l_as rfl ?_
        refine l_end ?_
        exact c_ret (ret1 (v := .bool true) rfl rfl (fun w' hw => ⟨rfl, hw.drop⟩))
      ·
        refine h_takeg 7 rfl rfl (gF g6_6) (by kernel_rfl) (by kernel_rfl) (by kernel_rfl) (v_ldr (cs := (ConfD.cells c)) 3 rfl rfl (by kernel_rfl)) rfl hS ?_
        refine h_takeg 9 rfl rfl (gF g6_6) (by kernel_rfl) (by kernel_rfl) (by kernel_rfl) (v_mv) rfl hS ?_
        refine h_one 8 (by kernel_rfl) rfl hw ?_
        refine l_on rfl (gF g6_6) ?_
        refine l_bsl (e := 3) (sz := 1) (vs := []) (by kernel_rfl) rfl rfl (by simp [Value.cells]) (by decide) rfl (fun b43 => ?_)
        refine l_nil (fun w' hw => ?_)
        have hS := hw.sel [0, 1, 2, 3] rfl (by decide)
        refine ⟨hS, ?_⟩
        refine h_one 10 (by kernel_rfl) rfl hw ?_
        refine l_on rfl (gF g6_6) ?_
        refine l_appF (g := I1) (sz := 1) (by' := 8) (fun _ => rfl) (l := []) (l' := b) (by simp [cell1, I1]) 5 (by kernel_rfl) rfl rfl rfl (fun w' hw' => Own.rd hb hw') (by first | omega | (simp; omega)) (by decide) rfl (fun v45 => ?_)
        refine l_nil (fun w' hw => ?_)
        have hS := hw.sel [0, 1, 2, 3] rfl (by decide)
        refine ⟨hS, ?_⟩
        refine h_one 11 (by kernel_rfl) rfl hw ?_
        refine l_on rfl (gF g6_6) ?_
        refine l_call (by kernel_rfl) rfl rfl (fun w' hw => ?_)
        refine (quorum_s c v45 b w' (by first | assumption | omega | (simp <;> omega) | (constructor <;> (first | omega | (simp only [LenOk]; omega) | (simp <;> omega)))) (by first | assumption | omega | (simp <;> omega) | (constructor <;> (first | omega | (simp only [LenOk]; omega) | (simp <;> omega)))) (hw.rdVec0 5 rfl) (rd_c.at0 hw)).mono ?_
        rintro _ w1 ⟨rfl, hO⟩
        refine (?_ : CL _ _ _ _ _ _ (Own w [] [Res.row b5 24 (ConfD.cells c), Res.vec 3 1 a1_ vs2_.length (vs2_.flatMap I1), Res.vec 3 1 b3_ ls4_.length (ls4_.flatMap I1), Res.row b11 24 (ConfD.cells c), Res.vec 3 1 v38 a.length (a.flatMap I1), Res.vec 3 1 v45 b.length (b.flatMap I1)])) w1 (hw.frame0 hO)
        refine l_nil (fun w' hw => ?_)
        have hS := hw.sel [0, 1, 2, 3] rfl (by decide)
        refine ⟨hS, ?_⟩
        refine h_takeg 12 rfl rfl (gF g6_6) (by kernel_rfl) (by kernel_rfl) (by kernel_rfl) (v_notp (q := c.quorum b) rfl) rfl hS ?_
        refine h_take 13 rfl (by kernel_rfl) (by kernel_rfl) (by kernel_rfl) (v_pickF (gF g6_6)) rfl hS ?_
        refine h_done (by kernel_rfl) ?_
        refine (?_ : C _ _ _ _ _ _ _ (Own w [] [Res.row b5 24 (ConfD.cells c), Res.vec 3 1 a1_ vs2_.length (vs2_.flatMap I1), Res.vec 3 1 b3_ ls4_.length (ls4_.flatMap I1), Res.row b11 24 (ConfD.cells c), Res.vec 3 1 v38 a.length (a.flatMap I1), Res.vec 3 1 v45 b.length (b.flatMap I1)])) _ hw
        refine c_dec rfl (fun c4 => ?_) (fun c4 => ?_)
        ·
          refine c_reg ?_
          refine l_as rfl ?_
          refine l_end ?_
          exact c_ret (ret1 (v := .bool true) rfl rfl (fun w' hw => ⟨rfl, hw.drop⟩))
        ·
          refine c_skipC ?_
          refine c_seq ?_
          refine c_reg ?_
          refine l_as rfl ?_
          refine l_end ?_
          refine c_block ?_
          refine c_loop1 (fun (k : Nat) => [(3, v), (4, u), (5, .pointer (some ⟨b5, 0, none⟩)), (11, .pointer (some ⟨b11, 0, none⟩)), (13, .int .i64 (k : Nat))]) (fun (k : Nat) => k ≤ a.length ∧ ∀ x ∈ a.take k, ¬ (x ∈ b ∧ x ∈ c.vs)) (fun (k : Nat) => [Res.row b5 24 (ConfD.cells c), Res.vec 3 1 a1_ vs2_.length (vs2_.flatMap I1), Res.vec 3 1 b3_ ls4_.length (ls4_.flatMap I1), Res.row b11 24 (ConfD.cells c), Res.vec 3 1 v38 a.length (a.flatMap I1), Res.vec 3 1 v45 b.length (b.flatMap I1)]) (fun (k : Nat) => a.length - k) (fun w' hw => ⟨0, ⟨rfl, rfl, rfl, rfl, rfl, trivial⟩, ⟨Nat.zero_le _, by simp⟩, hw⟩) (fun k g hΦ => ?_)
          refine c_seq ?_
          refine c_reg ?_
          refine l_mv rfl ?_
          refine l_mv rfl ?_
          refine l_lenS (len := a.length) (cs := (a.flatMap I1)) (by kernel_rfl) rfl (fun w' hw' => Own.rd ha hw') rfl ?_
          refine l_lss rfl rfl rfl ?_
          refine l_end ?_
          refine c_dec rfl (fun c5 => ?_) (fun c5 => ?_)
          ·
            refine c_skipC ?_
            refine c_seq ?_
            refine c_block ?_
            refine c_seq ?_
            refine c_heldo [0, 1, 2, 3, 4, 5] rfl (by decide) (by kernel_rfl) (fun w' hw hS => ?_)
            refine h_take 0 rfl (by kernel_rfl) (by kernel_rfl) (by kernel_rfl) (v_mv) rfl hS ?_
            refine h_take 1 rfl (by kernel_rfl) (by kernel_rfl) (by kernel_rfl) (v_mv) rfl hS ?_
            refine h_take 2 rfl (by kernel_rfl) (by kernel_rfl) (by kernel_rfl) (v_mv) rfl hS ?_
            refine h_take 3 rfl (by kernel_rfl) (by kernel_rfl) (by kernel_rfl) (v_idxS (j := k) (sz := 1) (len := a.length) (cs := (a.flatMap I1)) rfl rfl (by kernel_rfl) (fun w' hw' => Own.rd ha hw') rfl (by omega)) rfl hS ?_
            refine h_take 4 rfl (by kernel_rfl) (by kernel_rfl) (by kernel_rfl) (v_ldS (v := v) (off := offV v + k * 1) (k * 1 + 0) (cs := (a.flatMap I1)) rfl (by omega) (fun w' hw' => Own.rd ha hw') (flat_at (sz := 1) (fun _ => rfl) (nth_some (by omega)) (i := 0) rfl) (by kernel_rfl)) rfl hS ?_
            refine h_one 5 (by kernel_rfl) rfl hw ?_
            refine l_call (by kernel_rfl) rfl rfl (fun w' hw => ?_)
            refine (has_spec u b (nth a k) w' (by first | assumption | omega | (simp <;> omega) | (constructor <;> (first | omega | (simp only [LenOk]; omega) | (simp <;> omega)))) (hw.rd0 hb)).mono ?_
            rintro _ w1 ⟨rfl, hO⟩
            refine (?_ : CL _ _ _ _ _ _ (Own w [] [Res.row b5 24 (ConfD.cells c), Res.vec 3 1 a1_ vs2_.length (vs2_.flatMap I1), Res.vec 3 1 b3_ ls4_.length (ls4_.flatMap I1), Res.row b11 24 (ConfD.cells c), Res.vec 3 1 v38 a.length (a.flatMap I1), Res.vec 3 1 v45 b.length (b.flatMap I1)])) w1 (hw.frame0 hO)
            refine l_nil (fun w' hw => ?_)
            have hS := hw.sel [0, 1, 2, 3, 4, 5] rfl (by decide)
            refine ⟨hS, ?_⟩
            refine h_take 6 rfl (by kernel_rfl) (by kernel_rfl) (by kernel_rfl) (v_mv) rfl hS ?_
            by_cases g11_6 : (nth a k) ∈ b
            ·
              refine h_takeg 7 rfl rfl (gT g11_6) (by kernel_rfl) (by kernel_rfl) (by kernel_rfl) (v_ldr (cs := (ConfD.cells c)) 0 rfl rfl (by kernel_rfl)) rfl hS ?_
              refine h_takeg 8 rfl rfl (gT g11_6) (by kernel_rfl) (by kernel_rfl) (by kernel_rfl) (v_mv) rfl hS ?_
              refine h_takeg 9 rfl rfl (gT g11_6) (by kernel_rfl) (by kernel_rfl) (by kernel_rfl) (v_mv) rfl hS ?_
              refine h_takeg 10 rfl rfl (gT g11_6) (by kernel_rfl) (by kernel_rfl) (by kernel_rfl) (v_idxS (j := k) (sz := 1) (len := a.length) (cs := (a.flatMap I1)) rfl rfl (by kernel_rfl) (fun w' hw' => Own.rd ha hw') rfl (by omega)) rfl hS ?_
              refine h_takeg 11 rfl rfl (gT g11_6) (by kernel_rfl) (by kernel_rfl) (by kernel_rfl) (v_ldS (v := v) (off := offV v + k * 1) (k * 1 + 0) (cs := (a.flatMap I1)) rfl (by omega) (fun w' hw' => Own.rd ha hw') (flat_at (sz := 1) (fun _ => rfl) (nth_some (by omega)) (i := 0) rfl) (by kernel_rfl)) rfl hS ?_
              refine h_one 12 (by kernel_rfl) rfl hw ?_
              refine l_on rfl (gT g11_6) ?_
              refine l_call (by kernel_rfl) rfl rfl (fun w' hw => ?_)
              refine (rvoter_s c (nth a k) w' (by first | assumption | omega | (simp <;> omega) | (constructor <;> (first | omega | (simp only [LenOk]; omega) | (simp <;> omega)))) (rd_c.at0 hw)).mono ?_
              rintro _ w1 ⟨rfl, hO⟩
              refine (?_ : CL _ _ _ _ _ _ (Own w [] [Res.row b5 24 (ConfD.cells c), Res.vec 3 1 a1_ vs2_.length (vs2_.flatMap I1), Res.vec 3 1 b3_ ls4_.length (ls4_.flatMap I1), Res.row b11 24 (ConfD.cells c), Res.vec 3 1 v38 a.length (a.flatMap I1), Res.vec 3 1 v45 b.length (b.flatMap I1)])) w1 (hw.frame0 hO)
              refine l_nil (fun w' hw => ?_)
              have hS := hw.sel [0, 1, 2, 3, 4, 5] rfl (by decide)
              refine ⟨hS, ?_⟩
              refine h_takeg 13 rfl rfl (gT g11_6) (by kernel_rfl) (by kernel_rfl) (by kernel_rfl) (v_mv) rfl hS ?_
              by_cases g11_13 : c.ok ∧ (nth a k) ∈ c.vs
              ·
                refine h_offg 14 rfl rfl (gT g11_13) rfl (by kernel_rfl) (by kernel_rfl) (by kernel_rfl) rfl hS ?_
                refine h_offg 15 rfl rfl (gT g11_13) rfl (by kernel_rfl) (by kernel_rfl) (by kernel_rfl) rfl hS ?_
                refine h_offg 16 rfl rfl (gT g11_13) rfl (by kernel_rfl) (by kernel_rfl) (by kernel_rfl) rfl hS ?_
                refine h_offg 17 rfl rfl (gT g11_13) rfl (by kernel_rfl) (by kernel_rfl) (by kernel_rfl) rfl hS ?_
                refine h_offg 18 rfl rfl (gT g11_13) rfl (by kernel_rfl) (by kernel_rfl) (by kernel_rfl) rfl hS ?_
                refine h_offg 19 rfl rfl (gT g11_13) rfl (by kernel_rfl) (by kernel_rfl) (by kernel_rfl) rfl hS ?_
                refine h_takeg 20 rfl rfl (gT g11_6) (by kernel_rfl) (by kernel_rfl) (by kernel_rfl) (v_pickT (gT g11_13)) rfl hS ?_
                refine h_take 21 rfl (by kernel_rfl) (by kernel_rfl) (by kernel_rfl) (v_pickT (gT g11_6)) rfl hS ?_
                refine h_done (by kernel_rfl) ?_
                refine (?_ : C _ _ _ _ _ _ _ (Own w [] [Res.row b5 24 (ConfD.cells c), Res.vec 3 1 a1_ vs2_.length (vs2_.flatMap I1), Res.vec 3 1 b3_ ls4_.length (ls4_.flatMap I1), Res.row b11 24 (ConfD.cells c), Res.vec 3 1 v38 a.length (a.flatMap I1), Res.vec 3 1 v45 b.length (b.flatMap I1)])) _ hw
                refine c_yes rfl ?_
                refine c_reg ?_
                refine l_as rfl ?_
                refine l_end ?_
                exact c_ret (ret1 (v := .bool true) rfl rfl (fun w' hw => ⟨rfl, hw.drop⟩))
              ·
                refine h_takeg 14 rfl rfl (gF g11_13) (by kernel_rfl) (by kernel_rfl) (by kernel_rfl) (v_ldr (cs := (ConfD.cells c)) 3 rfl rfl (by kernel_rfl)) rfl hS ?_
                refine h_takeg 15 rfl rfl (gF g11_13) (by kernel_rfl) (by kernel_rfl) (by kernel_rfl) (v_mv) rfl hS ?_
                refine h_takeg 16 rfl rfl (gF g11_13) (by kernel_rfl) (by kernel_rfl) (by kernel_rfl) (v_mv) rfl hS ?_
                refine h_takeg 17 rfl rfl (gF g11_13) (by kernel_rfl) (by kernel_rfl) (by kernel_rfl) (v_idxS (j := k) (sz := 1) (len := a.length) (cs := (a.flatMap I1)) rfl rfl (by kernel_rfl) (fun w' hw' => Own.rd ha hw') rfl (by omega)) rfl hS ?_
                refine h_takeg 18 rfl rfl (gF g11_13) (by kernel_rfl) (by kernel_rfl) (by kernel_rfl) (v_ldS (v := v) (off := offV v + k * 1) (k * 1 + 0) (cs := (a.flatMap I1)) rfl (by omega) (fun w' hw' => Own.rd ha hw') (flat_at (sz := 1) (fun _ => rfl) (nth_some (by omega)) (i := 0) rfl) (by kernel_rfl)) rfl hS ?_
                refine h_one 19 (by kernel_rfl) rfl hw ?_
                refine l_on rfl (gF g11_13) ?_
                refine l_call (by kernel_rfl) rfl rfl (fun w' hw => ?_)
                refine (rvoter_s c (nth a k) w' (by first | assumption | omega | (simp <;> omega) | (constructor <;> (first | omega | (simp only [LenOk]; omega) | (simp <;> omega)))) (rd_c.at0 hw)).mono ?_
                rintro _ w1 ⟨rfl, hO⟩
                refine (?_ : CL _ _ _ _ _ _ (Own w [] [Res.row b5 24 (ConfD.cells c), Res.vec 3 1 a1_ vs2_.length (vs2_.flatMap I1), Res.vec 3 1 b3_ ls4_.length (ls4_.flatMap I1), Res.row b11 24 (ConfD.cells c), Res.vec 3 1 v38 a.length (a.flatMap I1), Res.vec 3 1 v45 b.length (b.flatMap I1)])) w1 (hw.frame0 hO)
                refine l_nil (fun w' hw => ?_)
                have hS := hw.sel [0, 1, 2, 3, 4, 5] rfl (by decide)
                refine ⟨hS, ?_⟩
                refine h_takeg 20 rfl rfl (gT g11_6) (by kernel_rfl) (by kernel_rfl) (by kernel_rfl) (v_pickF (gF g11_13)) rfl hS ?_
                refine h_take 21 rfl (by kernel_rfl) (by kernel_rfl) (by kernel_rfl) (v_pickT (gT g11_6)) rfl hS ?_
                refine h_done (by kernel_rfl) ?_
                refine (?_ : C _ _ _ _ _ _ _ (Own w [] [Res.row b5 24 (ConfD.cells c), Res.vec 3 1 a1_ vs2_.length (vs2_.flatMap I1), Res.vec 3 1 b3_ ls4_.length (ls4_.flatMap I1), Res.row b11 24 (ConfD.cells c), Res.vec 3 1 v38 a.length (a.flatMap I1), Res.vec 3 1 v45 b.length (b.flatMap I1)])) _ hw
                refine c_dec rfl (fun c7 => ?_) (fun c7 => ?_)
                ·
                  refine c_reg ?_
                  refine l_as rfl ?_
                  refine l_end ?_
                  exact c_ret (ret1 (v := .bool true) rfl rfl (fun w' hw => ⟨rfl, hw.drop⟩))
                ·
                  refine c_skipC ?_
                  refine c_last ?_
                  refine l_mv rfl ?_
                  refine l_add rfl rfl (wi64 (by omega)) rfl ?_
                  refine l_as rfl ?_
                  exact l_nil (fun w' hw => ⟨k + 1, ⟨rfl, rfl, rfl, rfl, rfl, trivial⟩, ⟨by omega, take_ext hΦ.2 (by omega) (fun h => g11_13 ⟨Decidable.not_not.1 c1, h.2⟩)⟩, hw, (by omega)⟩)
            ·
              refine h_offg 7 rfl rfl (gF g11_6) rfl (by kernel_rfl) (by kernel_rfl) (by kernel_rfl) rfl hS ?_
              refine h_offg 8 rfl rfl (gF g11_6) rfl (by kernel_rfl) (by kernel_rfl) (by kernel_rfl) rfl hS ?_
              refine h_offg 9 rfl rfl (gF g11_6) rfl (by kernel_rfl) (by kernel_rfl) (by kernel_rfl) rfl hS ?_
              refine h_offg 10 rfl rfl (gF g11_6) rfl (by kernel_rfl) (by kernel_rfl) (by kernel_rfl) rfl hS ?_
              refine h_offg 11 rfl rfl (gF g11_6) rfl (by kernel_rfl) (by kernel_rfl) (by kernel_rfl) rfl hS ?_
              refine h_offg 12 rfl rfl (gF g11_6) rfl (by kernel_rfl) (by kernel_rfl) (by kernel_rfl) rfl hS ?_
              refine h_offg 13 rfl rfl (gF g11_6) rfl (by kernel_rfl) (by kernel_rfl) (by kernel_rfl) rfl hS ?_
              refine h_offu 14 rfl rfl rfl (by kernel_rfl) (by kernel_rfl) (by kernel_rfl) rfl hS ?_
              refine h_offu 15 rfl rfl rfl (by kernel_rfl) (by kernel_rfl) (by kernel_rfl) rfl hS ?_
              refine h_offu 16 rfl rfl rfl (by kernel_rfl) (by kernel_rfl) (by kernel_rfl) rfl hS ?_
              refine h_offu 17 rfl rfl rfl (by kernel_rfl) (by kernel_rfl) (by kernel_rfl) rfl hS ?_
              refine h_offu 18 rfl rfl rfl (by kernel_rfl) (by kernel_rfl) (by kernel_rfl) rfl hS ?_
              refine h_offu 19 rfl rfl rfl (by kernel_rfl) (by kernel_rfl) (by kernel_rfl) rfl hS ?_
              refine h_offg 20 rfl rfl (gF g11_6) rfl (by kernel_rfl) (by kernel_rfl) (by kernel_rfl) rfl hS ?_
              refine h_take 21 rfl (by kernel_rfl) (by kernel_rfl) (by kernel_rfl) (v_pickF (gF g11_6)) rfl hS ?_
              refine h_done (by kernel_rfl) ?_
              refine (?_ : C _ _ _ _ _ _ _ (Own w [] [Res.row b5 24 (ConfD.cells c), Res.vec 3 1 a1_ vs2_.length (vs2_.flatMap I1), Res.vec 3 1 b3_ ls4_.length (ls4_.flatMap I1), Res.row b11 24 (ConfD.cells c), Res.vec 3 1 v38 a.length (a.flatMap I1), Res.vec 3 1 v45 b.length (b.flatMap I1)])) _ hw
              refine c_no rfl ?_
              refine c_skipC ?_
              refine c_last ?_
              refine l_mv rfl ?_
              refine l_add rfl rfl (wi64 (by omega)) rfl ?_
              refine l_as rfl ?_
              exact l_nil (fun w' hw => ⟨k + 1, ⟨rfl, rfl, rfl, rfl, rfl, trivial⟩, ⟨by omega, take_ext hΦ.2 (by omega) (fun h => g11_6 h.1)⟩, hw, (by omega)⟩)
          ·
            refine c_exitC rfl ?_
            refine c_reg ?_
            refine l_as rfl ?_
            refine l_end ?_
            exact c_ret (ret1 (v := .bool false) rfl rfl (fun w' hw => ⟨(absurd (meet_all (a := a) (b := b) (filt_id c.vs).symm (filt_id c.vs).symm (by omega) (by omega) (by omega) (Decidable.not_not.1 g6_6).2 (Decidable.not_not.1 c4).2 (by omega) hΦ.2) (fun h => h)), hw.drop⟩))
    ·
      refine c_skipC ?_
      refine c_seq ?_
      refine c_seq ?_
      refine c_heldo [0, 1, 2, 3] rfl (by decide) (by kernel_rfl) (fun w' hw hS => ?_)
      refine h_take 0 rfl (by kernel_rfl) (by kernel_rfl) (by kernel_rfl) (v_ldr (cs := (ConfD.cells c)) 0 rfl rfl (by kernel_rfl)) rfl hS ?_
      refine h_take 2 rfl (by kernel_rfl) (by kernel_rfl) (by kernel_rfl) (v_mv) rfl hS ?_
      refine h_one 1 (by kernel_rfl) rfl hw ?_
      refine l_bsl (e := 3) (sz := 1) (vs := []) (by kernel_rfl) rfl rfl (by simp [Value.cells]) (by decide) rfl (fun b36 => ?_)
      refine l_nil (fun w' hw => ?_)
      have hS := hw.sel [0, 1, 2, 3] rfl (by decide)
      refine ⟨hS, ?_⟩
      refine h_one 3 (by kernel_rfl) rfl hw ?_
      refine l_appF (g := I1) (sz := 1) (by' := 8) (fun _ => rfl) (l := []) (l' := a) (by simp [cell1, I1]) 4 (by kernel_rfl) rfl rfl rfl (fun w' hw' => Own.rd ha hw') (by first | omega | (simp; omega)) (by decide) rfl (fun v38 => ?_)
      refine l_nil (fun w' hw => ?_)
      have hS := hw.sel [0, 1, 2, 3] rfl (by decide)
      refine ⟨hS, ?_⟩
      refine h_one 4 (by kernel_rfl) rfl hw ?_
      refine l_call (by kernel_rfl) rfl rfl (fun w' hw => ?_)
      refine (quorum_s c v38 a w' (by first | assumption | omega | (simp <;> omega) | (constructor <;> (first | omega | (simp only [LenOk]; omega) | (simp <;> omega)))) (by first | assumption | omega | (simp <;> omega) | (constructor <;> (first | omega | (simp only [LenOk]; omega) | (simp <;> omega)))) (hw.rdVec0 4 rfl) (rd_c.at0 hw)).mono ?_
      rintro _ w1 ⟨rfl, hO⟩
      refine (?_ : CL _ _ _ _ _ _ (Own w [] [Res.row b5 24 (ConfD.cells c), Res.vec 3 1 a1_ vs2_.length (vs2_.flatMap I1), Res.vec 3 1 b3_ ls4_.length (ls4_.flatMap I1), Res.row b11 24 [a1_, b3_], Res.vec 3 1 v38 a.length (a.flatMap I1)])) w1 (hw.frame0 hO)
      refine l_nil (fun w' hw => ?_)
      have hS := hw.sel [0, 1, 2, 3] rfl (by decide)
      refine ⟨hS, ?_⟩
      refine h_take 5 rfl (by kernel_rfl) (by kernel_rfl) (by kernel_rfl) (v_notp (q := c.quorum a) rfl) rfl hS ?_
      refine h_take 6 rfl (by kernel_rfl) (by kernel_rfl) (by kernel_rfl) (v_mv) rfl hS ?_
      by_cases g6_6 : ¬ (c.quorum a)
      ·
        refine h_offg 7 rfl rfl (gT g6_6) rfl (by kernel_rfl) (by kernel_rfl) (by kernel_rfl) rfl hS ?_
        refine h_offg 8 rfl rfl (gT g6_6) rfl (by kernel_rfl) (by kernel_rfl) (by kernel_rfl) rfl hS ?_
        refine h_offg 9 rfl rfl (gT g6_6) rfl (by kernel_rfl) (by kernel_rfl) (by kernel_rfl) rfl hS ?_
        refine h_offg 10 rfl rfl (gT g6_6) rfl (by kernel_rfl) (by kernel_rfl) (by kernel_rfl) rfl hS ?_
        refine h_offg 11 rfl rfl (gT g6_6) rfl (by kernel_rfl) (by kernel_rfl) (by kernel_rfl) rfl hS ?_
        refine h_offg 12 rfl rfl (gT g6_6) rfl (by kernel_rfl) (by kernel_rfl) (by kernel_rfl) rfl hS ?_
        refine h_take 13 rfl (by kernel_rfl) (by kernel_rfl) (by kernel_rfl) (v_pickT (gT g6_6)) rfl hS ?_
        refine h_done (by kernel_rfl) ?_
        refine (?_ : C _ _ _ _ _ _ _ (Own w [] [Res.row b5 24 (ConfD.cells c), Res.vec 3 1 a1_ vs2_.length (vs2_.flatMap I1), Res.vec 3 1 b3_ ls4_.length (ls4_.flatMap I1), Res.row b11 24 [a1_, b3_], Res.vec 3 1 v38 a.length (a.flatMap I1)])) _ hw
        refine c_yes rfl ?_
        refine c_reg ?_
        refine l_as rfl ?_
        refine l_end ?_
        exact c_ret (ret1 (v := .bool true) rfl rfl (fun w' hw => ⟨rfl, hw.drop⟩))
      ·
        refine h_takeg 7 rfl rfl (gF g6_6) (by kernel_rfl) (by kernel_rfl) (by kernel_rfl) (v_ldr (cs := [a1_, b3_]) 3 rfl rfl (by kernel_rfl)) rfl hS ?_
        refine h_takeg 9 rfl rfl (gF g6_6) (by kernel_rfl) (by kernel_rfl) (by kernel_rfl) (v_mv) rfl hS ?_
        refine h_one 8 (by kernel_rfl) rfl hw ?_
        refine l_on rfl (gF g6_6) ?_
        refine l_bsl (e := 3) (sz := 1) (vs := []) (by kernel_rfl) rfl rfl (by simp [Value.cells]) (by decide) rfl (fun b43 => ?_)
        refine l_nil (fun w' hw => ?_)
        have hS := hw.sel [0, 1, 2, 3] rfl (by decide)
        refine ⟨hS, ?_⟩
        refine h_one 10 (by kernel_rfl) rfl hw ?_
        refine l_on rfl (gF g6_6) ?_
        refine l_appF (g := I1) (sz := 1) (by' := 8) (fun _ => rfl) (l := []) (l' := b) (by simp [cell1, I1]) 5 (by kernel_rfl) rfl rfl rfl (fun w' hw' => Own.rd hb hw') (by first | omega | (simp; omega)) (by decide) rfl (fun v45 => ?_)
        refine l_nil (fun w' hw => ?_)
        have hS := hw.sel [0, 1, 2, 3] rfl (by decide)
        refine ⟨hS, ?_⟩
        refine h_one 11 (by kernel_rfl) rfl hw ?_
        refine l_on rfl (gF g6_6) ?_
        refine l_call (by kernel_rfl) rfl rfl (fun w' hw => ?_)
        refine (quorum_s ({ vv := a1_, vs := vs2_, lv := b3_, ls := ls4_ } : ConfD) v45 b w' (by first | assumption | omega | (simp <;> omega) | (constructor <;> (first | omega | (simp only [LenOk]; omega) | (simp <;> omega)))) (by first | assumption | omega | (simp <;> omega) | (constructor <;> (first | omega | (simp only [LenOk]; omega) | (simp <;> omega)))) (hw.rdVec0 5 rfl) ⟨(hw.rdVec0 1 rfl), (hw.rdVec0 2 rfl)⟩).mono ?_
        rintro _ w1 ⟨rfl, hO⟩
        refine (?_ : CL _ _ _ _ _ _ (Own w [] [Res.row b5 24 (ConfD.cells c), Res.vec 3 1 a1_ vs2_.length (vs2_.flatMap I1), Res.vec 3 1 b3_ ls4_.length (ls4_.flatMap I1), Res.row b11 24 [a1_, b3_], Res.vec 3 1 v38 a.length (a.flatMap I1), Res.vec 3 1 v45 b.length (b.flatMap I1)])) w1 (hw.frame0 hO)
        refine l_nil (fun w' hw => ?_)
        have hS := hw.sel [0, 1, 2, 3] rfl (by decide)
        refine ⟨hS, ?_⟩
        refine h_takeg 12 rfl rfl (gF g6_6) (by kernel_rfl) (by kernel_rfl) (by kernel_rfl) (v_notp (q := ({ vv := a1_, vs := vs2_, lv := b3_, ls := ls4_ } : ConfD).quorum b) rfl) rfl hS ?_
        refine h_take 13 rfl (by kernel_rfl) (by kernel_rfl) (by kernel_rfl) (v_pickF (gF g6_6)) rfl hS ?_
        refine h_done (by kernel_rfl) ?_
        refine (?_ : C _ _ _ _ _ _ _ (Own w [] [Res.row b5 24 (ConfD.cells c), Res.vec 3 1 a1_ vs2_.length (vs2_.flatMap I1), Res.vec 3 1 b3_ ls4_.length (ls4_.flatMap I1), Res.row b11 24 [a1_, b3_], Res.vec 3 1 v38 a.length (a.flatMap I1), Res.vec 3 1 v45 b.length (b.flatMap I1)])) _ hw
        refine c_dec rfl (fun c10 => ?_) (fun c10 => ?_)
        ·
          refine c_reg ?_
          refine l_as rfl ?_
          refine l_end ?_
          exact c_ret (ret1 (v := .bool true) rfl rfl (fun w' hw => ⟨rfl, hw.drop⟩))
        ·
          refine c_skipC ?_
          refine c_seq ?_
          refine c_reg ?_
          refine l_as rfl ?_
          refine l_end ?_
          refine c_block ?_
          refine c_loop1 (fun (k : Nat) => [(3, v), (4, u), (5, .pointer (some ⟨b5, 0, none⟩)), (11, .pointer (some ⟨b11, 0, none⟩)), (13, .int .i64 (k : Nat))]) (fun (k : Nat) => k ≤ a.length ∧ ∀ x ∈ a.take k, ¬ (x ∈ b ∧ x ∈ c.vs)) (fun (k : Nat) => [Res.row b5 24 (ConfD.cells c), Res.vec 3 1 a1_ vs2_.length (vs2_.flatMap I1), Res.vec 3 1 b3_ ls4_.length (ls4_.flatMap I1), Res.row b11 24 [a1_, b3_], Res.vec 3 1 v38 a.length (a.flatMap I1), Res.vec 3 1 v45 b.length (b.flatMap I1)]) (fun (k : Nat) => a.length - k) (fun w' hw => ⟨0, ⟨rfl, rfl, rfl, rfl, rfl, trivial⟩, ⟨Nat.zero_le _, by simp⟩, hw⟩) (fun k g hΦ => ?_)
          refine c_seq ?_
          refine c_reg ?_
          refine l_mv rfl ?_
          refine l_mv rfl ?_
          refine l_lenS (len := a.length) (cs := (a.flatMap I1)) (by kernel_rfl) rfl (fun w' hw' => Own.rd ha hw') rfl ?_
          refine l_lss rfl rfl rfl ?_
          refine l_end ?_
          refine c_dec rfl (fun c11 => ?_) (fun c11 => ?_)
          ·
            refine c_skipC ?_
            refine c_seq ?_
            refine c_block ?_
            refine c_seq ?_
            refine c_heldo [0, 1, 2, 3, 4, 5] rfl (by decide) (by kernel_rfl) (fun w' hw hS => ?_)
            refine h_take 0 rfl (by kernel_rfl) (by kernel_rfl) (by kernel_rfl) (v_mv) rfl hS ?_
            refine h_take 1 rfl (by kernel_rfl) (by kernel_rfl) (by kernel_rfl) (v_mv) rfl hS ?_
            refine h_take 2 rfl (by kernel_rfl) (by kernel_rfl) (by kernel_rfl) (v_mv) rfl hS ?_
            refine h_take 3 rfl (by kernel_rfl) (by kernel_rfl) (by kernel_rfl) (v_idxS (j := k) (sz := 1) (len := a.length) (cs := (a.flatMap I1)) rfl rfl (by kernel_rfl) (fun w' hw' => Own.rd ha hw') rfl (by omega)) rfl hS ?_
            refine h_take 4 rfl (by kernel_rfl) (by kernel_rfl) (by kernel_rfl) (v_ldS (v := v) (off := offV v + k * 1) (k * 1 + 0) (cs := (a.flatMap I1)) rfl (by omega) (fun w' hw' => Own.rd ha hw') (flat_at (sz := 1) (fun _ => rfl) (nth_some (by omega)) (i := 0) rfl) (by kernel_rfl)) rfl hS ?_
            refine h_one 5 (by kernel_rfl) rfl hw ?_
            refine l_call (by kernel_rfl) rfl rfl (fun w' hw => ?_)
            refine (has_spec u b (nth a k) w' (by first | assumption | omega | (simp <;> omega) | (constructor <;> (first | omega | (simp only [LenOk]; omega) | (simp <;> omega)))) (hw.rd0 hb)).mono ?_
            rintro _ w1 ⟨rfl, hO⟩
            refine (?_ : CL _ _ _ _ _ _ (Own w [] [Res.row b5 24 (ConfD.cells c), Res.vec 3 1 a1_ vs2_.length (vs2_.flatMap I1), Res.vec 3 1 b3_ ls4_.length (ls4_.flatMap I1), Res.row b11 24 [a1_, b3_], Res.vec 3 1 v38 a.length (a.flatMap I1), Res.vec 3 1 v45 b.length (b.flatMap I1)])) w1 (hw.frame0 hO)
            refine l_nil (fun w' hw => ?_)
            have hS := hw.sel [0, 1, 2, 3, 4, 5] rfl (by decide)
            refine ⟨hS, ?_⟩
            refine h_take 6 rfl (by kernel_rfl) (by kernel_rfl) (by kernel_rfl) (v_mv) rfl hS ?_
            by_cases g11_6 : (nth a k) ∈ b
            ·
              refine h_takeg 7 rfl rfl (gT g11_6) (by kernel_rfl) (by kernel_rfl) (by kernel_rfl) (v_ldr (cs := (ConfD.cells c)) 0 rfl rfl (by kernel_rfl)) rfl hS ?_
              refine h_takeg 8 rfl rfl (gT g11_6) (by kernel_rfl) (by kernel_rfl) (by kernel_rfl) (v_mv) rfl hS ?_
              refine h_takeg 9 rfl rfl (gT g11_6) (by kernel_rfl) (by kernel_rfl) (by kernel_rfl) (v_mv) rfl hS ?_
              refine h_takeg 10 rfl rfl (gT g11_6) (by kernel_rfl) (by kernel_rfl) (by kernel_rfl) (v_idxS (j := k) (sz := 1) (len := a.length) (cs := (a.flatMap I1)) rfl rfl (by kernel_rfl) (fun w' hw' => Own.rd ha hw') rfl (by omega)) rfl hS ?_
              refine h_takeg 11 rfl rfl (gT g11_6) (by kernel_rfl) (by kernel_rfl) (by kernel_rfl) (v_ldS (v := v) (off := offV v + k * 1) (k * 1 + 0) (cs := (a.flatMap I1)) rfl (by omega) (fun w' hw' => Own.rd ha hw') (flat_at (sz := 1) (fun _ => rfl) (nth_some (by omega)) (i := 0) rfl) (by kernel_rfl)) rfl hS ?_
              refine h_one 12 (by kernel_rfl) rfl hw ?_
              refine l_on rfl (gT g11_6) ?_
              refine l_call (by kernel_rfl) rfl rfl (fun w' hw => ?_)
              refine (rvoter_s c (nth a k) w' (by first | assumption | omega | (simp <;> omega) | (constructor <;> (first | omega | (simp only [LenOk]; omega) | (simp <;> omega)))) (rd_c.at0 hw)).mono ?_
              rintro _ w1 ⟨rfl, hO⟩
              refine (?_ : CL _ _ _ _ _ _ (Own w [] [Res.row b5 24 (ConfD.cells c), Res.vec 3 1 a1_ vs2_.length (vs2_.flatMap I1), Res.vec 3 1 b3_ ls4_.length (ls4_.flatMap I1), Res.row b11 24 [a1_, b3_], Res.vec 3 1 v38 a.length (a.flatMap I1), Res.vec 3 1 v45 b.length (b.flatMap I1)])) w1 (hw.frame0 hO)
              refine l_nil (fun w' hw => ?_)
              have hS := hw.sel [0, 1, 2, 3, 4, 5] rfl (by decide)
              refine ⟨hS, ?_⟩
              refine h_takeg 13 rfl rfl (gT g11_6) (by kernel_rfl) (by kernel_rfl) (by kernel_rfl) (v_mv) rfl hS ?_
              by_cases g11_13 : c.ok ∧ (nth a k) ∈ c.vs
              ·
                refine h_offg 14 rfl rfl (gT g11_13) rfl (by kernel_rfl) (by kernel_rfl) (by kernel_rfl) rfl hS ?_
                refine h_offg 15 rfl rfl (gT g11_13) rfl (by kernel_rfl) (by kernel_rfl) (by kernel_rfl) rfl hS ?_
                refine h_offg 16 rfl rfl (gT g11_13) rfl (by kernel_rfl) (by kernel_rfl) (by kernel_rfl) rfl hS ?_
                refine h_offg 17 rfl rfl (gT g11_13) rfl (by kernel_rfl) (by kernel_rfl) (by kernel_rfl) rfl hS ?_
                refine h_offg 18 rfl rfl (gT g11_13) rfl (by kernel_rfl) (by kernel_rfl) (by kernel_rfl) rfl hS ?_
                refine h_offg 19 rfl rfl (gT g11_13) rfl (by kernel_rfl) (by kernel_rfl) (by kernel_rfl) rfl hS ?_
                refine h_takeg 20 rfl rfl (gT g11_6) (by kernel_rfl) (by kernel_rfl) (by kernel_rfl) (v_pickT (gT g11_13)) rfl hS ?_
                refine h_take 21 rfl (by kernel_rfl) (by kernel_rfl) (by kernel_rfl) (v_pickT (gT g11_6)) rfl hS ?_
                refine h_done (by kernel_rfl) ?_
                refine (?_ : C _ _ _ _ _ _ _ (Own w [] [Res.row b5 24 (ConfD.cells c), Res.vec 3 1 a1_ vs2_.length (vs2_.flatMap I1), Res.vec 3 1 b3_ ls4_.length (ls4_.flatMap I1), Res.row b11 24 [a1_, b3_], Res.vec 3 1 v38 a.length (a.flatMap I1), Res.vec 3 1 v45 b.length (b.flatMap I1)])) _ hw
                refine c_yes rfl ?_
                refine c_reg ?_
                refine l_as rfl ?_
                refine l_end ?_
                exact c_ret (ret1 (v := .bool true) rfl rfl (fun w' hw => ⟨rfl, hw.drop⟩))
              ·
                refine h_takeg 14 rfl rfl (gF g11_13) (by kernel_rfl) (by kernel_rfl) (by kernel_rfl) (v_ldr (cs := [a1_, b3_]) 3 rfl rfl (by kernel_rfl)) rfl hS ?_
                refine h_takeg 15 rfl rfl (gF g11_13) (by kernel_rfl) (by kernel_rfl) (by kernel_rfl) (v_mv) rfl hS ?_
                refine h_takeg 16 rfl rfl (gF g11_13) (by kernel_rfl) (by kernel_rfl) (by kernel_rfl) (v_mv) rfl hS ?_
                refine h_takeg 17 rfl rfl (gF g11_13) (by kernel_rfl) (by kernel_rfl) (by kernel_rfl) (v_idxS (j := k) (sz := 1) (len := a.length) (cs := (a.flatMap I1)) rfl rfl (by kernel_rfl) (fun w' hw' => Own.rd ha hw') rfl (by omega)) rfl hS ?_
                refine h_takeg 18 rfl rfl (gF g11_13) (by kernel_rfl) (by kernel_rfl) (by kernel_rfl) (v_ldS (v := v) (off := offV v + k * 1) (k * 1 + 0) (cs := (a.flatMap I1)) rfl (by omega) (fun w' hw' => Own.rd ha hw') (flat_at (sz := 1) (fun _ => rfl) (nth_some (by omega)) (i := 0) rfl) (by kernel_rfl)) rfl hS ?_
                refine h_one 19 (by kernel_rfl) rfl hw ?_
                refine l_on rfl (gF g11_13) ?_
                refine l_call (by kernel_rfl) rfl rfl (fun w' hw => ?_)
                refine (rvoter_s ({ vv := a1_, vs := vs2_, lv := b3_, ls := ls4_ } : ConfD) (nth a k) w' (by first | assumption | omega | (simp <;> omega) | (constructor <;> (first | omega | (simp only [LenOk]; omega) | (simp <;> omega)))) ⟨(hw.rdVec0 1 rfl), (hw.rdVec0 2 rfl)⟩).mono ?_
                rintro _ w1 ⟨rfl, hO⟩
                refine (?_ : CL _ _ _ _ _ _ (Own w [] [Res.row b5 24 (ConfD.cells c), Res.vec 3 1 a1_ vs2_.length (vs2_.flatMap I1), Res.vec 3 1 b3_ ls4_.length (ls4_.flatMap I1), Res.row b11 24 [a1_, b3_], Res.vec 3 1 v38 a.length (a.flatMap I1), Res.vec 3 1 v45 b.length (b.flatMap I1)])) w1 (hw.frame0 hO)
                refine l_nil (fun w' hw => ?_)
                have hS := hw.sel [0, 1, 2, 3, 4, 5] rfl (by decide)
                refine ⟨hS, ?_⟩
                refine h_takeg 20 rfl rfl (gT g11_6) (by kernel_rfl) (by kernel_rfl) (by kernel_rfl) (v_pickF (gF g11_13)) rfl hS ?_
                refine h_take 21 rfl (by kernel_rfl) (by kernel_rfl) (by kernel_rfl) (v_pickT (gT g11_6)) rfl hS ?_
                refine h_done (by kernel_rfl) ?_
                refine (?_ : C _ _ _ _ _ _ _ (Own w [] [Res.row b5 24 (ConfD.cells c), Res.vec 3 1 a1_ vs2_.length (vs2_.flatMap I1), Res.vec 3 1 b3_ ls4_.length (ls4_.flatMap I1), Res.row b11 24 [a1_, b3_], Res.vec 3 1 v38 a.length (a.flatMap I1), Res.vec 3 1 v45 b.length (b.flatMap I1)])) _ hw
                refine c_dec rfl (fun c13 => ?_) (fun c13 => ?_)
                ·
                  refine c_reg ?_
                  refine l_as rfl ?_
                  refine l_end ?_
                  exact c_ret (ret1 (v := .bool true) rfl rfl (fun w' hw => ⟨rfl, hw.drop⟩))
                ·
                  refine c_skipC ?_
                  refine c_last ?_
                  refine l_mv rfl ?_
                  refine l_add rfl rfl (wi64 (by omega)) rfl ?_
                  refine l_as rfl ?_
                  exact l_nil (fun w' hw => ⟨k + 1, ⟨rfl, rfl, rfl, rfl, rfl, trivial⟩, ⟨by omega, take_ext hΦ.2 (by omega) (fun h => g11_13 ⟨Decidable.not_not.1 c1, h.2⟩)⟩, hw, (by omega)⟩)
            ·
              refine h_offg 7 rfl rfl (gF g11_6) rfl (by kernel_rfl) (by kernel_rfl) (by kernel_rfl) rfl hS ?_
              refine h_offg 8 rfl rfl (gF g11_6) rfl (by kernel_rfl) (by kernel_rfl) (by kernel_rfl) rfl hS ?_
              refine h_offg 9 rfl rfl (gF g11_6) rfl (by kernel_rfl) (by kernel_rfl) (by kernel_rfl) rfl hS ?_
              refine h_offg 10 rfl rfl (gF g11_6) rfl (by kernel_rfl) (by kernel_rfl) (by kernel_rfl) rfl hS ?_
              refine h_offg 11 rfl rfl (gF g11_6) rfl (by kernel_rfl) (by kernel_rfl) (by kernel_rfl) rfl hS ?_
              refine h_offg 12 rfl rfl (gF g11_6) rfl (by kernel_rfl) (by kernel_rfl) (by kernel_rfl) rfl hS ?_
              refine h_offg 13 rfl rfl (gF g11_6) rfl (by kernel_rfl) (by kernel_rfl) (by kernel_rfl) rfl hS ?_
              refine h_offu 14 rfl rfl rfl (by kernel_rfl) (by kernel_rfl) (by kernel_rfl) rfl hS ?_
              refine h_offu 15 rfl rfl rfl (by kernel_rfl) (by kernel_rfl) (by kernel_rfl) rfl hS ?_
              refine h_offu 16 rfl rfl rfl (by kernel_rfl) (by kernel_rfl) (by kernel_rfl) rfl hS ?_
              refine h_offu 17 rfl rfl rfl (by kernel_rfl) (by kernel_rfl) (by kernel_rfl) rfl hS ?_
              refine h_offu 18 rfl rfl rfl (by kernel_rfl) (by kernel_rfl) (by kernel_rfl) rfl hS ?_
              refine h_offu 19 rfl rfl rfl (by kernel_rfl) (by kernel_rfl) (by kernel_rfl) rfl hS ?_
              refine h_offg 20 rfl rfl (gF g11_6) rfl (by kernel_rfl) (by kernel_rfl) (by kernel_rfl) rfl hS ?_
              refine h_take 21 rfl (by kernel_rfl) (by kernel_rfl) (by kernel_rfl) (v_pickF (gF g11_6)) rfl hS ?_
              refine h_done (by kernel_rfl) ?_
              refine (?_ : C _ _ _ _ _ _ _ (Own w [] [Res.row b5 24 (ConfD.cells c), Res.vec 3 1 a1_ vs2_.length (vs2_.flatMap I1), Res.vec 3 1 b3_ ls4_.length (ls4_.flatMap I1), Res.row b11 24 [a1_, b3_], Res.vec 3 1 v38 a.length (a.flatMap I1), Res.vec 3 1 v45 b.length (b.flatMap I1)])) _ hw
              refine c_no rfl ?_
              refine c_skipC ?_
              refine c_last ?_
              refine l_mv rfl ?_
              refine l_add rfl rfl (wi64 (by omega)) rfl ?_
              refine l_as rfl ?_
              exact l_nil (fun w' hw => ⟨k + 1, ⟨rfl, rfl, rfl, rfl, rfl, trivial⟩, ⟨by omega, take_ext hΦ.2 (by omega) (fun h => g11_6 h.1)⟩, hw, (by omega)⟩)
          ·
            refine c_exitC rfl ?_
            refine c_reg ?_
            refine l_as rfl ?_
            refine l_end ?_
            exact c_ret (ret1 (v := .bool false) rfl rfl (fun w' hw => ⟨(absurd (by obtain ⟨u, p, q, h1, h2, h3, h4, h5⟩ := chg_near (Decidable.not_not.1 c1) ((Decidable.not_not.1 c2) ▸ hf1_6); exact meet_all (a := a) (b := b) h1 h2 h3 h4 h5 (Decidable.not_not.1 g6_6).2 (Decidable.not_not.1 c10).2 (by omega) hΦ.2) (fun h => h)), hw.drop⟩))
namespace confMeets
theorem own : ownKnob Try.prog.godebug = none := by kernel_rfl
theorem laidOut : laidOutB Try.prog = true := by kernel_rfl

theorem contract (H : Type) (enc : TypeId × Value → H) (W : World) (base : Nat) (args : Array Value) (ds gs : List (DataW H)) (before : List MemPlace)
    (hval : ∀ (j : Nat) t v, Try.f6.params[j]? = some t → args[j]? = some v → Value.okWide Try.prog W .any base t v)
    (hW : DataW.Whole enc Try.prog Try.f6.params.toList Rows.confMeetsSpec.vars false W args.toList ds gs before) (hk : Rows.uptoSmall H (ds ++ gs) = true) :
    Calls Try.prog 6 args W fun e W' => ∃ v, e = .returned v ∧ Rows.confMeetsSpec.post enc Try.prog Try.f6 false true false false W args v W' := by
  have hW' := hW
  obtain ⟨p, q, hA0, hV, rfl, hfz, hnd⟩ := hW
  have hA : DataW.TrodAll enc Try.prog W 0 (fun _ => true) true Try.f6.params.toList args.toList ds p := hA0
  rw [Try.params6] at hA hval
  obtain ⟨v0, vs0, d0, ds0, p0, q0, hargs, rfl, rfl, h0, r0⟩ := trodAll_cons hA
  obtain ⟨v1, vs1, d1, ds1, p1, q1, rfl, rfl, rfl, h1, r1⟩ := trodAll_cons r0
  obtain ⟨v2, vs2, d2, ds2, p2, q2, rfl, rfl, rfl, h2, r2⟩ := trodAll_cons r1
  obtain ⟨v3, vs3, d3, ds3, p3, q3, rfl, rfl, rfl, h3, r3⟩ := trodAll_cons r2
  obtain ⟨v4, vs4, d4, ds4, p4, q4, rfl, rfl, rfl, h4, r4⟩ := trodAll_cons r3
  obtain ⟨rfl, rfl, rfl⟩ := trodAll_nil r4
  obtain rfl : args = #[v0, v1, v2, v3, v4] := by cases args; simp_all
  obtain ⟨rfl, rfl⟩ := trodVars_none hV
  have hB : Rows.uptoBulk d0 + Rows.uptoBulk d1 + Rows.uptoBulk d2 + Rows.uptoBulk d3 + Rows.uptoBulk d4 ≤ 1048576 := by
    have := of_decide_eq_true hk
    simp only [List.append_nil, Rows.uptoBulkAll] at this
    omega
  obtain ⟨u0, hf0⟩ := h0
  obtain ⟨a0, e0, w0, z0⟩ := (rdConf W) H enc _ _ _ hf0
  obtain ⟨u1, hf1⟩ := h1
  obtain ⟨a1, e1, w1, z1⟩ := (RdA.byte (W := W) Try.underlying5) H enc _ _ _ hf1
  obtain ⟨u2, hf2⟩ := h2
  obtain ⟨a2, e2, w2, z2⟩ := (RdA.i64 (W := W) Try.underlying3) H enc _ _ _ hf2
  obtain ⟨u3, hf3⟩ := h3
  obtain ⟨a3, e3, w3, z3⟩ := (rdInts W) H enc _ _ _ hf3
  obtain ⟨u4, hf4⟩ := h4
  obtain ⟨a4, e4, w4, z4⟩ := (rdInts W) H enc _ _ _ hf4
  try dsimp only at z0
  try dsimp only at z1
  try dsimp only at z2
  try dsimp only at z3
  try dsimp only at z4
  obtain rfl := arg_struct Try.underlying24 (hval 0 _ v0 rfl rfl) e0
  obtain rfl := arg_int Try.underlying5 (hval 1 _ v1 rfl rfl) e1
  obtain rfl := arg_int Try.underlying3 (hval 2 _ v2 rfl rfl) e2
  obtain rfl := arg_slice Try.underlying22 (hval 3 _ v3 rfl rfl) e3
  obtain rfl := arg_slice Try.underlying22 (hval 4 _ v4 rfl rfl) e4
  refine Calls.mono (confMeets_s a0 a1.toNat a2 a3.1 a3.2 a4.1 a4.2 W ⟨by omega, by omega⟩ a1.toNat_lt (by show _ ≤ _; omega) (by show _ ≤ _; omega) w3 w4 w0) fun e W' he => ?_
  obtain ⟨v, rfl, rfl, hO⟩ := he
  exact ⟨_, rfl, law_post laidOut rfl (fun ds h => by
    rw [Try.params6] at h
    match ds, h with
    | [_, _, _, _, _], _ => rfl) rfl Try.underlying4 (by kernel_rfl) hW' (Own.below hO)⟩

set_option maxRecDepth 100000 in
theorem lifted (os : Os) (started : os.Started) (H : Type) (enc : TypeId × Value → H) (F : Stop.Interp) :
    ReturnsInHanded {} Try.checked os 6 .any ((Rows.OpenSpec.upto Rows.confMeetsSpec).pre6 enc Try.prog Try.f6 Rows.confMeetsUptoRow.domain false) (((Rows.OpenSpec.upto Rows.confMeetsSpec).at F).post enc Try.prog Try.f6 false true false false) := by
  refine returnsInHanded_of_cond (C := Try.checked) (s := Rows.OpenSpec.upto Rows.confMeetsSpec) (k := Rows.uptoSmall) rfl own started (by kernel_rfl) Try.func6
    (OpenSpec.witness (enc := enc) (C := Try.checked) (s := Rows.OpenSpec.upto Rows.confMeetsSpec) (k := Rows.uptoSmall) rfl false ⟨#[], #[.agg #[.slice none 0 0, .slice none 0 0], .int .u8 0, .int .i64 0, .slice none 0 0, .slice none 0 0], []⟩ 8 (by kernel_rfl) (by kernel_rfl) (by kernel_rfl)
      (x := ([.agg [.nil, .nil], .lit (.int .u8 0), .lit (.int .i64 0), .nil, .nil], [], [])) (by kernel_rfl) rfl (by kernel_rfl)) ?_
  intro W base args ds gs before hval hW _ hk _
  exact contract H enc W base args ds gs before hval hW hk

/-- ConfMeets: proved. -/
theorem proved : Rows.ConfMeetsUptoSaid :=
  OpenClaim.holds_of_cond 6 Try.f6 rfl rfl rfl rfl rfl rfl rfl ⟨rfl, rfl, rfl, rfl, rfl⟩ rfl rfl rfl rfl rfl (by kernel_rfl) Try.func6 (by kernel_rfl)
    (of_decide_eq_true (by kernel_rfl)) (by unfold Func.isWrapper; first | (rw [if_pos (by decide +kernel)]; kernel_rfl) | (rw [if_neg (by decide +kernel)]; exact ⟨rfl, rfl⟩))
    (fun os started H enc _ F => lifted os started H enc F)
end confMeets
end Go.Proofs.Ytniiobmkcbeknaa
