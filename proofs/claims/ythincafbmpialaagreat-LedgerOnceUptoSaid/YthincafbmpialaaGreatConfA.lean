/-
  THE WALKS OF the small questions on configurations: lists of numbers that rise, hold a number, are the same.
-/
import Derived.Test.YthincafbmpialaaGreatFwT
import Derived.Test.YthincafbmpialaaGreatChecked
set_option linter.unusedVariables false
set_option maxRecDepth 10000
namespace Go.Proofs.YthincafbmpialaaGreat
open Go Go.Sc Go.Proofs

structure ConfD where
  vv : Value
  vs : List Int
  lv : Value
  ls : List Int
def ConfD.cells (x : ConfD) : List Value := [x.vv, x.lv]
/-- A configuration whose lists are only read. -/
structure ConfD.rd (x : ConfD) (w : World) (S : List Nat) : Prop where
  vv : Rd w S (Res.sl x.vv x.vs.length (x.vs.flatMap I1))
  lv : Rd w S (Res.sl x.lv x.ls.length (x.ls.flatMap I1))
theorem ConfD.rd.at0 {x : ConfD} {w0 w : World} {S : List Nat} {L : List Res} (h : x.rd w0 S) (hw : Own w0 S L w) : x.rd w [] := ⟨hw.rd0 h.vv, hw.rd0 h.lv⟩
theorem ConfD.rd.at {x : ConfD} {w0 w : World} {S : List Nat} {L Lin : List Res} (h : x.rd w0 S) (hw : Own w0 S L w) (m : List Nat) (hm : m.mapM (fun i => L[i]?) = some Lin) : x.rd w (fps Lin) := ⟨hw.rdTo h.vv m hm, hw.rdTo h.lv m hm⟩

def Rises (l : List Int) : Prop := (0 :: l).Pairwise (· < ·) ∧ ∀ x ∈ l, x ≤ 16
instance (l : List Int) : Decidable (Rises l) := inferInstanceAs (Decidable (_ ∧ _))
theorem Rises.take {l : List Int} (h : Rises l) (k : Nat) : Rises (l.take k) :=
  ⟨by have := h.1.take (i := k + 1); simpa using this, fun x hx => h.2 x (List.mem_of_mem_take hx)⟩
theorem rises_snoc {l : List Int} {x : Int} : Rises (l ++ [x]) ↔ Rises l ∧ x ≤ 16 ∧ 1 ≤ x ∧ ∀ y ∈ l, y < x := by
  unfold Rises
  rw [← List.cons_append, List.pairwise_append]
  simp only [List.mem_append, List.mem_cons, List.not_mem_nil, or_false, List.pairwise_cons, List.Pairwise.nil]
  constructor
  · rintro ⟨⟨h1, _, h3⟩, h4⟩
    exact ⟨⟨h1, fun x hx => h4 x (.inl hx)⟩, h4 _ (.inr rfl), by have := h3 0 (.inl rfl) x rfl; omega, fun y hy => h3 y (.inr hy) x rfl⟩
  · rintro ⟨⟨h1, h2⟩, h3, h4, h5⟩
    refine ⟨⟨h1, ⟨by simp, trivial⟩, ?_⟩, ?_⟩
    · rintro a (rfl | ha) b rfl
      · omega
      · exact h5 a ha
    · rintro y (hy | rfl)
      · exact h2 y hy
      · exact h3
theorem rises_step {l : List Int} {k : Nat} (hk : k < l.length) (h : Rises (l.take k)) : Rises (l.take (k + 1)) ↔ nth l k ≤ 16 ∧ 1 ≤ nth l k ∧ (0 < k → nth l (k - 1) < nth l k) := by
  rw [take_nth hk, rises_snoc]
  constructor
  · rintro ⟨_, h1, h2, h3⟩
    refine ⟨h1, h2, fun h0 => h3 _ ?_⟩
    rw [List.mem_iff_getElem?]
    exact ⟨k - 1, by rw [List.getElem?_take, if_pos (by omega)]; exact nth_some (by omega)⟩
  · rintro ⟨h1, h2, h3⟩
    refine ⟨h, h1, h2, fun y hy => ?_⟩
    obtain ⟨i, hi⟩ := List.mem_iff_getElem?.1 hy
    rw [List.getElem?_take] at hi
    split at hi
    · rename_i hik
      have e := nth_eq hi
      by_cases hlast : i = k - 1
      · subst hlast; rw [← e]; exact h3 (by omega)
      · have h4 := h3 (by omega)
        have h5 := h.1
        rw [List.pairwise_cons] at h5
        have h6 := List.pairwise_iff_getElem.1 h5.2 i (k - 1) (by simp; omega) (by simp; omega) (by omega)
        rw [List.getElem_take, List.getElem_take] at h6
        have e1 := nth_eq (List.getElem?_eq_getElem (l := l) (i := i) (by omega))
        have e2 := nth_eq (List.getElem?_eq_getElem (l := l) (i := k - 1) (by omega))
        rw [← e1, ← e2, e] at h6
        omega
    · cases hi
theorem not_rises {l : List Int} {k : Nat} (hk : k < l.length) (h : ¬ (nth l k ≤ 16 ∧ 1 ≤ nth l k ∧ (0 < k → nth l (k - 1) < nth l k))) : ¬ Rises l := fun hr => h ((rises_step hk (hr.take k)).1 (hr.take (k + 1)))
theorem rises_nil : Rises [] := ⟨by simp, by simp⟩

theorem has_spec (v : Value) (l : List Int) (n : Int) (w : World) (hl : LenOk l.length) (hv : Rd w [] (Res.sl v l.length (l.flatMap I1))) : Rets Tryz.prog 152 #[v, Vi n] w fun u_ w' => u_ = .bool (decide (n ∈ l)) ∧ Own w [] [] w' := by
  refine fn_own Tryz.func152 rfl Tryz.ntmps152 (Own.start w) ?_
  refine c_reg (l_as rfl (l_end (c_seq (c_reg (l_as rfl (l_end (c_block ?_)))))))
  refine c_loop1 (fun (k : Nat) => [(0, v), (1, Vi n), (5, Vj k)]) (fun (k : Nat) => k ≤ l.length ∧ n ∉ l.take k) (fun (k : Nat) => []) (fun (k : Nat) => l.length - k) (fun w' hw => ⟨0, ⟨rfl, rfl, rfl, trivial⟩, ⟨Nat.zero_le _, by simp⟩, hw⟩) (fun k g hΦ => ?_)
  refine c_seq (c_reg (l_mv rfl (l_mv rfl (a_lenP (pR hv) rfl rfl (l_lss rfl rfl rfl (l_end (c_dec rfl (fun c1 => ?_) (fun c1 => ?_))))))))
  ·
   refine c_skipC (c_seq (c_block (c_reg (l_mv rfl (l_mv rfl (a_idxP (pR hv) 1 k rfl rfl rfl (by omega) rfl (a_ldP (pR hv) 1 k 0 (fun _ => rfl) rfl rfl (by omega) rfl rfl (l_mv rfl (l_eq rfl rfl rfl (l_end (c_dec rfl (fun c2 => ?_) (fun c2 => ?_))))))))))))
   ·
    refine c_reg (l_as rfl (l_end ?_))
    exact c_ret (ret1 (v := .bool true) rfl rfl (fun w' hw => ⟨(by rw [decide_eq_true]; exact c2 ▸ nth_mem (by omega)), hw.drop⟩))
   ·
    refine c_skipC (c_last (l_mv rfl (l_add rfl rfl (wi64 (by omega)) rfl (l_as rfl ?_))))
    exact l_nil (fun w' hw => ⟨k + 1, ⟨rfl, rfl, rfl, trivial⟩, ⟨by omega, by rw [take_nth (by omega)]; simp; exact ⟨hΦ.2, fun e => c2 e.symm⟩⟩, hw, (by omega)⟩)
  ·
   refine c_exitC rfl (c_reg (l_as rfl (l_end ?_)))
   exact c_ret (ret1 (v := .bool false) rfl rfl (fun w' hw => ⟨(by rw [decide_eq_false]; have h := hΦ.2; rwa [List.take_of_length_le (by omega)] at h), hw.drop⟩))

theorem rising_spec (v : Value) (l : List Int) (w : World) (hl : LenOk l.length) (hv : Rd w [] (Res.sl v l.length (l.flatMap I1))) : Rets Tryz.prog 153 #[v] w fun u_ w' => u_ = .bool (decide (Rises l)) ∧ Own w [] [] w' := by
  refine fn_own Tryz.func153 rfl Tryz.ntmps153 (Own.start w) ?_
  refine c_reg (l_as rfl (l_end (c_seq (c_reg (l_as rfl (l_end (c_block ?_)))))))
  refine c_loop1 (fun (k : Nat) => [(0, v), (3, Vj k)]) (fun (k : Nat) => k ≤ l.length ∧ Rises (l.take k)) (fun (k : Nat) => []) (fun (k : Nat) => l.length - k) (fun w' hw => ⟨0, ⟨rfl, rfl, trivial⟩, ⟨Nat.zero_le _, by simpa using rises_nil⟩, hw⟩) (fun k g hΦ => ?_)
  refine c_seq (c_reg (l_mv rfl (l_mv rfl (a_lenP (pR hv) rfl rfl (l_lss rfl rfl rfl (l_end (c_dec rfl (fun c1 => ?_) (fun c1 => ?_))))))))
  ·
   refine c_skipC (c_seq (c_block (c_quiets (by kernel_rfl) (by kernel_rfl) (q_val rfl (v_mv) (q_val rfl (v_mv) (q_val rfl (w_idxP (pR hv) 1 k rfl rfl rfl (by omega)) (q_val rfl (w_ldP (pR hv) 1 k 0 (fun _ => rfl) rfl rfl (by omega) rfl) (q_val rfl (v_lss rfl rfl) (q_val rfl (v_mv) (q_bor (q := (nth l k) < 1) 5 5 [20, 19, 18, 17, 16] (16 < (nth l k)) rfl rfl rfl rfl rfl rfl trivial rfl (fun h4_5 => ?_) (fun g4_11 => ?_)))))))))))
   ·
    refine q_on rfl (gF h4_5) (q_val rfl (v_mv) (q_on rfl (gF h4_5) (q_val rfl (v_mv) (q_on rfl (gF h4_5) (q_val rfl (w_idxP (pR hv) 1 k rfl rfl rfl (by omega)) (q_on rfl (gF h4_5) (q_val rfl (w_ldP (pR hv) 1 k 0 (fun _ => rfl) rfl rfl (by omega) rfl) (q_on rfl (gF h4_5) (q_val rfl (v_gtr rfl rfl) ?_)))))))))
    exact q_gp rfl
   refine q_val rfl (v_mv) (q_bor (q := ((nth l k) < 1) ∨ (16 < (nth l k))) 14 12 [36, 35, 34, 33, 32, 31, 30, 29, 28, 27, 26, 25, 24, 23] ((0 < ((k : Nat) : Int)) ∧ ((nth l k) ≤ (nth l (k - 1)))) rfl rfl rfl rfl rfl rfl trivial rfl (fun h4_12 => ?_) (fun g4_27 => ?_))
   ·
    refine q_on rfl (gF h4_12) (q_val rfl (v_mv) (q_on rfl (gF h4_12) (q_val rfl (v_gtr rfl rfl) (q_on rfl (gF h4_12) (q_val rfl (v_mv) (q_band (q := 0 < ((k : Nat) : Int)) 10 15 [35, 34, 33, 32, 31, 30, 29, 28, 27, 26] ((nth l k) ≤ (nth l (k - 1))) rfl rfl rfl rfl rfl rfl ⟨_, rfl, rfl, gF h4_12⟩ rfl (fun h4_15 => ?_) (fun g4_26 => ?_)))))))
    ·
     refine q_on rfl (gT h4_15) (q_val rfl (v_mv) (q_on rfl (gT h4_15) (q_val rfl (v_mv) (q_on rfl (gT h4_15) (q_val rfl (v_sub rfl rfl (wi64 (by omega))) (q_on rfl (gT h4_15) (q_val rfl (w_idxP (pR hv) 1 (k - 1) rfl rfl (by omega) (by omega)) (q_on rfl (gT h4_15) (q_val rfl (w_ldP (pR hv) 1 (k - 1) 0 (fun _ => rfl) rfl rfl (by omega) rfl) (q_on rfl (gT h4_15) (q_val rfl (v_mv) (q_on rfl (gT h4_15) ?_))))))))))))
     refine q_val rfl (v_mv) (q_on rfl (gT h4_15) (q_val rfl (w_idxP (pR hv) 1 k rfl rfl rfl (by omega)) (q_on rfl (gT h4_15) (q_val rfl (w_ldP (pR hv) 1 k 0 (fun _ => rfl) rfl rfl (by omega) rfl) (q_on rfl (gT h4_15) (q_val rfl (v_geq rfl rfl) ?_))))))
     exact q_gp rfl
    exact q_gp rfl
   refine q_end (c_dec rfl (fun c2 => ?_) (fun c2 => ?_))
   ·
    refine c_reg (l_as rfl (l_end ?_))
    exact c_ret (ret1 (v := .bool false) rfl rfl (fun w' hw => ⟨(by rw [decide_eq_false]; exact not_rises (k := k) (by omega) (by omega)), hw.drop⟩))
   ·
    refine c_skipC (c_last (l_mv rfl (l_add rfl rfl (wi64 (by omega)) rfl (l_as rfl ?_))))
    exact l_nil (fun w' hw => ⟨k + 1, ⟨rfl, rfl, trivial⟩, ⟨by omega, (rises_step (by omega) hΦ.2).2 (by omega)⟩, hw, (by omega)⟩)
  ·
   refine c_exitC rfl (c_reg (l_as rfl (l_end ?_)))
   exact c_ret (ret1 (v := .bool true) rfl rfl (fun w' hw => ⟨(by rw [decide_eq_true]; have h := hΦ.2; rwa [List.take_of_length_le (by omega)] at h), hw.drop⟩))

theorem rises_spec (v : Value) (l : List Int) (w : World) (hl : LenOk l.length) (hv : Rd w [] (Res.sl v l.length (l.flatMap I1))) : Rets Tryz.prog 174 #[v] w fun u_ w' => u_ = .bool (decide (Rises l)) ∧ Own w [] [] w' := by
  refine fn_own Tryz.func174 rfl Tryz.ntmps174 (Own.start w) ?_
  refine c_reg (l_as rfl (l_end (c_seq (c_reg (l_mv rfl (a_lenP (pR hv) rfl rfl (l_mv rfl (l_end (c_block ?_)))))))))
  refine c_loop1 (fun (k : Nat) => [(0, v), (5, v), (6, Vj l.length), (7, Vj k)]) (fun (k : Nat) => k ≤ l.length ∧ Rises (l.take k)) (fun (k : Nat) => []) (fun (k : Nat) => l.length - k) (fun w' hw => ⟨0, ⟨rfl, rfl, rfl, rfl, trivial⟩, ⟨Nat.zero_le _, by simpa using rises_nil⟩, hw⟩) (fun k g hΦ => ?_)
  refine c_reg (l_lss rfl rfl rfl (l_end (c_seq (c_dec rfl (fun c1 => ?_) (fun c1 => ?_)))))
  ·
   refine c_skipC (c_seq (c_block (c_reg (l_mv rfl (a_idxP (pR hv) 1 k rfl rfl rfl (by omega) rfl (a_ldP (pR hv) 1 k 0 (fun _ => rfl) rfl rfl (by omega) rfl rfl (l_as rfl (l_as rfl (l_end (c_reg (l_mv rfl (l_lss rfl rfl rfl ?_))))))))))))
   refine l_mv rfl (l_bor (q := (nth l k) < 1) 2 2 [16, 15] (16 < (nth l k)) rfl rfl rfl rfl rfl rfl trivial rfl (fun h4_2 => ?_) (fun g4_5 => ?_))
   ·
    refine l_on rfl (gF h4_2) (l_mv rfl (l_on rfl (gF h4_2) (l_gtr rfl rfl rfl ?_)))
    exact l_gp rfl (fun _ hw => hw)
   refine l_mv rfl (l_bor (q := ((nth l k) < 1) ∨ (16 < (nth l k))) 11 6 [29, 28, 27, 26, 25, 24, 23, 22, 21, 20, 19] ((0 < ((k : Nat) : Int)) ∧ ((nth l k) ≤ (nth l (k - 1)))) rfl rfl rfl rfl rfl rfl trivial rfl (fun h4_6 => ?_) (fun g4_18 => ?_))
   ·
    refine l_on rfl (gF h4_6) (l_mv rfl (l_on rfl (gF h4_6) (l_gtr rfl rfl rfl (l_on rfl (gF h4_6) (l_mv rfl (l_band (q := 0 < ((k : Nat) : Int)) 7 9 [28, 27, 26, 25, 24, 23, 22] ((nth l k) ≤ (nth l (k - 1))) rfl rfl rfl rfl rfl rfl ⟨_, rfl, rfl, gF h4_6⟩ rfl (fun h4_9 => ?_) (fun g4_17 => ?_)))))))
    ·
     refine l_on rfl (gT h4_9) (l_mv rfl (l_on rfl (gT h4_9) (l_mv rfl (l_on rfl (gT h4_9) (l_mv rfl (l_on rfl (gT h4_9) (l_sub rfl rfl (wi64 (by omega)) rfl (l_on rfl (gT h4_9) (a_idxP (pR hv) 1 (k - 1) rfl rfl (by omega) (by omega) rfl (l_on rfl (gT h4_9) (a_ldP (pR hv) 1 (k - 1) 0 (fun _ => rfl) rfl rfl (by omega) rfl rfl (l_on rfl (gT h4_9) ?_))))))))))))
     refine l_leq rfl rfl rfl ?_
     exact l_gp rfl (fun _ hw => hw)
    exact l_gp rfl (fun _ hw => hw)
   refine l_end (c_dec rfl (fun c2 => ?_) (fun c2 => ?_))
   ·
    refine c_reg (l_as rfl (l_end ?_))
    exact c_ret (ret1 (v := .bool false) rfl rfl (fun w' hw => ⟨(by rw [decide_eq_false]; exact not_rises (k := k) (by omega) (by omega)), hw.drop⟩))
   ·
    refine c_skipC (c_last (l_add rfl rfl (wi64 (by omega)) rfl (l_mv rfl ?_)))
    exact l_nil (fun w' hw => ⟨k + 1, ⟨rfl, rfl, rfl, rfl, trivial⟩, ⟨by omega, (rises_step (by omega) hΦ.2).2 (by omega)⟩, hw, (by omega)⟩)
  ·
   refine c_exitC rfl (c_reg (l_as rfl (l_end ?_)))
   exact c_ret (ret1 (v := .bool true) rfl rfl (fun w' hw => ⟨(by rw [decide_eq_true]; have h := hΦ.2; rwa [List.take_of_length_le (by omega)] at h), hw.drop⟩))

-- no function scupper/scupperref03.SameInts

-- no function scupper/scupperref03.SameConf

structure ConfD.wf (x : ConfD) : Prop where
  vs : LenOk x.vs.length
  ls : LenOk x.ls.length
def ConfD.ok (x : ConfD) : Prop := ((Rises x.vs ∧ Rises x.ls) ∧ 0 < x.vs.length) ∧ ∀ v ∈ x.vs, v ∉ x.ls
instance (x : ConfD) : Decidable x.ok := inferInstanceAs (Decidable ((_ ∧ _) ∧ _))

theorem confOK_spec (c : ConfD) (w : World) (hc : c.wf) (rd_c : ConfD.rd c w []) : Rets Tryz.prog 130 #[.agg (ConfD.cells c).toArray] w fun u_ w' => u_ = .bool (decide c.ok) ∧ Own w [] [] w' := by
  have hv := hc.vs
  have hl := hc.ls
  refine fn_own Tryz.func130 rfl Tryz.ntmps130 (Own.start w) ?_
  refine c_reg (l_box rfl rfl (fun b1 => l_as rfl (l_end (c_seq (c_reg (l_as rfl (l_end (c_block ?_))))))))
  refine c_loop1 (fun (k : Nat) => [(1, .pointer (some ⟨b1, 0, none⟩)), (3, Vj k)]) (fun (k : Nat) => k ≤ c.vs.length ∧ ∀ v ∈ c.vs.take k, v ∉ c.ls) (fun (k : Nat) => [Res.row b1 166 (ConfD.cells c)]) (fun (k : Nat) => c.vs.length - k) (fun w' hw => ⟨0, ⟨rfl, rfl, trivial⟩, ⟨Nat.zero_le _, by simp⟩, hw⟩) (fun k g hΦ => ?_)
  refine c_seq (c_reg (l_mv rfl (a_fld (o := 0) rfl rfl (a_ldo 0 (v := c.vv) rfl rfl rfl rfl (a_lenP (pR rd_c.vv) rfl rfl (l_lss rfl rfl rfl (l_end (c_dec rfl (fun c1 => ?_) (fun c1 => ?_)))))))))
  ·
   refine c_skipC (c_seq (c_block (c_seq (c_heldo [0] rfl (by decide) (by kernel_rfl) (fun w' hw hS => g_tk 0 rfl (w_fld (o := 1) rfl) hS (g_tk 1 rfl (w_ldo 0 (v := c.lv) rfl rfl rfl) hS (g_tk 2 rfl (w_fld (o := 0) rfl) hS (g_tk 3 rfl (w_ldo 0 (v := c.vv) rfl rfl rfl) hS (g_tk 4 rfl (v_mv) hS (g_tk 5 rfl (w_idxP (pR rd_c.vv) 1 k rfl rfl rfl (by omega)) hS (g_tk 6 rfl (w_ldP (pR rd_c.vv) 1 k 0 (fun _ => rfl) rfl rfl (by omega) rfl) hS (g_one 7 rfl hw ?_))))))))))))
   refine a_call rfl rfl (fun w' hw => (has_spec c.lv c.ls (nth c.vs k) w' (by first | assumption | omega | (simp <;> omega) | (constructor <;> (first | omega | (simp only [LenOk]; omega) | (simp <;> omega)))) (hw.rd0 rd_c.lv)).mono ?_)
   rintro _ w1 ⟨rfl, hO⟩
   refine (?_ : CL _ _ _ _ _ _ (Own w [] [Res.row b1 166 (ConfD.cells c)])) w1 (hw.frame0 hO)
   refine l_nilH [0] rfl (by decide) (fun w' hw hS => g_done ?_)
   refine (?_ : C _ _ _ _ _ _ _ (Own w [] [Res.row b1 166 (ConfD.cells c)])) _ hw
   refine c_dec rfl (fun c2 => ?_) (fun c2 => ?_)
   ·
    refine c_reg (l_as rfl (l_end ?_))
    exact c_ret (ret1 (v := .bool false) rfl rfl (fun w' hw => ⟨(by rw [decide_eq_false]; intro h; exact h.2 _ (nth_mem (by omega)) c2), hw.drop⟩))
   ·
    refine c_skipC (c_last (l_mv rfl (l_add rfl rfl (wi64 (by omega)) rfl (l_as rfl ?_))))
    exact l_nil (fun w' hw => ⟨k + 1, ⟨rfl, rfl, trivial⟩, ⟨by omega, by rw [take_nth (by omega)]; intro v hv; rcases List.mem_append.1 hv with h | h; exact hΦ.2 v h; simp at h; rw [h]; exact c2⟩, hw, (by omega)⟩)
  ·
   refine c_exitC rfl (c_reg (a_fld (o := 0) rfl rfl (a_ldo 0 (v := c.vv) rfl rfl rfl rfl (a_call rfl rfl (fun w' hw => (rising_spec c.vv c.vs w' (by first | assumption | omega | (simp <;> omega) | (constructor <;> (first | omega | (simp only [LenOk]; omega) | (simp <;> omega)))) (hw.rd0 rd_c.vv)).mono ?_)))))
   rintro _ w1 ⟨rfl, hO⟩
   refine (?_ : CL _ _ _ _ _ _ (Own w [] [Res.row b1 166 (ConfD.cells c)])) w1 (hw.frame0 hO)
   refine l_mv rfl (l_band (q := Rises c.vs) 3 3 [25, 24, 23] (Rises c.ls) rfl rfl rfl rfl rfl rfl trivial rfl (fun h6_3 => ?_) (fun g6_7 => ?_))
   ·
    refine l_on rfl (gT h6_3) (a_fld (o := 1) rfl rfl (l_on rfl (gT h6_3) (a_ldo 0 (v := c.lv) rfl rfl rfl rfl (l_on rfl (gT h6_3) (a_call rfl rfl (fun w' hw => (rising_spec c.lv c.ls w' (by first | assumption | omega | (simp <;> omega) | (constructor <;> (first | omega | (simp only [LenOk]; omega) | (simp <;> omega)))) (hw.rd0 rd_c.lv)).mono ?_))))))
    rintro _ w1 ⟨rfl, hO⟩
    refine (?_ : CL _ _ _ _ _ _ (Own w [] [Res.row b1 166 (ConfD.cells c)])) w1 (hw.frame0 hO)
    exact l_gp rfl (fun _ hw => hw)
   refine l_mv rfl (l_band (q := (Rises c.vs) ∧ (Rises c.ls)) 4 8 [31, 30, 29, 28] (0 < ((c.vs.length : Nat) : Int)) rfl rfl rfl rfl rfl rfl trivial rfl (fun h6_8 => ?_) (fun g6_13 => ?_))
   ·
    refine l_on rfl (gT h6_8) (a_fld (o := 0) rfl rfl (l_on rfl (gT h6_8) (a_ldo 0 (v := c.vv) rfl rfl rfl rfl (l_on rfl (gT h6_8) (a_lenP (pR rd_c.vv) rfl rfl (l_on rfl (gT h6_8) (l_gtr rfl rfl rfl ?_)))))))
    exact l_gp rfl (fun _ hw => hw)
   refine l_as rfl (l_end ?_)
   exact c_ret (ret1 (v := .bool (decide (((Rises c.vs) ∧ (Rises c.ls)) ∧ (0 < ((c.vs.length : Nat) : Int))))) rfl rfl (fun w' hw => ⟨(by congr 1; exact decide_eq_decide.2 (by unfold ConfD.ok; have h := hΦ.2; rw [List.take_of_length_le (by omega)] at h; exact ⟨fun q => ⟨⟨q.1, by have := q.2; omega⟩, h⟩, fun q => ⟨q.1.1, by have := q.1.2; omega⟩⟩)), hw.drop⟩))

theorem idx_spec (v : Value) (l : List Int) (n : Int) (w : World) (hl : LenOk l.length) (hv : Rd w [] (Res.sl v l.length (l.flatMap I1))) : Rets Tryz.prog 195 #[v, Vi n] w fun u_ w' => ∃ (i : Int), u_ = Vi i ∧ (0 ≤ i ↔ n ∈ l) ∧ Own w [] [] w' := by
  refine fn_own Tryz.func195 rfl Tryz.ntmps195 (Own.start w) ?_
  refine c_reg (l_as rfl (l_end (c_seq (c_reg (l_mv rfl (a_lenP (pR hv) rfl rfl (l_mv rfl (l_end (c_block ?_)))))))))
  refine c_loop1 (fun (k : Nat) => [(0, v), (1, Vi n), (7, Vj l.length), (8, Vj k)]) (fun (k : Nat) => k ≤ l.length ∧ n ∉ l.take k) (fun (k : Nat) => []) (fun (k : Nat) => l.length - k) (fun w' hw => ⟨0, ⟨rfl, rfl, rfl, rfl, trivial⟩, ⟨Nat.zero_le _, by simp⟩, hw⟩) (fun k g hΦ => ?_)
  refine c_reg (l_lss rfl rfl rfl (l_end (c_seq (c_dec rfl (fun c1 => ?_) (fun c1 => ?_)))))
  ·
   refine c_skipC (c_seq (c_block (c_reg (l_mv rfl (l_as rfl (l_end (c_reg (l_mv rfl (l_mv rfl (l_mv rfl (a_idxP (pR hv) 1 k rfl rfl rfl (by omega) rfl (a_ldP (pR hv) 1 k 0 (fun _ => rfl) rfl rfl (by omega) rfl rfl ?_))))))))))))
   refine l_eq rfl rfl rfl (l_end (c_dec rfl (fun c2 => ?_) (fun c2 => ?_)))
   ·
    refine c_reg (l_mv rfl (l_as rfl (l_end ?_)))
    exact c_ret (ret1 (v := Vj k) rfl rfl (fun w' hw => ⟨k, rfl, ⟨fun _ => c2 ▸ nth_mem (by omega), fun _ => by omega⟩, hw.drop⟩))
   ·
    refine c_skipC (c_last (l_add rfl rfl (wi64 (by omega)) rfl (l_mv rfl ?_)))
    exact l_nil (fun w' hw => ⟨k + 1, ⟨rfl, rfl, rfl, rfl, trivial⟩, ⟨by omega, by rw [take_nth (by omega)]; simp; exact ⟨hΦ.2, fun e => c2 e⟩⟩, hw, (by omega)⟩)
  ·
   refine c_exitC rfl (c_reg (l_as rfl (l_end ?_)))
   exact c_ret (ret1 (v := Vi (-1)) rfl rfl (fun w' hw => ⟨-1, rfl, ⟨fun h => by omega, fun h => by have h2 := hΦ.2; rw [List.take_of_length_le (by omega)] at h2; exact absurd h h2⟩, hw.drop⟩))
theorem contains_spec (v : Value) (l : List Int) (n : Int) (w : World) (hl : LenOk l.length) (hv : Rd w [] (Res.sl v l.length (l.flatMap I1))) : Rets Tryz.prog 177 #[v, Vi n] w fun u_ w' => u_ = .bool (decide (n ∈ l)) ∧ Own w [] [] w' := by
  refine fn_own Tryz.func177 rfl Tryz.ntmps177 (Own.start w) ?_
  refine c_reg (l_as rfl (l_end (c_reg (l_mv rfl (l_mv rfl (a_call rfl rfl (fun w' hw => (idx_spec v l n w' (by first | assumption | omega | (simp <;> omega) | (constructor <;> (first | omega | (simp only [LenOk]; omega) | (simp <;> omega)))) (hw.rd0 hv)).mono ?_)))))))
  rintro _ w1 ⟨i1_, rfl, hf1_2, hO⟩
  refine (?_ : CL _ _ _ _ _ _ (Own w [] [])) w1 (hw.frame0 hO)
  refine l_geq rfl rfl rfl (l_as rfl (l_end ?_))
  exact c_ret (ret1 (v := .bool (decide (0 ≤ i1_))) rfl rfl (fun w' hw => ⟨(by congr 1; exact decide_eq_decide.2 (by omega)), hw.drop⟩))
theorem confs11_spec (n : Int) (cb : Nat) (c : ConfD) (w : World) (hc : c.wf) (hcb : Rd w [] (Res.row cb 166 (ConfD.cells c))) (rd_c : ConfD.rd c w []) : Rets Tryz.prog 176 #[Vi n, .pointer (some ⟨cb, 0, none⟩)] w fun u_ w' => u_ = .bool (decide (n ∈ c.ls)) ∧ Own w [] [] w' := by
  have hv := hc.vs
  have hl := hc.ls
  refine fn_own Tryz.func176 rfl Tryz.ntmps176 (Own.start w) ?_
  refine c_reg (l_as rfl (l_end (c_reg (a_fld (o := 1) rfl rfl (l_ldq (v := c.lv) rfl (hcb.φ.cell rfl) (hcb.far _ (by simp [Res.row])) (by kernel_rfl) rfl (l_mv rfl (a_call rfl rfl (fun w' hw => (contains_spec c.lv c.ls n w' (by first | assumption | omega | (simp <;> omega) | (constructor <;> (first | omega | (simp only [LenOk]; omega) | (simp <;> omega)))) (hw.rd0 rd_c.lv)).mono ?_))))))))
  rintro _ w1 ⟨rfl, hO⟩
  refine (?_ : CL _ _ _ _ _ _ (Own w [] [])) w1 (hw.frame0 hO)
  refine l_as rfl (l_end ?_)
  exact c_ret (ret1 (v := .bool (decide (n ∈ c.ls))) rfl rfl (fun w' hw => ⟨rfl, hw.drop⟩))
theorem idxFunc_spec (v : Value) (l : List Int) (cb : Nat) (c : ConfD) (w : World) (hl : LenOk l.length) (hc : c.wf) (hcb : Rd w [] (Res.row cb 166 (ConfD.cells c))) (rd_c : ConfD.rd c w []) (hv : Rd w [] (Res.sl v l.length (l.flatMap I1))) : Rets Tryz.prog 194 #[v, .func (.func 176) #[] #[.pointer (some ⟨cb, 0, none⟩)]] w fun u_ w' => ∃ (i : Int), u_ = Vi i ∧ (0 ≤ i ↔ ∃ q ∈ l, q ∈ c.ls) ∧ Own w [] [] w' := by
  refine fn_own Tryz.func194 rfl Tryz.ntmps194 (Own.start w) ?_
  refine c_reg (l_as rfl (l_end (c_seq (c_reg (l_mv rfl (a_lenP (pR hv) rfl rfl (l_mv rfl (l_end (c_block ?_)))))))))
  refine c_loop1 (fun (k : Nat) => [(0, v), (1, .func (.func 176) #[] #[.pointer (some ⟨cb, 0, none⟩)]), (7, Vj l.length), (8, Vj k)]) (fun (k : Nat) => k ≤ l.length ∧ ∀ v ∈ l.take k, v ∉ c.ls) (fun (k : Nat) => []) (fun (k : Nat) => l.length - k) (fun w' hw => ⟨0, ⟨rfl, rfl, rfl, rfl, trivial⟩, ⟨Nat.zero_le _, by simp⟩, hw⟩) (fun k g hΦ => ?_)
  refine c_reg (l_lss rfl rfl rfl (l_end (c_seq (c_dec rfl (fun c1 => ?_) (fun c1 => ?_)))))
  ·
   refine c_skipC (c_seq (c_block (c_reg (l_mv rfl (l_as rfl (l_end (c_reg (l_mv rfl (l_mv rfl (l_mv rfl (a_idxP (pR hv) 1 k rfl rfl rfl (by omega) rfl (a_ldP (pR hv) 1 k 0 (fun _ => rfl) rfl rfl (by omega) rfl rfl ?_))))))))))))
   refine l_callv (fst := []) (cap := [.pointer (some ⟨cb, 0, none⟩)]) rfl (by kernel_rfl) rfl rfl (fun w' hw => (confs11_spec (nth l k) cb c w' ‹_› (hw.rd0 hcb) (rd_c.at0 hw)).mono ?_)
   rintro _ w1 ⟨rfl, hO⟩
   refine (?_ : CL _ _ _ _ _ _ (Own w [] [])) w1 (hw.frame0 hO)
   refine l_end (c_dec rfl (fun c2 => ?_) (fun c2 => ?_))
   ·
    refine c_reg (l_mv rfl (l_as rfl (l_end ?_)))
    exact c_ret (ret1 (v := Vj k) rfl rfl (fun w' hw => ⟨k, rfl, ⟨fun _ => ⟨_, nth_mem (by omega), c2⟩, fun _ => by omega⟩, hw.drop⟩))
   ·
    refine c_skipC (c_last (l_add rfl rfl (wi64 (by omega)) rfl (l_mv rfl ?_)))
    exact l_nil (fun w' hw => ⟨k + 1, ⟨rfl, rfl, rfl, rfl, trivial⟩, ⟨by omega, by rw [take_nth (by omega)]; intro v hv; rcases List.mem_append.1 hv with h | h; exact hΦ.2 v h; simp at h; rw [h]; exact c2⟩, hw, (by omega)⟩)
  ·
   refine c_exitC rfl (c_reg (l_as rfl (l_end ?_)))
   exact c_ret (ret1 (v := Vi (-1)) rfl rfl (fun w' hw => ⟨-1, rfl, ⟨fun h => by omega, fun ⟨v, h, h'⟩ => by have h2 := hΦ.2; rw [List.take_of_length_le (by omega)] at h2; exact absurd h' (h2 v h)⟩, hw.drop⟩))
theorem containsFunc_spec (v : Value) (l : List Int) (cb : Nat) (c : ConfD) (w : World) (hl : LenOk l.length) (hc : c.wf) (hcb : Rd w [] (Res.row cb 166 (ConfD.cells c))) (rd_c : ConfD.rd c w []) (hv : Rd w [] (Res.sl v l.length (l.flatMap I1))) : Rets Tryz.prog 175 #[v, .func (.func 176) #[] #[.pointer (some ⟨cb, 0, none⟩)]] w fun u_ w' => u_ = .bool (decide (∃ q ∈ l, q ∈ c.ls)) ∧ Own w [] [] w' := by
  refine fn_own Tryz.func175 rfl Tryz.ntmps175 (Own.start w) ?_
  refine c_reg (l_as rfl (l_end (c_reg (l_mv rfl (l_mv rfl (a_call rfl rfl (fun w' hw => (idxFunc_spec v l cb c w' (by first | assumption | omega | (simp <;> omega) | (constructor <;> (first | omega | (simp only [LenOk]; omega) | (simp <;> omega)))) ‹_› (hw.rd0 hcb) (rd_c.at0 hw) (hw.rd0 hv)).mono ?_)))))))
  rintro _ w1 ⟨i1_, rfl, hf1_2, hO⟩
  refine (?_ : CL _ _ _ _ _ _ (Own w [] [])) w1 (hw.frame0 hO)
  refine l_geq rfl rfl rfl (l_as rfl (l_end ?_))
  exact c_ret (ret1 (v := .bool (decide (0 ≤ i1_))) rfl rfl (fun w' hw => ⟨(by congr 1; exact decide_eq_decide.2 (by omega)), hw.drop⟩))
theorem confSound_spec (c : ConfD) (w : World) (hc : c.wf) (rd_c : ConfD.rd c w []) : Rets Tryz.prog 173 #[.agg (ConfD.cells c).toArray] w fun u_ w' => u_ = .bool (decide c.ok) ∧ Own w [] [] w' := by
  have hv := hc.vs
  have hl := hc.ls
  refine fn_own Tryz.func173 rfl Tryz.ntmps173 (Own.start w) ?_
  refine c_reg (l_box rfl rfl (fun b1 => l_as rfl (l_end (c_reg (a_fld (o := 0) rfl rfl (a_ldo 0 (v := c.vv) rfl rfl rfl rfl (a_call rfl rfl (fun w' hw => (rises_spec c.vv c.vs w' (by first | assumption | omega | (simp <;> omega) | (constructor <;> (first | omega | (simp only [LenOk]; omega) | (simp <;> omega)))) (hw.rd0 rd_c.vv)).mono ?_))))))))
  rintro _ w1 ⟨rfl, hO⟩
  refine (?_ : CL _ _ _ _ _ _ (Own w [] [Res.row b1 166 (ConfD.cells c)])) w1 (hw.frame0 hO)
  refine l_mv rfl (l_band (q := Rises c.vs) 3 3 [9, 8, 7] (Rises c.ls) rfl rfl rfl rfl rfl rfl trivial rfl (fun h1_3 => ?_) (fun g1_7 => ?_))
  ·
   refine l_on rfl (gT h1_3) (a_fld (o := 1) rfl rfl (l_on rfl (gT h1_3) (a_ldo 0 (v := c.lv) rfl rfl rfl rfl (l_on rfl (gT h1_3) (a_call rfl rfl (fun w' hw => (rises_spec c.lv c.ls w' (by first | assumption | omega | (simp <;> omega) | (constructor <;> (first | omega | (simp only [LenOk]; omega) | (simp <;> omega)))) (hw.rd0 rd_c.lv)).mono ?_))))))
   rintro _ w1 ⟨rfl, hO⟩
   refine (?_ : CL _ _ _ _ _ _ (Own w [] [Res.row b1 166 (ConfD.cells c)])) w1 (hw.frame0 hO)
   exact l_gp rfl (fun _ hw => hw)
  refine l_mv rfl (l_band (q := (Rises c.vs) ∧ (Rises c.ls)) 4 8 [15, 14, 13, 12] (0 < ((c.vs.length : Nat) : Int)) rfl rfl rfl rfl rfl rfl trivial rfl (fun h1_8 => ?_) (fun g1_13 => ?_))
  ·
   refine l_on rfl (gT h1_8) (a_fld (o := 0) rfl rfl (l_on rfl (gT h1_8) (a_ldo 0 (v := c.vv) rfl rfl rfl rfl (l_on rfl (gT h1_8) (a_lenP (pR rd_c.vv) rfl rfl (l_on rfl (gT h1_8) (l_gtr rfl rfl rfl ?_)))))))
   exact l_gp rfl (fun _ hw => hw)
  refine l_mv rfl (l_band (q := ((Rises c.vs) ∧ (Rises c.ls)) ∧ (0 < ((c.vs.length : Nat) : Int))) 5 14 [22, 21, 20, 19, 18] (¬ (∃ q ∈ c.vs, q ∈ c.ls)) rfl rfl rfl rfl rfl rfl trivial rfl (fun h1_14 => ?_) (fun g1_20 => ?_))
  ·
   refine l_on rfl (gT h1_14) (a_fld (o := 0) rfl rfl (l_on rfl (gT h1_14) (a_ldo 0 (v := c.vv) rfl rfl rfl rfl (l_on rfl (gT h1_14) (l_fn (va := []) (vb := [.pointer (some ⟨b1, 0, none⟩)]) rfl rfl rfl (l_on rfl (gT h1_14) (a_call rfl rfl (fun w' hw => (containsFunc_spec c.vv c.vs b1 c w' (by first | assumption | omega | (simp <;> omega) | (constructor <;> (first | omega | (simp only [LenOk]; omega) | (simp <;> omega)))) ‹_› (hw.rdRes0 0 rfl) (rd_c.at0 hw) (hw.rd0 rd_c.vv)).mono ?_))))))))
   rintro _ w1 ⟨rfl, hO⟩
   refine (?_ : CL _ _ _ _ _ _ (Own w [] [Res.row b1 166 (ConfD.cells c)])) w1 (hw.frame0 hO)
   refine l_on rfl (gT h1_14) (l_notp (q := ∃ q ∈ c.vs, q ∈ c.ls) rfl rfl ?_)
   exact l_gp rfl (fun _ hw => hw)
  refine l_as rfl (l_end ?_)
  exact c_ret (ret1 (v := .bool (decide ((((Rises c.vs) ∧ (Rises c.ls)) ∧ (0 < ((c.vs.length : Nat) : Int))) ∧ (¬ (∃ q ∈ c.vs, q ∈ c.ls))))) rfl rfl (fun w' hw => ⟨(by congr 1; exact decide_eq_decide.2 (by unfold ConfD.ok; exact ⟨fun h => ⟨⟨h.1.1, by have := h.1.2; omega⟩, fun v hv hv' => h.2 ⟨v, hv, hv'⟩⟩, fun h => ⟨⟨h.1.1, by have := h.1.2; omega⟩, fun ⟨v, hv, hv'⟩ => h.2 v hv hv'⟩⟩)), hw.drop⟩))
end Go.Proofs.YthincafbmpialaaGreat
