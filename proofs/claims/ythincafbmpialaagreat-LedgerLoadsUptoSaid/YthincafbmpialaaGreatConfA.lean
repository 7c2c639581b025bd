import Derived.Test.YthincafbmpialaaGreatFwT
import Derived.Test.YthincafbmpialaaGreatChecked
set_option linter.unusedSectionVars false
set_option linter.unusedSimpArgs false
set_option linter.unusedVariables false
set_option maxRecDepth 10000
namespace Go.Proofs.YthincafbmpialaaGreat
open Go Go.Sc Go.Proofs
structure ConfD where
  vv : Value
  vs : List Int
  lv : Value
  ls : List Int
def ConfD.cells (x : ConfD) : List Value := [x.vv, x.lv]
structure ConfD.rd (x : ConfD) (w : World) (S : List Nat) : Prop where
  vv : Rd w S (Res.sl x.vv x.vs.length (x.vs.flatMap I1))
  lv : Rd w S (Res.sl x.lv x.ls.length (x.ls.flatMap I1))
theorem ConfD.rd.at0 {x : ConfD} {w0 w : World} {S : List Nat} {L : List Res} (h : x.rd w0 S) (hw : Own w0 S L w) : x.rd w [] := ⟨hw.rd0 h.vv, hw.rd0 h.lv⟩
theorem ConfD.rd.at {x : ConfD} {w0 w : World} {S : List Nat} {L Lin : List Res} (h : x.rd w0 S) (hw : Own w0 S L w) (m : List Nat) (hm : m.mapM (fun i => L[i]?) = some Lin) : x.rd w (xZ Lin) := ⟨hw.rdTo h.vv m hm, hw.rdTo h.lv m hm⟩
def Rises (l : List Int) : Prop := (0 :: l).Pairwise (· < ·) ∧ ∀ x ∈ l, x ≤ 16
instance (l : List Int) : Decidable (Rises l) := inferInstanceAs (Decidable (_ ∧ _))
theorem Rises.take {l : List Int} (h : Rises l) (k : Nat) : Rises (l.take k) :=
  ⟨by have := h.1.take (i := k + 1); simpa using this, fun x hx => h.2 x (List.mem_of_mem_take hx)⟩
theorem zF2 {l : List Int} {x : Int} : Rises (l ++ [x]) ↔ Rises l ∧ x ≤ 16 ∧ 1 ≤ x ∧ ∀ y ∈ l, y < x := by
  unfold Rises
  rw [← List.cons_append, List.pairwise_append]
  simp only [List.mem_append, List.mem_cons, List.not_mem_nil, or_false, List.pairwise_cons, List.Pairwise.nil]
  constructor
  · rintro ⟨⟨h1, _, h3⟩, h4⟩
    exact ⟨⟨h1, fun x hx => h4 x (.inl hx)⟩, h4 _ (.inr rfl), by have := h3 0 (.inl rfl) x rfl; omega, fun y hy => h3 y (.inr hy) x rfl⟩
  · rintro ⟨⟨h1, h2⟩, h3, h4, h5⟩
    refine ⟨⟨h1, ⟨by simp, trivial⟩, ?_⟩, ?_⟩
    · rintro a (rfl | ha) b rfl
      · omega
      · exact h5 a ha
    · rintro y (hy | rfl)
      · exact h2 y hy
      · exact h3
theorem zAz {l : List Int} {k : Nat} (hk : k < l.length) (h : Rises (l.take k)) : Rises (l.take (k + 1)) ↔ zI l k ≤ 16 ∧ 1 ≤ zI l k ∧ (0 < k → zI l (k - 1) < zI l k) := by
  rw [yB hk, zF2]
  constructor
  · rintro ⟨_, h1, h2, h3⟩
    refine ⟨h1, h2, fun h0 => h3 _ ?_⟩
    rw [List.mem_iff_getElem?]
    exact ⟨k - 1, by rw [List.getElem?_take, if_pos (by omega)]; exact x5 (by omega)⟩
  · rintro ⟨h1, h2, h3⟩
    refine ⟨h, h1, h2, fun y hy => ?_⟩
    obtain ⟨i, hi⟩ := List.mem_iff_getElem?.1 hy
    rw [List.getElem?_take] at hi
    split at hi
    · rename_i hik
      have e := x0 hi
      by_cases hlast : i = k - 1
      · subst hlast; rw [← e]; exact h3 (by omega)
      · have h4 := h3 (by omega)
        have h5 := h.1
        rw [List.pairwise_cons] at h5
        have h6 := List.pairwise_iff_getElem.1 h5.2 i (k - 1) (by simp; omega) (by simp; omega) (by omega)
        rw [List.getElem_take, List.getElem_take] at h6
        have e1 := x0 (List.getElem?_eq_getElem (l := l) (i := i) (by omega))
        have e2 := x0 (List.getElem?_eq_getElem (l := l) (i := k - 1) (by omega))
        rw [← e1, ← e2, e] at h6
        omega
    · cases hi
theorem zDM {l : List Int} {k : Nat} (hk : k < l.length) (h : ¬ (zI l k ≤ 16 ∧ 1 ≤ zI l k ∧ (0 < k → zI l (k - 1) < zI l k))) : ¬ Rises l := fun hr => h ((zAz hk (hr.take k)).1 (hr.take (k + 1)))
theorem zDH : Rises [] := ⟨by simp, by simp⟩
theorem zHd (v : Value) (l : List Int) (n : Int) (w : World) (hl : zb l.length) (hv : Rd w [] (Res.sl v l.length (l.flatMap I1))) : Rets Tryz.prog 152 #[v, Vi n] w fun u_ w' => u_ = .bool (decide (n ∈ l)) ∧ Own w [] [] w' := by
  refine zW Tryz.func152 rfl Tryz.ntmps152 (Own.start w) ?_
  refine zB (zD rfl (zA (zL (zB (zD rfl (zA (zT ?_)))))))
  refine xG (fun (k : Nat) => [(0, v), (1, Vi n), (5, Vj k)]) (fun (k : Nat) => k ≤ l.length ∧ n ∉ l.take k) (fun (k : Nat) => []) (fun (k : Nat) => l.length - k) (fun w' hw => ⟨0, ⟨rfl, rfl, rfl, trivial⟩, ⟨Nat.zero_le _, by simp⟩, hw⟩) (fun k g hΦ => ?_)
  refine zL (zB (zC rfl (zC rfl (yC (pR hv) rfl rfl (yI rfl rfl rfl (zA (zU rfl (fun c1 => ?_) (fun c1 => ?_))))))))
  ·
   refine zK (zL (zT (zB (zC rfl (zC rfl (zH (pR hv) 1 k rfl rfl rfl (by omega) rfl (zV (pR hv) 1 k 0 (fun _ => rfl) rfl rfl (by omega) rfl rfl (zC rfl (yo rfl rfl rfl (zA (zU rfl (fun c2 => ?_) (fun c2 => ?_))))))))))))
   ·
    refine zB (zD rfl (zA ?_))
    exact zM (z6 (v := .bool true) rfl rfl (fun w' hw => ⟨(by rw [decide_eq_true]; exact c2 ▸ yM (by omega)), hw.drop⟩))
   ·
    refine zK (zd (zC rfl (zt rfl rfl (zr (by omega)) rfl (zD rfl ?_))))
    exact zj (fun w' hw => ⟨k + 1, ⟨rfl, rfl, rfl, trivial⟩, ⟨by omega, by rw [yB (by omega)]; simp; exact ⟨hΦ.2, fun e => c2 e.symm⟩⟩, hw, (by omega)⟩)
  ·
   refine yG rfl (zB (zD rfl (zA ?_)))
   exact zM (z6 (v := .bool false) rfl rfl (fun w' hw => ⟨(by rw [decide_eq_false]; have h := hΦ.2; rwa [List.take_of_length_le (by omega)] at h), hw.drop⟩))
theorem zBp (v : Value) (l : List Int) (w : World) (hl : zb l.length) (hv : Rd w [] (Res.sl v l.length (l.flatMap I1))) : Rets Tryz.prog 153 #[v] w fun u_ w' => u_ = .bool (decide (Rises l)) ∧ Own w [] [] w' := by
  refine zW Tryz.func153 rfl Tryz.ntmps153 (Own.start w) ?_
  refine zB (zD rfl (zA (zL (zB (zD rfl (zA (zT ?_)))))))
  refine xG (fun (k : Nat) => [(0, v), (3, Vj k)]) (fun (k : Nat) => k ≤ l.length ∧ Rises (l.take k)) (fun (k : Nat) => []) (fun (k : Nat) => l.length - k) (fun w' hw => ⟨0, ⟨rfl, rfl, trivial⟩, ⟨Nat.zero_le _, by simpa using zDH⟩, hw⟩) (fun k g hΦ => ?_)
  refine zL (zB (zC rfl (zC rfl (yC (pR hv) rfl rfl (yI rfl rfl rfl (zA (zU rfl (fun c1 => ?_) (fun c1 => ?_))))))))
  ·
   refine zK (zL (zT (xb (by kernel_rfl) (by kernel_rfl) (zf rfl (zQ) (zf rfl (zQ) (zf rfl (yR (pR hv) 1 k rfl rfl rfl (by omega)) (zf rfl (yq (pR hv) 1 k 0 (fun _ => rfl) rfl rfl (by omega) rfl) (zf rfl (zEU rfl rfl) (zf rfl (zQ) (zFR (q := (zI l k) < 1) 5 5 [20, 19, 18, 17, 16] (16 < (zI l k)) rfl rfl rfl rfl rfl rfl trivial rfl (fun h4_5 => ?_) (fun g4_11 => ?_)))))))))))
   ·
    refine y4 rfl (gF h4_5) (zf rfl (zQ) (y4 rfl (gF h4_5) (zf rfl (zQ) (y4 rfl (gF h4_5) (zf rfl (yR (pR hv) 1 k rfl rfl rfl (by omega)) (y4 rfl (gF h4_5) (zf rfl (yq (pR hv) 1 k 0 (fun _ => rfl) rfl rfl (by omega) rfl) (y4 rfl (gF h4_5) (zf rfl (zBO rfl rfl) ?_)))))))))
    exact zD7 rfl
   refine zf rfl (zQ) (zFR (q := ((zI l k) < 1) ∨ (16 < (zI l k))) 14 12 [36, 35, 34, 33, 32, 31, 30, 29, 28, 27, 26, 25, 24, 23] ((0 < ((k : Nat) : Int)) ∧ ((zI l k) ≤ (zI l (k - 1)))) rfl rfl rfl rfl rfl rfl trivial rfl (fun h4_12 => ?_) (fun g4_27 => ?_))
   ·
    refine y4 rfl (gF h4_12) (zf rfl (zQ) (y4 rfl (gF h4_12) (zf rfl (zBO rfl rfl) (y4 rfl (gF h4_12) (zf rfl (zQ) (zD2 (q := 0 < ((k : Nat) : Int)) 10 15 [35, 34, 33, 32, 31, 30, 29, 28, 27, 26] ((zI l k) ≤ (zI l (k - 1))) rfl rfl rfl rfl rfl rfl ⟨_, rfl, rfl, gF h4_12⟩ rfl (fun h4_15 => ?_) (fun g4_26 => ?_)))))))
    ·
     refine y4 rfl (gT h4_15) (zf rfl (zQ) (y4 rfl (gT h4_15) (zf rfl (zQ) (y4 rfl (gT h4_15) (zf rfl (kc rfl rfl (zr (by omega))) (y4 rfl (gT h4_15) (zf rfl (yR (pR hv) 1 (k - 1) rfl rfl (by omega) (by omega)) (y4 rfl (gT h4_15) (zf rfl (yq (pR hv) 1 (k - 1) 0 (fun _ => rfl) rfl rfl (by omega) rfl) (y4 rfl (gT h4_15) (zf rfl (zQ) (y4 rfl (gT h4_15) ?_))))))))))))
     refine zf rfl (zQ) (y4 rfl (gT h4_15) (zf rfl (yR (pR hv) 1 k rfl rfl rfl (by omega)) (y4 rfl (gT h4_15) (zf rfl (yq (pR hv) 1 k 0 (fun _ => rfl) rfl rfl (by omega) rfl) (y4 rfl (gT h4_15) (zf rfl (zKu rfl rfl) ?_))))))
     exact zD7 rfl
    exact zD7 rfl
   refine j9 (zU rfl (fun c2 => ?_) (fun c2 => ?_))
   ·
    refine zB (zD rfl (zA ?_))
    exact zM (z6 (v := .bool false) rfl rfl (fun w' hw => ⟨(by rw [decide_eq_false]; exact zDM (k := k) (by omega) (by omega)), hw.drop⟩))
   ·
    refine zK (zd (zC rfl (zt rfl rfl (zr (by omega)) rfl (zD rfl ?_))))
    exact zj (fun w' hw => ⟨k + 1, ⟨rfl, rfl, trivial⟩, ⟨by omega, (zAz (by omega) hΦ.2).2 (by omega)⟩, hw, (by omega)⟩)
  ·
   refine yG rfl (zB (zD rfl (zA ?_)))
   exact zM (z6 (v := .bool true) rfl rfl (fun w' hw => ⟨(by rw [decide_eq_true]; have h := hΦ.2; rwa [List.take_of_length_le (by omega)] at h), hw.drop⟩))
theorem zCR (v : Value) (l : List Int) (w : World) (hl : zb l.length) (hv : Rd w [] (Res.sl v l.length (l.flatMap I1))) : Rets Tryz.prog 174 #[v] w fun u_ w' => u_ = .bool (decide (Rises l)) ∧ Own w [] [] w' := by
  refine zW Tryz.func174 rfl Tryz.ntmps174 (Own.start w) ?_
  refine zB (zD rfl (zA (zL (zB (zC rfl (yC (pR hv) rfl rfl (zC rfl (zA (zT ?_)))))))))
  refine xG (fun (k : Nat) => [(0, v), (5, v), (6, Vj l.length), (7, Vj k)]) (fun (k : Nat) => k ≤ l.length ∧ Rises (l.take k)) (fun (k : Nat) => []) (fun (k : Nat) => l.length - k) (fun w' hw => ⟨0, ⟨rfl, rfl, rfl, rfl, trivial⟩, ⟨Nat.zero_le _, by simpa using zDH⟩, hw⟩) (fun k g hΦ => ?_)
  refine zB (yI rfl rfl rfl (zA (zL (zU rfl (fun c1 => ?_) (fun c1 => ?_)))))
  ·
   refine zK (zL (zT (zB (zC rfl (zH (pR hv) 1 k rfl rfl rfl (by omega) rfl (zV (pR hv) 1 k 0 (fun _ => rfl) rfl rfl (by omega) rfl rfl (zD rfl (zD rfl (zA (zB (zC rfl (yI rfl rfl rfl ?_))))))))))))
   refine zC rfl (yY (q := (zI l k) < 1) 2 2 [16, 15] (16 < (zI l k)) rfl rfl rfl rfl rfl rfl trivial rfl (fun h4_2 => ?_) (fun g4_5 => ?_))
   ·
    refine zO rfl (gF h4_2) (zC rfl (zO rfl (gF h4_2) (yg rfl rfl rfl ?_)))
    exact yL rfl (fun _ hw => hw)
   refine zC rfl (yY (q := ((zI l k) < 1) ∨ (16 < (zI l k))) 11 6 [29, 28, 27, 26, 25, 24, 23, 22, 21, 20, 19] ((0 < ((k : Nat) : Int)) ∧ ((zI l k) ≤ (zI l (k - 1)))) rfl rfl rfl rfl rfl rfl trivial rfl (fun h4_6 => ?_) (fun g4_18 => ?_))
   ·
    refine zO rfl (gF h4_6) (zC rfl (zO rfl (gF h4_6) (yg rfl rfl rfl (zO rfl (gF h4_6) (zC rfl (yP (q := 0 < ((k : Nat) : Int)) 7 9 [28, 27, 26, 25, 24, 23, 22] ((zI l k) ≤ (zI l (k - 1))) rfl rfl rfl rfl rfl rfl ⟨_, rfl, rfl, gF h4_6⟩ rfl (fun h4_9 => ?_) (fun g4_17 => ?_)))))))
    ·
     refine zO rfl (gT h4_9) (zC rfl (zO rfl (gT h4_9) (zC rfl (zO rfl (gT h4_9) (zC rfl (zO rfl (gT h4_9) (yX rfl rfl (zr (by omega)) rfl (zO rfl (gT h4_9) (zH (pR hv) 1 (k - 1) rfl rfl (by omega) (by omega) rfl (zO rfl (gT h4_9) (zV (pR hv) 1 (k - 1) 0 (fun _ => rfl) rfl rfl (by omega) rfl rfl (zO rfl (gT h4_9) ?_))))))))))))
     refine ka rfl rfl rfl ?_
     exact yL rfl (fun _ hw => hw)
    exact yL rfl (fun _ hw => hw)
   refine zA (zU rfl (fun c2 => ?_) (fun c2 => ?_))
   ·
    refine zB (zD rfl (zA ?_))
    exact zM (z6 (v := .bool false) rfl rfl (fun w' hw => ⟨(by rw [decide_eq_false]; exact zDM (k := k) (by omega) (by omega)), hw.drop⟩))
   ·
    refine zK (zd (zt rfl rfl (zr (by omega)) rfl (zC rfl ?_)))
    exact zj (fun w' hw => ⟨k + 1, ⟨rfl, rfl, rfl, rfl, trivial⟩, ⟨by omega, (zAz (by omega) hΦ.2).2 (by omega)⟩, hw, (by omega)⟩)
  ·
   refine yG rfl (zB (zD rfl (zA ?_)))
   exact zM (z6 (v := .bool true) rfl rfl (fun w' hw => ⟨(by rw [decide_eq_true]; have h := hΦ.2; rwa [List.take_of_length_le (by omega)] at h), hw.drop⟩))
structure ConfD.wf (x : ConfD) : Prop where
  vs : zb x.vs.length
  ls : zb x.ls.length
def ConfD.ok (x : ConfD) : Prop := ((Rises x.vs ∧ Rises x.ls) ∧ 0 < x.vs.length) ∧ ∀ v ∈ x.vs, v ∉ x.ls
instance (x : ConfD) : Decidable x.ok := inferInstanceAs (Decidable ((_ ∧ _) ∧ _))
theorem zEr (c : ConfD) (w : World) (hc : c.wf) (rd_c : ConfD.rd c w []) : Rets Tryz.prog 130 #[.agg (ConfD.cells c).toArray] w fun u_ w' => u_ = .bool (decide c.ok) ∧ Own w [] [] w' := by
  have hv := hc.vs
  have hl := hc.ls
  refine zW Tryz.func130 rfl Tryz.ntmps130 (Own.start w) ?_
  refine zB (yc rfl rfl (fun b1 => zD rfl (zA (zL (zB (zD rfl (zA (zT ?_))))))))
  refine xG (fun (k : Nat) => [(1, .pointer (some ⟨b1, 0, none⟩)), (3, Vj k)]) (fun (k : Nat) => k ≤ c.vs.length ∧ ∀ v ∈ c.vs.take k, v ∉ c.ls) (fun (k : Nat) => [Res.row b1 166 (ConfD.cells c)]) (fun (k : Nat) => c.vs.length - k) (fun w' hw => ⟨0, ⟨rfl, rfl, trivial⟩, ⟨Nat.zero_le _, by simp⟩, hw⟩) (fun k g hΦ => ?_)
  refine zL (zB (zC rfl (zP (o := 0) rfl rfl (zS 0 (v := c.vv) rfl rfl rfl rfl (yC (pR rd_c.vv) rfl rfl (yI rfl rfl rfl (zA (zU rfl (fun c1 => ?_) (fun c1 => ?_)))))))))
  ·
   refine zK (zL (zT (zL (zg [0] rfl (by decide) (by kernel_rfl) (fun w' hw hS => zF 0 rfl (zi (o := 1) rfl) hS (zF 1 rfl (zo 0 (v := c.lv) rfl rfl rfl) hS (zF 2 rfl (zi (o := 0) rfl) hS (zF 3 rfl (zo 0 (v := c.vv) rfl rfl rfl) hS (zF 4 rfl (zQ) hS (zF 5 rfl (yR (pR rd_c.vv) 1 k rfl rfl rfl (by omega)) hS (zF 6 rfl (yq (pR rd_c.vv) 1 k 0 (fun _ => rfl) rfl rfl (by omega) rfl) hS (zY 7 rfl hw ?_))))))))))))
   refine zJ rfl rfl (fun w' hw => (zHd c.lv c.ls (zI c.vs k) w' (by first | assumption | omega | (simp <;> omega) | (constructor <;> (first | omega | (simp only [zb]; omega) | (simp <;> omega)))) (hw.rd0 rd_c.lv)).mono ?_)
   rintro _ w1 ⟨rfl, hO⟩
   refine (?_ : CL _ _ _ _ _ _ (Own w [] [Res.row b1 166 (ConfD.cells c)])) w1 (hw.frame0 hO)
   refine zG [0] rfl (by decide) (fun w' hw hS => zR ?_)
   refine (?_ : C _ _ _ _ _ _ _ (Own w [] [Res.row b1 166 (ConfD.cells c)])) _ hw
   refine zU rfl (fun c2 => ?_) (fun c2 => ?_)
   ·
    refine zB (zD rfl (zA ?_))
    exact zM (z6 (v := .bool false) rfl rfl (fun w' hw => ⟨(by rw [decide_eq_false]; intro h; exact h.2 _ (yM (by omega)) c2), hw.drop⟩))
   ·
    refine zK (zd (zC rfl (zt rfl rfl (zr (by omega)) rfl (zD rfl ?_))))
    exact zj (fun w' hw => ⟨k + 1, ⟨rfl, rfl, trivial⟩, ⟨by omega, by rw [yB (by omega)]; intro v hv; rcases List.mem_append.1 hv with h | h; exact hΦ.2 v h; simp at h; rw [h]; exact c2⟩, hw, (by omega)⟩)
  ·
   refine yG rfl (zB (zP (o := 0) rfl rfl (zS 0 (v := c.vv) rfl rfl rfl rfl (zJ rfl rfl (fun w' hw => (zBp c.vv c.vs w' (by first | assumption | omega | (simp <;> omega) | (constructor <;> (first | omega | (simp only [zb]; omega) | (simp <;> omega)))) (hw.rd0 rd_c.vv)).mono ?_)))))
   rintro _ w1 ⟨rfl, hO⟩
   refine (?_ : CL _ _ _ _ _ _ (Own w [] [Res.row b1 166 (ConfD.cells c)])) w1 (hw.frame0 hO)
   refine zC rfl (yP (q := Rises c.vs) 3 3 [25, 24, 23] (Rises c.ls) rfl rfl rfl rfl rfl rfl trivial rfl (fun h6_3 => ?_) (fun g6_7 => ?_))
   ·
    refine zO rfl (gT h6_3) (zP (o := 1) rfl rfl (zO rfl (gT h6_3) (zS 0 (v := c.lv) rfl rfl rfl rfl (zO rfl (gT h6_3) (zJ rfl rfl (fun w' hw => (zBp c.lv c.ls w' (by first | assumption | omega | (simp <;> omega) | (constructor <;> (first | omega | (simp only [zb]; omega) | (simp <;> omega)))) (hw.rd0 rd_c.lv)).mono ?_))))))
    rintro _ w1 ⟨rfl, hO⟩
    refine (?_ : CL _ _ _ _ _ _ (Own w [] [Res.row b1 166 (ConfD.cells c)])) w1 (hw.frame0 hO)
    exact yL rfl (fun _ hw => hw)
   refine zC rfl (yP (q := (Rises c.vs) ∧ (Rises c.ls)) 4 8 [31, 30, 29, 28] (0 < ((c.vs.length : Nat) : Int)) rfl rfl rfl rfl rfl rfl trivial rfl (fun h6_8 => ?_) (fun g6_13 => ?_))
   ·
    refine zO rfl (gT h6_8) (zP (o := 0) rfl rfl (zO rfl (gT h6_8) (zS 0 (v := c.vv) rfl rfl rfl rfl (zO rfl (gT h6_8) (yC (pR rd_c.vv) rfl rfl (zO rfl (gT h6_8) (yg rfl rfl rfl ?_)))))))
    exact yL rfl (fun _ hw => hw)
   refine zD rfl (zA ?_)
   exact zM (z6 (v := .bool (decide (((Rises c.vs) ∧ (Rises c.ls)) ∧ (0 < ((c.vs.length : Nat) : Int))))) rfl rfl (fun w' hw => ⟨(by congr 1; exact decide_eq_decide.2 (by unfold ConfD.ok; have h := hΦ.2; rw [List.take_of_length_le (by omega)] at h; exact ⟨fun q => ⟨⟨q.1, by have := q.2; omega⟩, h⟩, fun q => ⟨q.1.1, by have := q.1.2; omega⟩⟩)), hw.drop⟩))
theorem zHq (v : Value) (l : List Int) (n : Int) (w : World) (hl : zb l.length) (hv : Rd w [] (Res.sl v l.length (l.flatMap I1))) : Rets Tryz.prog 195 #[v, Vi n] w fun u_ w' => ∃ (i : Int), u_ = Vi i ∧ (0 ≤ i ↔ n ∈ l) ∧ Own w [] [] w' := by
  refine zW Tryz.func195 rfl Tryz.ntmps195 (Own.start w) ?_
  refine zB (zD rfl (zA (zL (zB (zC rfl (yC (pR hv) rfl rfl (zC rfl (zA (zT ?_)))))))))
  refine xG (fun (k : Nat) => [(0, v), (1, Vi n), (7, Vj l.length), (8, Vj k)]) (fun (k : Nat) => k ≤ l.length ∧ n ∉ l.take k) (fun (k : Nat) => []) (fun (k : Nat) => l.length - k) (fun w' hw => ⟨0, ⟨rfl, rfl, rfl, rfl, trivial⟩, ⟨Nat.zero_le _, by simp⟩, hw⟩) (fun k g hΦ => ?_)
  refine zB (yI rfl rfl rfl (zA (zL (zU rfl (fun c1 => ?_) (fun c1 => ?_)))))
  ·
   refine zK (zL (zT (zB (zC rfl (zD rfl (zA (zB (zC rfl (zC rfl (zC rfl (zH (pR hv) 1 k rfl rfl rfl (by omega) rfl (zV (pR hv) 1 k 0 (fun _ => rfl) rfl rfl (by omega) rfl rfl ?_))))))))))))
   refine yo rfl rfl rfl (zA (zU rfl (fun c2 => ?_) (fun c2 => ?_)))
   ·
    refine zB (zC rfl (zD rfl (zA ?_)))
    exact zM (z6 (v := Vj k) rfl rfl (fun w' hw => ⟨k, rfl, ⟨fun _ => c2 ▸ yM (by omega), fun _ => by omega⟩, hw.drop⟩))
   ·
    refine zK (zd (zt rfl rfl (zr (by omega)) rfl (zC rfl ?_)))
    exact zj (fun w' hw => ⟨k + 1, ⟨rfl, rfl, rfl, rfl, trivial⟩, ⟨by omega, by rw [yB (by omega)]; simp; exact ⟨hΦ.2, fun e => c2 e⟩⟩, hw, (by omega)⟩)
  ·
   refine yG rfl (zB (zD rfl (zA ?_)))
   exact zM (z6 (v := Vi (-1)) rfl rfl (fun w' hw => ⟨-1, rfl, ⟨fun h => by omega, fun h => by have h2 := hΦ.2; rw [List.take_of_length_le (by omega)] at h2; exact absurd h h2⟩, hw.drop⟩))
theorem zC5 (v : Value) (l : List Int) (n : Int) (w : World) (hl : zb l.length) (hv : Rd w [] (Res.sl v l.length (l.flatMap I1))) : Rets Tryz.prog 177 #[v, Vi n] w fun u_ w' => u_ = .bool (decide (n ∈ l)) ∧ Own w [] [] w' := by
  refine zW Tryz.func177 rfl Tryz.ntmps177 (Own.start w) ?_
  refine zB (zD rfl (zA (zB (zC rfl (zC rfl (zJ rfl rfl (fun w' hw => (zHq v l n w' (by first | assumption | omega | (simp <;> omega) | (constructor <;> (first | omega | (simp only [zb]; omega) | (simp <;> omega)))) (hw.rd0 hv)).mono ?_)))))))
  rintro _ w1 ⟨i1_, rfl, hf1_2, hO⟩
  refine (?_ : CL _ _ _ _ _ _ (Own w [] [])) w1 (hw.frame0 hO)
  refine xC rfl rfl rfl (zD rfl (zA ?_))
  exact zM (z6 (v := .bool (decide (0 ≤ i1_))) rfl rfl (fun w' hw => ⟨(by congr 1; exact decide_eq_decide.2 (by omega)), hw.drop⟩))
theorem zDx (n : Int) (cb : Nat) (c : ConfD) (w : World) (hc : c.wf) (hcb : Rd w [] (Res.row cb 166 (ConfD.cells c))) (rd_c : ConfD.rd c w []) : Rets Tryz.prog 176 #[Vi n, .pointer (some ⟨cb, 0, none⟩)] w fun u_ w' => u_ = .bool (decide (n ∈ c.ls)) ∧ Own w [] [] w' := by
  have hv := hc.vs
  have hl := hc.ls
  refine zW Tryz.func176 rfl Tryz.ntmps176 (Own.start w) ?_
  refine zB (zD rfl (zA (zB (zP (o := 1) rfl rfl (zM2 (v := c.lv) rfl (hcb.φ.cell rfl) (hcb.far _ (by simp [Res.row])) (by kernel_rfl) rfl (zC rfl (zJ rfl rfl (fun w' hw => (zC5 c.lv c.ls n w' (by first | assumption | omega | (simp <;> omega) | (constructor <;> (first | omega | (simp only [zb]; omega) | (simp <;> omega)))) (hw.rd0 rd_c.lv)).mono ?_))))))))
  rintro _ w1 ⟨rfl, hO⟩
  refine (?_ : CL _ _ _ _ _ _ (Own w [] [])) w1 (hw.frame0 hO)
  refine zD rfl (zA ?_)
  exact zM (z6 (v := .bool (decide (n ∈ c.ls))) rfl rfl (fun w' hw => ⟨rfl, hw.drop⟩))
theorem zEL (v : Value) (l : List Int) (cb : Nat) (c : ConfD) (w : World) (hl : zb l.length) (hc : c.wf) (hcb : Rd w [] (Res.row cb 166 (ConfD.cells c))) (rd_c : ConfD.rd c w []) (hv : Rd w [] (Res.sl v l.length (l.flatMap I1))) : Rets Tryz.prog 194 #[v, .func (.func 176) #[] #[.pointer (some ⟨cb, 0, none⟩)]] w fun u_ w' => ∃ (i : Int), u_ = Vi i ∧ (0 ≤ i ↔ ∃ q ∈ l, q ∈ c.ls) ∧ Own w [] [] w' := by
  refine zW Tryz.func194 rfl Tryz.ntmps194 (Own.start w) ?_
  refine zB (zD rfl (zA (zL (zB (zC rfl (yC (pR hv) rfl rfl (zC rfl (zA (zT ?_)))))))))
  refine xG (fun (k : Nat) => [(0, v), (1, .func (.func 176) #[] #[.pointer (some ⟨cb, 0, none⟩)]), (7, Vj l.length), (8, Vj k)]) (fun (k : Nat) => k ≤ l.length ∧ ∀ v ∈ l.take k, v ∉ c.ls) (fun (k : Nat) => []) (fun (k : Nat) => l.length - k) (fun w' hw => ⟨0, ⟨rfl, rfl, rfl, rfl, trivial⟩, ⟨Nat.zero_le _, by simp⟩, hw⟩) (fun k g hΦ => ?_)
  refine zB (yI rfl rfl rfl (zA (zL (zU rfl (fun c1 => ?_) (fun c1 => ?_)))))
  ·
   refine zK (zL (zT (zB (zC rfl (zD rfl (zA (zB (zC rfl (zC rfl (zC rfl (zH (pR hv) 1 k rfl rfl rfl (by omega) rfl (zV (pR hv) 1 k 0 (fun _ => rfl) rfl rfl (by omega) rfl rfl ?_))))))))))))
   refine xI (fst := []) (cap := [.pointer (some ⟨cb, 0, none⟩)]) rfl (by kernel_rfl) rfl rfl (fun w' hw => (zDx (zI l k) cb c w' ‹_› (hw.rd0 hcb) (rd_c.at0 hw)).mono ?_)
   rintro _ w1 ⟨rfl, hO⟩
   refine (?_ : CL _ _ _ _ _ _ (Own w [] [])) w1 (hw.frame0 hO)
   refine zA (zU rfl (fun c2 => ?_) (fun c2 => ?_))
   ·
    refine zB (zC rfl (zD rfl (zA ?_)))
    exact zM (z6 (v := Vj k) rfl rfl (fun w' hw => ⟨k, rfl, ⟨fun _ => ⟨_, yM (by omega), c2⟩, fun _ => by omega⟩, hw.drop⟩))
   ·
    refine zK (zd (zt rfl rfl (zr (by omega)) rfl (zC rfl ?_)))
    exact zj (fun w' hw => ⟨k + 1, ⟨rfl, rfl, rfl, rfl, trivial⟩, ⟨by omega, by rw [yB (by omega)]; intro v hv; rcases List.mem_append.1 hv with h | h; exact hΦ.2 v h; simp at h; rw [h]; exact c2⟩, hw, (by omega)⟩)
  ·
   refine yG rfl (zB (zD rfl (zA ?_)))
   exact zM (z6 (v := Vi (-1)) rfl rfl (fun w' hw => ⟨-1, rfl, ⟨fun h => by omega, fun ⟨v, h, h'⟩ => by have h2 := hΦ.2; rw [List.take_of_length_le (by omega)] at h2; exact absurd h' (h2 v h)⟩, hw.drop⟩))
theorem zA6 (v : Value) (l : List Int) (cb : Nat) (c : ConfD) (w : World) (hl : zb l.length) (hc : c.wf) (hcb : Rd w [] (Res.row cb 166 (ConfD.cells c))) (rd_c : ConfD.rd c w []) (hv : Rd w [] (Res.sl v l.length (l.flatMap I1))) : Rets Tryz.prog 175 #[v, .func (.func 176) #[] #[.pointer (some ⟨cb, 0, none⟩)]] w fun u_ w' => u_ = .bool (decide (∃ q ∈ l, q ∈ c.ls)) ∧ Own w [] [] w' := by
  refine zW Tryz.func175 rfl Tryz.ntmps175 (Own.start w) ?_
  refine zB (zD rfl (zA (zB (zC rfl (zC rfl (zJ rfl rfl (fun w' hw => (zEL v l cb c w' (by first | assumption | omega | (simp <;> omega) | (constructor <;> (first | omega | (simp only [zb]; omega) | (simp <;> omega)))) ‹_› (hw.rd0 hcb) (rd_c.at0 hw) (hw.rd0 hv)).mono ?_)))))))
  rintro _ w1 ⟨i1_, rfl, hf1_2, hO⟩
  refine (?_ : CL _ _ _ _ _ _ (Own w [] [])) w1 (hw.frame0 hO)
  refine xC rfl rfl rfl (zD rfl (zA ?_))
  exact zM (z6 (v := .bool (decide (0 ≤ i1_))) rfl rfl (fun w' hw => ⟨(by congr 1; exact decide_eq_decide.2 (by omega)), hw.drop⟩))
theorem zCy (c : ConfD) (w : World) (hc : c.wf) (rd_c : ConfD.rd c w []) : Rets Tryz.prog 173 #[.agg (ConfD.cells c).toArray] w fun u_ w' => u_ = .bool (decide c.ok) ∧ Own w [] [] w' := by
  have hv := hc.vs
  have hl := hc.ls
  refine zW Tryz.func173 rfl Tryz.ntmps173 (Own.start w) ?_
  refine zB (yc rfl rfl (fun b1 => zD rfl (zA (zB (zP (o := 0) rfl rfl (zS 0 (v := c.vv) rfl rfl rfl rfl (zJ rfl rfl (fun w' hw => (zCR c.vv c.vs w' (by first | assumption | omega | (simp <;> omega) | (constructor <;> (first | omega | (simp only [zb]; omega) | (simp <;> omega)))) (hw.rd0 rd_c.vv)).mono ?_))))))))
  rintro _ w1 ⟨rfl, hO⟩
  refine (?_ : CL _ _ _ _ _ _ (Own w [] [Res.row b1 166 (ConfD.cells c)])) w1 (hw.frame0 hO)
  refine zC rfl (yP (q := Rises c.vs) 3 3 [9, 8, 7] (Rises c.ls) rfl rfl rfl rfl rfl rfl trivial rfl (fun h1_3 => ?_) (fun g1_7 => ?_))
  ·
   refine zO rfl (gT h1_3) (zP (o := 1) rfl rfl (zO rfl (gT h1_3) (zS 0 (v := c.lv) rfl rfl rfl rfl (zO rfl (gT h1_3) (zJ rfl rfl (fun w' hw => (zCR c.lv c.ls w' (by first | assumption | omega | (simp <;> omega) | (constructor <;> (first | omega | (simp only [zb]; omega) | (simp <;> omega)))) (hw.rd0 rd_c.lv)).mono ?_))))))
   rintro _ w1 ⟨rfl, hO⟩
   refine (?_ : CL _ _ _ _ _ _ (Own w [] [Res.row b1 166 (ConfD.cells c)])) w1 (hw.frame0 hO)
   exact yL rfl (fun _ hw => hw)
  refine zC rfl (yP (q := (Rises c.vs) ∧ (Rises c.ls)) 4 8 [15, 14, 13, 12] (0 < ((c.vs.length : Nat) : Int)) rfl rfl rfl rfl rfl rfl trivial rfl (fun h1_8 => ?_) (fun g1_13 => ?_))
  ·
   refine zO rfl (gT h1_8) (zP (o := 0) rfl rfl (zO rfl (gT h1_8) (zS 0 (v := c.vv) rfl rfl rfl rfl (zO rfl (gT h1_8) (yC (pR rd_c.vv) rfl rfl (zO rfl (gT h1_8) (yg rfl rfl rfl ?_)))))))
   exact yL rfl (fun _ hw => hw)
  refine zC rfl (yP (q := ((Rises c.vs) ∧ (Rises c.ls)) ∧ (0 < ((c.vs.length : Nat) : Int))) 5 14 [22, 21, 20, 19, 18] (¬ (∃ q ∈ c.vs, q ∈ c.ls)) rfl rfl rfl rfl rfl rfl trivial rfl (fun h1_14 => ?_) (fun g1_20 => ?_))
  ·
   refine zO rfl (gT h1_14) (zP (o := 0) rfl rfl (zO rfl (gT h1_14) (zS 0 (v := c.vv) rfl rfl rfl rfl (zO rfl (gT h1_14) (zIE (va := []) (vb := [.pointer (some ⟨b1, 0, none⟩)]) rfl rfl rfl (zO rfl (gT h1_14) (zJ rfl rfl (fun w' hw => (zA6 c.vv c.vs b1 c w' (by first | assumption | omega | (simp <;> omega) | (constructor <;> (first | omega | (simp only [zb]; omega) | (simp <;> omega)))) ‹_› (hw.rdRes0 0 rfl) (rd_c.at0 hw) (hw.rd0 rd_c.vv)).mono ?_))))))))
   rintro _ w1 ⟨rfl, hO⟩
   refine (?_ : CL _ _ _ _ _ _ (Own w [] [Res.row b1 166 (ConfD.cells c)])) w1 (hw.frame0 hO)
   refine zO rfl (gT h1_14) (xo (q := ∃ q ∈ c.vs, q ∈ c.ls) rfl rfl ?_)
   exact yL rfl (fun _ hw => hw)
  refine zD rfl (zA ?_)
  exact zM (z6 (v := .bool (decide ((((Rises c.vs) ∧ (Rises c.ls)) ∧ (0 < ((c.vs.length : Nat) : Int))) ∧ (¬ (∃ q ∈ c.vs, q ∈ c.ls))))) rfl rfl (fun w' hw => ⟨(by congr 1; exact decide_eq_decide.2 (by unfold ConfD.ok; exact ⟨fun h => ⟨⟨h.1.1, by have := h.1.2; omega⟩, fun v hv hv' => h.2 ⟨v, hv, hv'⟩⟩, fun h => ⟨⟨h.1.1, by have := h.1.2; omega⟩, fun ⟨v, hv, hv'⟩ => h.2 v hv hv'⟩⟩)), hw.drop⟩))
end Go.Proofs.YthincafbmpialaaGreat
