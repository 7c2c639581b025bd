import Derived.Test.YthincafbmpialaaGreatFwT
import Derived.Test.YthincafbmpialaaGreatChecked
set_option linter.unusedSectionVars false
set_option linter.unusedSimpArgs false
set_option linter.unusedVariables false
set_option maxRecDepth 10000
namespace Go.Proofs.YthincafbmpialaaGreat
open Go Go.Sc Go.Proofs
structure ConfD where
  vv : Value
  vs : List Int
  lv : Value
  ls : List Int
def ConfD.cells (x : ConfD) : List Value := [x.vv, x.lv]
structure ConfD.rd (x : ConfD) (w : World) (S : List Nat) : Prop where
  vv : Rd w S (Res.sl x.vv x.vs.length (x.vs.flatMap I1))
  lv : Rd w S (Res.sl x.lv x.ls.length (x.ls.flatMap I1))
theorem ConfD.rd.at0 {x : ConfD} {w0 w : World} {S : List Nat} {L : List Res} (h : x.rd w0 S) (hw : Own w0 S L w) : x.rd w [] := ⟨hw.rd0 h.vv, hw.rd0 h.lv⟩
theorem ConfD.rd.at {x : ConfD} {w0 w : World} {S : List Nat} {L Lin : List Res} (h : x.rd w0 S) (hw : Own w0 S L w) (m : List Nat) (hm : m.mapM (fun i => L[i]?) = some Lin) : x.rd w (xb Lin) := ⟨hw.rdTo h.vv m hm, hw.rdTo h.lv m hm⟩
def Rises (l : List Int) : Prop := (0 :: l).Pairwise (· < ·) ∧ ∀ x ∈ l, x ≤ 16
instance (l : List Int) : Decidable (Rises l) := inferInstanceAs (Decidable (_ ∧ _))
theorem Rises.take {l : List Int} (h : Rises l) (k : Nat) : Rises (l.take k) :=
  ⟨by have := h.1.take (i := k + 1); simpa using this, fun x hx => h.2 x (List.mem_of_mem_take hx)⟩
theorem zFg {l : List Int} {x : Int} : Rises (l ++ [x]) ↔ Rises l ∧ x ≤ 16 ∧ 1 ≤ x ∧ ∀ y ∈ l, y < x := by
  unfold Rises
  rw [← List.cons_append, List.pairwise_append]
  simp only [List.mem_append, List.mem_cons, List.not_mem_nil, or_false, List.pairwise_cons, List.Pairwise.nil]
  constructor
  · rintro ⟨⟨h1, _, h3⟩, h4⟩
    exact ⟨⟨h1, fun x hx => h4 x (.inl hx)⟩, h4 _ (.inr rfl), by have := h3 0 (.inl rfl) x rfl; omega, fun y hy => h3 y (.inr hy) x rfl⟩
  · rintro ⟨⟨h1, h2⟩, h3, h4, h5⟩
    refine ⟨⟨h1, ⟨by simp, trivial⟩, ?_⟩, ?_⟩
    · rintro a (rfl | ha) b rfl
      · omega
      · exact h5 a ha
    · rintro y (hy | rfl)
      · exact h2 y hy
      · exact h3
theorem zA6 {l : List Int} {k : Nat} (hk : k < l.length) (h : Rises (l.take k)) : Rises (l.take (k + 1)) ↔ zI l k ≤ 16 ∧ 1 ≤ zI l k ∧ (0 < k → zI l (k - 1) < zI l k) := by
  rw [yE hk, zFg]
  constructor
  · rintro ⟨_, h1, h2, h3⟩
    refine ⟨h1, h2, fun h0 => h3 _ ?_⟩
    rw [List.mem_iff_getElem?]
    exact ⟨k - 1, by rw [List.getElem?_take, if_pos (by omega)]; exact x5 (by omega)⟩
  · rintro ⟨h1, h2, h3⟩
    refine ⟨h, h1, h2, fun y hy => ?_⟩
    obtain ⟨i, hi⟩ := List.mem_iff_getElem?.1 hy
    rw [List.getElem?_take] at hi
    split at hi
    · rename_i hik
      have e := x3 hi
      by_cases hlast : i = k - 1
      · subst hlast; rw [← e]; exact h3 (by omega)
      · have h4 := h3 (by omega)
        have h5 := h.1
        rw [List.pairwise_cons] at h5
        have h6 := List.pairwise_iff_getElem.1 h5.2 i (k - 1) (by simp; omega) (by simp; omega) (by omega)
        rw [List.getElem_take, List.getElem_take] at h6
        have e1 := x3 (List.getElem?_eq_getElem (l := l) (i := i) (by omega))
        have e2 := x3 (List.getElem?_eq_getElem (l := l) (i := k - 1) (by omega))
        rw [← e1, ← e2, e] at h6
        omega
    · cases hi
theorem zDa {l : List Int} {k : Nat} (hk : k < l.length) (h : ¬ (zI l k ≤ 16 ∧ 1 ≤ zI l k ∧ (0 < k → zI l (k - 1) < zI l k))) : ¬ Rises l := fun hr => h ((zA6 hk (hr.take k)).1 (hr.take (k + 1)))
theorem zDu : Rises [] := ⟨by simp, by simp⟩
theorem zI7 (v : Value) (l : List Int) (n : Int) (w : World) (hl : zb l.length) (hv : Rd w [] (Res.sl v l.length (l.flatMap I1))) : Rets Tryz.prog 152 #[v, Vi n] w fun u_ w' => u_ = .bool (decide (n ∈ l)) ∧ Own w [] [] w' := by
  refine zW Tryz.func152 rfl Tryz.ntmps152 (Own.start w) ?_
  refine zB (zD rfl (zA (zL (zB (zD rfl (zA (zS ?_)))))))
  refine xH (fun (k : Nat) => [(0, v), (1, Vi n), (5, Vj k)]) (fun (k : Nat) => k ≤ l.length ∧ n ∉ l.take k) (fun (k : Nat) => []) (fun (k : Nat) => l.length - k) (fun w' hw => ⟨0, ⟨rfl, rfl, rfl, trivial⟩, ⟨Nat.zero_le _, by simp⟩, hw⟩) (fun k g hΦ => ?_)
  refine zL (zB (zC rfl (zC rfl (yD (pR hv) rfl rfl (yI rfl rfl rfl (zA (zU rfl (fun c1 => ?_) (fun c1 => ?_))))))))
  ·
   refine zK (zL (zS (zB (zC rfl (zC rfl (zH (pR hv) 1 k rfl rfl rfl (by omega) rfl (zV (pR hv) 1 k 0 (fun _ => rfl) rfl rfl (by omega) rfl rfl (zC rfl (yu rfl rfl rfl (zA (zU rfl (fun c2 => ?_) (fun c2 => ?_))))))))))))
   ·
    refine zB (zD rfl (zA ?_))
    exact zM (z8 (v := .bool true) rfl rfl (fun w' hw => ⟨(by rw [decide_eq_true]; exact c2 ▸ yJ (by omega)), hw.drop⟩))
   ·
    refine zK (zd (zC rfl (zu rfl rfl (zt (by omega)) rfl (zD rfl ?_))))
    exact zj (fun w' hw => ⟨k + 1, ⟨rfl, rfl, rfl, trivial⟩, ⟨by omega, by rw [yE (by omega)]; simp; exact ⟨hΦ.2, fun e => c2 e.symm⟩⟩, hw, (by omega)⟩)
  ·
   refine yG rfl (zB (zD rfl (zA ?_)))
   exact zM (z8 (v := .bool false) rfl rfl (fun w' hw => ⟨(by rw [decide_eq_false]; have h := hΦ.2; rwa [List.take_of_length_le (by omega)] at h), hw.drop⟩))
theorem zBt (v : Value) (l : List Int) (w : World) (hl : zb l.length) (hv : Rd w [] (Res.sl v l.length (l.flatMap I1))) : Rets Tryz.prog 153 #[v] w fun u_ w' => u_ = .bool (decide (Rises l)) ∧ Own w [] [] w' := by
  refine zW Tryz.func153 rfl Tryz.ntmps153 (Own.start w) ?_
  refine zB (zD rfl (zA (zL (zB (zD rfl (zA (zS ?_)))))))
  refine xH (fun (k : Nat) => [(0, v), (3, Vj k)]) (fun (k : Nat) => k ≤ l.length ∧ Rises (l.take k)) (fun (k : Nat) => []) (fun (k : Nat) => l.length - k) (fun w' hw => ⟨0, ⟨rfl, rfl, trivial⟩, ⟨Nat.zero_le _, by simpa using zDu⟩, hw⟩) (fun k g hΦ => ?_)
  refine zL (zB (zC rfl (zC rfl (yD (pR hv) rfl rfl (yI rfl rfl rfl (zA (zU rfl (fun c1 => ?_) (fun c1 => ?_))))))))
  ·
   refine zK (zL (zS (xf (by kernel_rfl) (by kernel_rfl) (zf rfl (zO) (zf rfl (zO) (zf rfl (yU (pR hv) 1 k rfl rfl rfl (by omega)) (zf rfl (yt (pR hv) 1 k 0 (fun _ => rfl) rfl rfl (by omega) rfl) (zf rfl (zFS rfl rfl) (zf rfl (zO) (zEo (q := (zI l k) < 1) 5 5 [20, 19, 18, 17, 16] (16 < (zI l k)) rfl rfl rfl rfl rfl rfl trivial rfl (fun h4_5 => ?_) (fun g4_11 => ?_)))))))))))
   ·
    refine y4 rfl (gF h4_5) (zf rfl (zO) (y4 rfl (gF h4_5) (zf rfl (zO) (y4 rfl (gF h4_5) (zf rfl (yU (pR hv) 1 k rfl rfl rfl (by omega)) (y4 rfl (gF h4_5) (zf rfl (yt (pR hv) 1 k 0 (fun _ => rfl) rfl rfl (by omega) rfl) (y4 rfl (gF h4_5) (zf rfl (zAp rfl rfl) ?_)))))))))
    exact zEC rfl
   refine zf rfl (zO) (zEo (q := ((zI l k) < 1) ∨ (16 < (zI l k))) 14 12 [36, 35, 34, 33, 32, 31, 30, 29, 28, 27, 26, 25, 24, 23] ((0 < ((k : Nat) : Int)) ∧ ((zI l k) ≤ (zI l (k - 1)))) rfl rfl rfl rfl rfl rfl trivial rfl (fun h4_12 => ?_) (fun g4_27 => ?_))
   ·
    refine y4 rfl (gF h4_12) (zf rfl (zO) (y4 rfl (gF h4_12) (zf rfl (zAp rfl rfl) (y4 rfl (gF h4_12) (zf rfl (zO) (zD0 (q := 0 < ((k : Nat) : Int)) 10 15 [35, 34, 33, 32, 31, 30, 29, 28, 27, 26] ((zI l k) ≤ (zI l (k - 1))) rfl rfl rfl rfl rfl rfl ⟨_, rfl, rfl, gF h4_12⟩ rfl (fun h4_15 => ?_) (fun g4_26 => ?_)))))))
    ·
     refine y4 rfl (gT h4_15) (zf rfl (zO) (y4 rfl (gT h4_15) (zf rfl (zO) (y4 rfl (gT h4_15) (zf rfl (kc rfl rfl (zt (by omega))) (y4 rfl (gT h4_15) (zf rfl (yU (pR hv) 1 (k - 1) rfl rfl (by omega) (by omega)) (y4 rfl (gT h4_15) (zf rfl (yt (pR hv) 1 (k - 1) 0 (fun _ => rfl) rfl rfl (by omega) rfl) (y4 rfl (gT h4_15) (zf rfl (zO) (y4 rfl (gT h4_15) ?_))))))))))))
     refine zf rfl (zO) (y4 rfl (gT h4_15) (zf rfl (yU (pR hv) 1 k rfl rfl rfl (by omega)) (y4 rfl (gT h4_15) (zf rfl (yt (pR hv) 1 k 0 (fun _ => rfl) rfl rfl (by omega) rfl) (y4 rfl (gT h4_15) (zf rfl (zLT rfl rfl) ?_))))))
     exact zEC rfl
    exact zEC rfl
   refine zAB (zU rfl (fun c2 => ?_) (fun c2 => ?_))
   ·
    refine zB (zD rfl (zA ?_))
    exact zM (z8 (v := .bool false) rfl rfl (fun w' hw => ⟨(by rw [decide_eq_false]; exact zDa (k := k) (by omega) (by omega)), hw.drop⟩))
   ·
    refine zK (zd (zC rfl (zu rfl rfl (zt (by omega)) rfl (zD rfl ?_))))
    exact zj (fun w' hw => ⟨k + 1, ⟨rfl, rfl, trivial⟩, ⟨by omega, (zA6 (by omega) hΦ.2).2 (by omega)⟩, hw, (by omega)⟩)
  ·
   refine yG rfl (zB (zD rfl (zA ?_)))
   exact zM (z8 (v := .bool true) rfl rfl (fun w' hw => ⟨(by rw [decide_eq_true]; have h := hΦ.2; rwa [List.take_of_length_le (by omega)] at h), hw.drop⟩))
theorem zCc (v : Value) (l : List Int) (w : World) (hl : zb l.length) (hv : Rd w [] (Res.sl v l.length (l.flatMap I1))) : Rets Tryz.prog 174 #[v] w fun u_ w' => u_ = .bool (decide (Rises l)) ∧ Own w [] [] w' := by
  refine zW Tryz.func174 rfl Tryz.ntmps174 (Own.start w) ?_
  refine zB (zD rfl (zA (zL (zB (zC rfl (yD (pR hv) rfl rfl (zC rfl (zA (zS ?_)))))))))
  refine xH (fun (k : Nat) => [(0, v), (5, v), (6, Vj l.length), (7, Vj k)]) (fun (k : Nat) => k ≤ l.length ∧ Rises (l.take k)) (fun (k : Nat) => []) (fun (k : Nat) => l.length - k) (fun w' hw => ⟨0, ⟨rfl, rfl, rfl, rfl, trivial⟩, ⟨Nat.zero_le _, by simpa using zDu⟩, hw⟩) (fun k g hΦ => ?_)
  refine zB (yI rfl rfl rfl (zA (zL (zU rfl (fun c1 => ?_) (fun c1 => ?_)))))
  ·
   refine zK (zL (zS (zB (zC rfl (zH (pR hv) 1 k rfl rfl rfl (by omega) rfl (zV (pR hv) 1 k 0 (fun _ => rfl) rfl rfl (by omega) rfl rfl (zD rfl (zD rfl (zA (zB (zC rfl (yI rfl rfl rfl ?_))))))))))))
   refine zC rfl (ya (q := (zI l k) < 1) 2 2 [16, 15] (16 < (zI l k)) rfl rfl rfl rfl rfl rfl trivial rfl (fun h4_2 => ?_) (fun g4_5 => ?_))
   ·
    refine zP rfl (gF h4_2) (zC rfl (zP rfl (gF h4_2) (yi rfl rfl rfl ?_)))
    exact yP rfl (fun _ hw => hw)
   refine zC rfl (ya (q := ((zI l k) < 1) ∨ (16 < (zI l k))) 11 6 [29, 28, 27, 26, 25, 24, 23, 22, 21, 20, 19] ((0 < ((k : Nat) : Int)) ∧ ((zI l k) ≤ (zI l (k - 1)))) rfl rfl rfl rfl rfl rfl trivial rfl (fun h4_6 => ?_) (fun g4_18 => ?_))
   ·
    refine zP rfl (gF h4_6) (zC rfl (zP rfl (gF h4_6) (yi rfl rfl rfl (zP rfl (gF h4_6) (zC rfl (yR (q := 0 < ((k : Nat) : Int)) 7 9 [28, 27, 26, 25, 24, 23, 22] ((zI l k) ≤ (zI l (k - 1))) rfl rfl rfl rfl rfl rfl ⟨_, rfl, rfl, gF h4_6⟩ rfl (fun h4_9 => ?_) (fun g4_17 => ?_)))))))
    ·
     refine zP rfl (gT h4_9) (zC rfl (zP rfl (gT h4_9) (zC rfl (zP rfl (gT h4_9) (zC rfl (zP rfl (gT h4_9) (yb rfl rfl (zt (by omega)) rfl (zP rfl (gT h4_9) (zH (pR hv) 1 (k - 1) rfl rfl (by omega) (by omega) rfl (zP rfl (gT h4_9) (zV (pR hv) 1 (k - 1) 0 (fun _ => rfl) rfl rfl (by omega) rfl rfl (zP rfl (gT h4_9) ?_))))))))))))
     refine kd rfl rfl rfl ?_
     exact yP rfl (fun _ hw => hw)
    exact yP rfl (fun _ hw => hw)
   refine zA (zU rfl (fun c2 => ?_) (fun c2 => ?_))
   ·
    refine zB (zD rfl (zA ?_))
    exact zM (z8 (v := .bool false) rfl rfl (fun w' hw => ⟨(by rw [decide_eq_false]; exact zDa (k := k) (by omega) (by omega)), hw.drop⟩))
   ·
    refine zK (zd (zu rfl rfl (zt (by omega)) rfl (zC rfl ?_)))
    exact zj (fun w' hw => ⟨k + 1, ⟨rfl, rfl, rfl, rfl, trivial⟩, ⟨by omega, (zA6 (by omega) hΦ.2).2 (by omega)⟩, hw, (by omega)⟩)
  ·
   refine yG rfl (zB (zD rfl (zA ?_)))
   exact zM (z8 (v := .bool true) rfl rfl (fun w' hw => ⟨(by rw [decide_eq_true]; have h := hΦ.2; rwa [List.take_of_length_le (by omega)] at h), hw.drop⟩))
structure ConfD.wf (x : ConfD) : Prop where
  vs : zb x.vs.length
  ls : zb x.ls.length
def ConfD.ok (x : ConfD) : Prop := ((Rises x.vs ∧ Rises x.ls) ∧ 0 < x.vs.length) ∧ ∀ v ∈ x.vs, v ∉ x.ls
instance (x : ConfD) : Decidable x.ok := inferInstanceAs (Decidable ((_ ∧ _) ∧ _))
theorem zFe (c : ConfD) (w : World) (hc : c.wf) (rd_c : ConfD.rd c w []) : Rets Tryz.prog 130 #[.agg (ConfD.cells c).toArray] w fun u_ w' => u_ = .bool (decide c.ok) ∧ Own w [] [] w' := by
  have hv := hc.vs
  have hl := hc.ls
  refine zW Tryz.func130 rfl Tryz.ntmps130 (Own.start w) ?_
  refine zB (yh rfl rfl (fun b1 => zD rfl (zA (zL (zB (zD rfl (zA (zS ?_))))))))
  refine xH (fun (k : Nat) => [(1, .pointer (some ⟨b1, 0, none⟩)), (3, Vj k)]) (fun (k : Nat) => k ≤ c.vs.length ∧ ∀ v ∈ c.vs.take k, v ∉ c.ls) (fun (k : Nat) => [Res.row b1 166 (ConfD.cells c)]) (fun (k : Nat) => c.vs.length - k) (fun w' hw => ⟨0, ⟨rfl, rfl, trivial⟩, ⟨Nat.zero_le _, by simp⟩, hw⟩) (fun k g hΦ => ?_)
  refine zL (zB (zC rfl (zQ (o := 0) rfl rfl (zT 0 (v := c.vv) rfl rfl rfl rfl (yD (pR rd_c.vv) rfl rfl (yI rfl rfl rfl (zA (zU rfl (fun c1 => ?_) (fun c1 => ?_)))))))))
  ·
   refine zK (zL (zS (zL (zh [0] rfl (by decide) (by kernel_rfl) (fun w' hw hS => zF 0 rfl (zk (o := 1) rfl) hS (zF 1 rfl (zr 0 (v := c.lv) rfl rfl rfl) hS (zF 2 rfl (zk (o := 0) rfl) hS (zF 3 rfl (zr 0 (v := c.vv) rfl rfl rfl) hS (zF 4 rfl (zO) hS (zF 5 rfl (yU (pR rd_c.vv) 1 k rfl rfl rfl (by omega)) hS (zF 6 rfl (yt (pR rd_c.vv) 1 k 0 (fun _ => rfl) rfl rfl (by omega) rfl) hS (zZ 7 rfl hw ?_))))))))))))
   refine zJ rfl rfl (fun w' hw => (zI7 c.lv c.ls (zI c.vs k) w' (by first | assumption | omega | (simp <;> omega) | (constructor <;> (first | omega | (simp only [zb]; omega) | (simp <;> omega)))) (hw.rd0 rd_c.lv)).mono ?_)
   rintro _ w1 ⟨rfl, hO⟩
   refine (?_ : CL _ _ _ _ _ _ (Own w [] [Res.row b1 166 (ConfD.cells c)])) w1 (hw.frame0 hO)
   refine zG [0] rfl (by decide) (fun w' hw hS => zR ?_)
   refine (?_ : C _ _ _ _ _ _ _ (Own w [] [Res.row b1 166 (ConfD.cells c)])) _ hw
   refine zU rfl (fun c2 => ?_) (fun c2 => ?_)
   ·
    refine zB (zD rfl (zA ?_))
    exact zM (z8 (v := .bool false) rfl rfl (fun w' hw => ⟨(by rw [decide_eq_false]; intro h; exact h.2 _ (yJ (by omega)) c2), hw.drop⟩))
   ·
    refine zK (zd (zC rfl (zu rfl rfl (zt (by omega)) rfl (zD rfl ?_))))
    exact zj (fun w' hw => ⟨k + 1, ⟨rfl, rfl, trivial⟩, ⟨by omega, by rw [yE (by omega)]; intro v hv; rcases List.mem_append.1 hv with h | h; exact hΦ.2 v h; simp at h; rw [h]; exact c2⟩, hw, (by omega)⟩)
  ·
   refine yG rfl (zB (zQ (o := 0) rfl rfl (zT 0 (v := c.vv) rfl rfl rfl rfl (zJ rfl rfl (fun w' hw => (zBt c.vv c.vs w' (by first | assumption | omega | (simp <;> omega) | (constructor <;> (first | omega | (simp only [zb]; omega) | (simp <;> omega)))) (hw.rd0 rd_c.vv)).mono ?_)))))
   rintro _ w1 ⟨rfl, hO⟩
   refine (?_ : CL _ _ _ _ _ _ (Own w [] [Res.row b1 166 (ConfD.cells c)])) w1 (hw.frame0 hO)
   refine zC rfl (yR (q := Rises c.vs) 3 3 [25, 24, 23] (Rises c.ls) rfl rfl rfl rfl rfl rfl trivial rfl (fun h6_3 => ?_) (fun g6_7 => ?_))
   ·
    refine zP rfl (gT h6_3) (zQ (o := 1) rfl rfl (zP rfl (gT h6_3) (zT 0 (v := c.lv) rfl rfl rfl rfl (zP rfl (gT h6_3) (zJ rfl rfl (fun w' hw => (zBt c.lv c.ls w' (by first | assumption | omega | (simp <;> omega) | (constructor <;> (first | omega | (simp only [zb]; omega) | (simp <;> omega)))) (hw.rd0 rd_c.lv)).mono ?_))))))
    rintro _ w1 ⟨rfl, hO⟩
    refine (?_ : CL _ _ _ _ _ _ (Own w [] [Res.row b1 166 (ConfD.cells c)])) w1 (hw.frame0 hO)
    exact yP rfl (fun _ hw => hw)
   refine zC rfl (yR (q := (Rises c.vs) ∧ (Rises c.ls)) 4 8 [31, 30, 29, 28] (0 < ((c.vs.length : Nat) : Int)) rfl rfl rfl rfl rfl rfl trivial rfl (fun h6_8 => ?_) (fun g6_13 => ?_))
   ·
    refine zP rfl (gT h6_8) (zQ (o := 0) rfl rfl (zP rfl (gT h6_8) (zT 0 (v := c.vv) rfl rfl rfl rfl (zP rfl (gT h6_8) (yD (pR rd_c.vv) rfl rfl (zP rfl (gT h6_8) (yi rfl rfl rfl ?_)))))))
    exact yP rfl (fun _ hw => hw)
   refine zD rfl (zA ?_)
   exact zM (z8 (v := .bool (decide (((Rises c.vs) ∧ (Rises c.ls)) ∧ (0 < ((c.vs.length : Nat) : Int))))) rfl rfl (fun w' hw => ⟨(by congr 1; exact decide_eq_decide.2 (by unfold ConfD.ok; have h := hΦ.2; rw [List.take_of_length_le (by omega)] at h; exact ⟨fun q => ⟨⟨q.1, by have := q.2; omega⟩, h⟩, fun q => ⟨q.1.1, by have := q.1.2; omega⟩⟩)), hw.drop⟩))
theorem zIp (v : Value) (l : List Int) (n : Int) (w : World) (hl : zb l.length) (hv : Rd w [] (Res.sl v l.length (l.flatMap I1))) : Rets Tryz.prog 195 #[v, Vi n] w fun u_ w' => ∃ (i : Int), u_ = Vi i ∧ (0 ≤ i ↔ n ∈ l) ∧ Own w [] [] w' := by
  refine zW Tryz.func195 rfl Tryz.ntmps195 (Own.start w) ?_
  refine zB (zD rfl (zA (zL (zB (zC rfl (yD (pR hv) rfl rfl (zC rfl (zA (zS ?_)))))))))
  refine xH (fun (k : Nat) => [(0, v), (1, Vi n), (7, Vj l.length), (8, Vj k)]) (fun (k : Nat) => k ≤ l.length ∧ n ∉ l.take k) (fun (k : Nat) => []) (fun (k : Nat) => l.length - k) (fun w' hw => ⟨0, ⟨rfl, rfl, rfl, rfl, trivial⟩, ⟨Nat.zero_le _, by simp⟩, hw⟩) (fun k g hΦ => ?_)
  refine zB (yI rfl rfl rfl (zA (zL (zU rfl (fun c1 => ?_) (fun c1 => ?_)))))
  ·
   refine zK (zL (zS (zB (zC rfl (zD rfl (zA (zB (zC rfl (zC rfl (zC rfl (zH (pR hv) 1 k rfl rfl rfl (by omega) rfl (zV (pR hv) 1 k 0 (fun _ => rfl) rfl rfl (by omega) rfl rfl ?_))))))))))))
   refine yu rfl rfl rfl (zA (zU rfl (fun c2 => ?_) (fun c2 => ?_)))
   ·
    refine zB (zC rfl (zD rfl (zA ?_)))
    exact zM (z8 (v := Vj k) rfl rfl (fun w' hw => ⟨k, rfl, ⟨fun _ => c2 ▸ yJ (by omega), fun _ => by omega⟩, hw.drop⟩))
   ·
    refine zK (zd (zu rfl rfl (zt (by omega)) rfl (zC rfl ?_)))
    exact zj (fun w' hw => ⟨k + 1, ⟨rfl, rfl, rfl, rfl, trivial⟩, ⟨by omega, by rw [yE (by omega)]; simp; exact ⟨hΦ.2, fun e => c2 e⟩⟩, hw, (by omega)⟩)
  ·
   refine yG rfl (zB (zD rfl (zA ?_)))
   exact zM (z8 (v := Vi (-1)) rfl rfl (fun w' hw => ⟨-1, rfl, ⟨fun h => by omega, fun h => by have h2 := hΦ.2; rw [List.take_of_length_le (by omega)] at h2; exact absurd h h2⟩, hw.drop⟩))
theorem zDP (v : Value) (l : List Int) (n : Int) (w : World) (hl : zb l.length) (hv : Rd w [] (Res.sl v l.length (l.flatMap I1))) : Rets Tryz.prog 177 #[v, Vi n] w fun u_ w' => u_ = .bool (decide (n ∈ l)) ∧ Own w [] [] w' := by
  refine zW Tryz.func177 rfl Tryz.ntmps177 (Own.start w) ?_
  refine zB (zD rfl (zA (zB (zC rfl (zC rfl (zJ rfl rfl (fun w' hw => (zIp v l n w' (by first | assumption | omega | (simp <;> omega) | (constructor <;> (first | omega | (simp only [zb]; omega) | (simp <;> omega)))) (hw.rd0 hv)).mono ?_)))))))
  rintro _ w1 ⟨i1_, rfl, hf1_2, hO⟩
  refine (?_ : CL _ _ _ _ _ _ (Own w [] [])) w1 (hw.frame0 hO)
  refine xC rfl rfl rfl (zD rfl (zA ?_))
  exact zM (z8 (v := .bool (decide (0 ≤ i1_))) rfl rfl (fun w' hw => ⟨(by congr 1; exact decide_eq_decide.2 (by omega)), hw.drop⟩))
theorem zEU (n : Int) (cb : Nat) (c : ConfD) (w : World) (hc : c.wf) (hcb : Rd w [] (Res.row cb 166 (ConfD.cells c))) (rd_c : ConfD.rd c w []) : Rets Tryz.prog 176 #[Vi n, .pointer (some ⟨cb, 0, none⟩)] w fun u_ w' => u_ = .bool (decide (n ∈ c.ls)) ∧ Own w [] [] w' := by
  have hv := hc.vs
  have hl := hc.ls
  refine zW Tryz.func176 rfl Tryz.ntmps176 (Own.start w) ?_
  refine zB (zD rfl (zA (zB (zQ (o := 1) rfl rfl (zNh (v := c.lv) rfl (hcb.φ.cell rfl) (hcb.far _ (by simp [Res.row])) (by kernel_rfl) rfl (zC rfl (zJ rfl rfl (fun w' hw => (zDP c.lv c.ls n w' (by first | assumption | omega | (simp <;> omega) | (constructor <;> (first | omega | (simp only [zb]; omega) | (simp <;> omega)))) (hw.rd0 rd_c.lv)).mono ?_))))))))
  rintro _ w1 ⟨rfl, hO⟩
  refine (?_ : CL _ _ _ _ _ _ (Own w [] [])) w1 (hw.frame0 hO)
  refine zD rfl (zA ?_)
  exact zM (z8 (v := .bool (decide (n ∈ c.ls))) rfl rfl (fun w' hw => ⟨rfl, hw.drop⟩))
theorem zEW (v : Value) (l : List Int) (cb : Nat) (c : ConfD) (w : World) (hl : zb l.length) (hc : c.wf) (hcb : Rd w [] (Res.row cb 166 (ConfD.cells c))) (rd_c : ConfD.rd c w []) (hv : Rd w [] (Res.sl v l.length (l.flatMap I1))) : Rets Tryz.prog 194 #[v, .func (.func 176) #[] #[.pointer (some ⟨cb, 0, none⟩)]] w fun u_ w' => ∃ (i : Int), u_ = Vi i ∧ (0 ≤ i ↔ ∃ q ∈ l, q ∈ c.ls) ∧ Own w [] [] w' := by
  refine zW Tryz.func194 rfl Tryz.ntmps194 (Own.start w) ?_
  refine zB (zD rfl (zA (zL (zB (zC rfl (yD (pR hv) rfl rfl (zC rfl (zA (zS ?_)))))))))
  refine xH (fun (k : Nat) => [(0, v), (1, .func (.func 176) #[] #[.pointer (some ⟨cb, 0, none⟩)]), (7, Vj l.length), (8, Vj k)]) (fun (k : Nat) => k ≤ l.length ∧ ∀ v ∈ l.take k, v ∉ c.ls) (fun (k : Nat) => []) (fun (k : Nat) => l.length - k) (fun w' hw => ⟨0, ⟨rfl, rfl, rfl, rfl, trivial⟩, ⟨Nat.zero_le _, by simp⟩, hw⟩) (fun k g hΦ => ?_)
  refine zB (yI rfl rfl rfl (zA (zL (zU rfl (fun c1 => ?_) (fun c1 => ?_)))))
  ·
   refine zK (zL (zS (zB (zC rfl (zD rfl (zA (zB (zC rfl (zC rfl (zC rfl (zH (pR hv) 1 k rfl rfl rfl (by omega) rfl (zV (pR hv) 1 k 0 (fun _ => rfl) rfl rfl (by omega) rfl rfl ?_))))))))))))
   refine xJ (fst := []) (cap := [.pointer (some ⟨cb, 0, none⟩)]) rfl (by kernel_rfl) rfl rfl (fun w' hw => (zEU (zI l k) cb c w' ‹_› (hw.rd0 hcb) (rd_c.at0 hw)).mono ?_)
   rintro _ w1 ⟨rfl, hO⟩
   refine (?_ : CL _ _ _ _ _ _ (Own w [] [])) w1 (hw.frame0 hO)
   refine zA (zU rfl (fun c2 => ?_) (fun c2 => ?_))
   ·
    refine zB (zC rfl (zD rfl (zA ?_)))
    exact zM (z8 (v := Vj k) rfl rfl (fun w' hw => ⟨k, rfl, ⟨fun _ => ⟨_, yJ (by omega), c2⟩, fun _ => by omega⟩, hw.drop⟩))
   ·
    refine zK (zd (zu rfl rfl (zt (by omega)) rfl (zC rfl ?_)))
    exact zj (fun w' hw => ⟨k + 1, ⟨rfl, rfl, rfl, rfl, trivial⟩, ⟨by omega, by rw [yE (by omega)]; intro v hv; rcases List.mem_append.1 hv with h | h; exact hΦ.2 v h; simp at h; rw [h]; exact c2⟩, hw, (by omega)⟩)
  ·
   refine yG rfl (zB (zD rfl (zA ?_)))
   exact zM (z8 (v := Vi (-1)) rfl rfl (fun w' hw => ⟨-1, rfl, ⟨fun h => by omega, fun ⟨v, h, h'⟩ => by have h2 := hΦ.2; rw [List.take_of_length_le (by omega)] at h2; exact absurd h' (h2 v h)⟩, hw.drop⟩))
theorem zBb (v : Value) (l : List Int) (cb : Nat) (c : ConfD) (w : World) (hl : zb l.length) (hc : c.wf) (hcb : Rd w [] (Res.row cb 166 (ConfD.cells c))) (rd_c : ConfD.rd c w []) (hv : Rd w [] (Res.sl v l.length (l.flatMap I1))) : Rets Tryz.prog 175 #[v, .func (.func 176) #[] #[.pointer (some ⟨cb, 0, none⟩)]] w fun u_ w' => u_ = .bool (decide (∃ q ∈ l, q ∈ c.ls)) ∧ Own w [] [] w' := by
  refine zW Tryz.func175 rfl Tryz.ntmps175 (Own.start w) ?_
  refine zB (zD rfl (zA (zB (zC rfl (zC rfl (zJ rfl rfl (fun w' hw => (zEW v l cb c w' (by first | assumption | omega | (simp <;> omega) | (constructor <;> (first | omega | (simp only [zb]; omega) | (simp <;> omega)))) ‹_› (hw.rd0 hcb) (rd_c.at0 hw) (hw.rd0 hv)).mono ?_)))))))
  rintro _ w1 ⟨i1_, rfl, hf1_2, hO⟩
  refine (?_ : CL _ _ _ _ _ _ (Own w [] [])) w1 (hw.frame0 hO)
  refine xC rfl rfl rfl (zD rfl (zA ?_))
  exact zM (z8 (v := .bool (decide (0 ≤ i1_))) rfl rfl (fun w' hw => ⟨(by congr 1; exact decide_eq_decide.2 (by omega)), hw.drop⟩))
theorem zC4 (c : ConfD) (w : World) (hc : c.wf) (rd_c : ConfD.rd c w []) : Rets Tryz.prog 173 #[.agg (ConfD.cells c).toArray] w fun u_ w' => u_ = .bool (decide c.ok) ∧ Own w [] [] w' := by
  have hv := hc.vs
  have hl := hc.ls
  refine zW Tryz.func173 rfl Tryz.ntmps173 (Own.start w) ?_
  refine zB (yh rfl rfl (fun b1 => zD rfl (zA (zB (zQ (o := 0) rfl rfl (zT 0 (v := c.vv) rfl rfl rfl rfl (zJ rfl rfl (fun w' hw => (zCc c.vv c.vs w' (by first | assumption | omega | (simp <;> omega) | (constructor <;> (first | omega | (simp only [zb]; omega) | (simp <;> omega)))) (hw.rd0 rd_c.vv)).mono ?_))))))))
  rintro _ w1 ⟨rfl, hO⟩
  refine (?_ : CL _ _ _ _ _ _ (Own w [] [Res.row b1 166 (ConfD.cells c)])) w1 (hw.frame0 hO)
  refine zC rfl (yR (q := Rises c.vs) 3 3 [9, 8, 7] (Rises c.ls) rfl rfl rfl rfl rfl rfl trivial rfl (fun h1_3 => ?_) (fun g1_7 => ?_))
  ·
   refine zP rfl (gT h1_3) (zQ (o := 1) rfl rfl (zP rfl (gT h1_3) (zT 0 (v := c.lv) rfl rfl rfl rfl (zP rfl (gT h1_3) (zJ rfl rfl (fun w' hw => (zCc c.lv c.ls w' (by first | assumption | omega | (simp <;> omega) | (constructor <;> (first | omega | (simp only [zb]; omega) | (simp <;> omega)))) (hw.rd0 rd_c.lv)).mono ?_))))))
   rintro _ w1 ⟨rfl, hO⟩
   refine (?_ : CL _ _ _ _ _ _ (Own w [] [Res.row b1 166 (ConfD.cells c)])) w1 (hw.frame0 hO)
   exact yP rfl (fun _ hw => hw)
  refine zC rfl (yR (q := (Rises c.vs) ∧ (Rises c.ls)) 4 8 [15, 14, 13, 12] (0 < ((c.vs.length : Nat) : Int)) rfl rfl rfl rfl rfl rfl trivial rfl (fun h1_8 => ?_) (fun g1_13 => ?_))
  ·
   refine zP rfl (gT h1_8) (zQ (o := 0) rfl rfl (zP rfl (gT h1_8) (zT 0 (v := c.vv) rfl rfl rfl rfl (zP rfl (gT h1_8) (yD (pR rd_c.vv) rfl rfl (zP rfl (gT h1_8) (yi rfl rfl rfl ?_)))))))
   exact yP rfl (fun _ hw => hw)
  refine zC rfl (yR (q := ((Rises c.vs) ∧ (Rises c.ls)) ∧ (0 < ((c.vs.length : Nat) : Int))) 5 14 [22, 21, 20, 19, 18] (¬ (∃ q ∈ c.vs, q ∈ c.ls)) rfl rfl rfl rfl rfl rfl trivial rfl (fun h1_14 => ?_) (fun g1_20 => ?_))
  ·
   refine zP rfl (gT h1_14) (zQ (o := 0) rfl rfl (zP rfl (gT h1_14) (zT 0 (v := c.vv) rfl rfl rfl rfl (zP rfl (gT h1_14) (zIK (va := []) (vb := [.pointer (some ⟨b1, 0, none⟩)]) rfl rfl rfl (zP rfl (gT h1_14) (zJ rfl rfl (fun w' hw => (zBb c.vv c.vs b1 c w' (by first | assumption | omega | (simp <;> omega) | (constructor <;> (first | omega | (simp only [zb]; omega) | (simp <;> omega)))) ‹_› (hw.rdRes0 0 rfl) (rd_c.at0 hw) (hw.rd0 rd_c.vv)).mono ?_))))))))
   rintro _ w1 ⟨rfl, hO⟩
   refine (?_ : CL _ _ _ _ _ _ (Own w [] [Res.row b1 166 (ConfD.cells c)])) w1 (hw.frame0 hO)
   refine zP rfl (gT h1_14) (xp (q := ∃ q ∈ c.vs, q ∈ c.ls) rfl rfl ?_)
   exact yP rfl (fun _ hw => hw)
  refine zD rfl (zA ?_)
  exact zM (z8 (v := .bool (decide ((((Rises c.vs) ∧ (Rises c.ls)) ∧ (0 < ((c.vs.length : Nat) : Int))) ∧ (¬ (∃ q ∈ c.vs, q ∈ c.ls))))) rfl rfl (fun w' hw => ⟨(by congr 1; exact decide_eq_decide.2 (by unfold ConfD.ok; exact ⟨fun h => ⟨⟨h.1.1, by have := h.1.2; omega⟩, fun v hv hv' => h.2 ⟨v, hv, hv'⟩⟩, fun h => ⟨⟨h.1.1, by have := h.1.2; omega⟩, fun ⟨v, hv, hv'⟩ => h.2 v hv hv'⟩⟩)), hw.drop⟩))
end Go.Proofs.YthincafbmpialaaGreat
