import Derived.Test.YtkkeknmkipkbmaaGreatFwT
import Derived.Test.YtkkeknmkipkbmaaGreatChecked
set_option linter.unusedSectionVars false
set_option linter.unusedSimpArgs false
set_option linter.unusedVariables false
set_option maxRecDepth 10000
namespace Go.Proofs.YtkkeknmkipkbmaaGreat
open Go Go.Sc Go.Proofs
structure ConfD where
  vv : Value
  vs : List Int
  lv : Value
  ls : List Int
def ConfD.cells (x : ConfD) : List Value := [x.vv, x.lv]
structure ConfD.rd (x : ConfD) (w : World) (S : List Nat) : Prop where
  vv : Rd w S (Res.sl x.vv x.vs.length (x.vs.flatMap I1))
  lv : Rd w S (Res.sl x.lv x.ls.length (x.ls.flatMap I1))
theorem ConfD.rd.at0 {x : ConfD} {w0 w : World} {S : List Nat} {L : List Res} (h : x.rd w0 S) (hw : Own w0 S L w) : x.rd w [] := ⟨hw.rd0 h.vv, hw.rd0 h.lv⟩
theorem ConfD.rd.at {x : ConfD} {w0 w : World} {S : List Nat} {L Lin : List Res} (h : x.rd w0 S) (hw : Own w0 S L w) (m : List Nat) (hm : m.mapM (fun i => L[i]?) = some Lin) : x.rd w (y1 Lin) := ⟨hw.rdTo h.vv m hm, hw.rdTo h.lv m hm⟩
def Rises (l : List Int) : Prop := (0 :: l).Pairwise (· < ·) ∧ ∀ x ∈ l, x ≤ 16
instance (l : List Int) : Decidable (Rises l) := inferInstanceAs (Decidable (_ ∧ _))
theorem Rises.take {l : List Int} (h : Rises l) (k : Nat) : Rises (l.take k) :=
  ⟨by have := h.1.take (i := k + 1); simpa using this, fun x hx => h.2 x (List.mem_of_mem_take hx)⟩
theorem zA2 {l : List Int} {x : Int} : Rises (l ++ [x]) ↔ Rises l ∧ x ≤ 16 ∧ 1 ≤ x ∧ ∀ y ∈ l, y < x := by
  unfold Rises
  rw [← List.cons_append, List.pairwise_append]
  simp only [List.mem_append, List.mem_cons, List.not_mem_nil, or_false, List.pairwise_cons, List.Pairwise.nil]
  constructor
  · rintro ⟨⟨h1, _, h3⟩, h4⟩
    exact ⟨⟨h1, fun x hx => h4 x (.inl hx)⟩, h4 _ (.inr rfl), by have := h3 0 (.inl rfl) x rfl; omega, fun y hy => h3 y (.inr hy) x rfl⟩
  · rintro ⟨⟨h1, h2⟩, h3, h4, h5⟩
    refine ⟨⟨h1, ⟨by simp, trivial⟩, ?_⟩, ?_⟩
    · rintro a (rfl | ha) b rfl
      · omega
      · exact h5 a ha
    · rintro y (hy | rfl)
      · exact h2 y hy
      · exact h3
theorem jE {l : List Int} {k : Nat} (hk : k < l.length) (h : Rises (l.take k)) : Rises (l.take (k + 1)) ↔ zU l k ≤ 16 ∧ 1 ≤ zU l k ∧ (0 < k → zU l (k - 1) < zU l k) := by
  rw [z5 hk, zA2]
  constructor
  · rintro ⟨_, h1, h2, h3⟩
    refine ⟨h1, h2, fun h0 => h3 _ ?_⟩
    rw [List.mem_iff_getElem?]
    exact ⟨k - 1, by rw [List.getElem?_take, if_pos (by omega)]; exact yw (by omega)⟩
  · rintro ⟨h1, h2, h3⟩
    refine ⟨h, h1, h2, fun y hy => ?_⟩
    obtain ⟨i, hi⟩ := List.mem_iff_getElem?.1 hy
    rw [List.getElem?_take] at hi
    split at hi
    · rename_i hik
      have e := jq hi
      by_cases hlast : i = k - 1
      · subst hlast; rw [← e]; exact h3 (by omega)
      · have h4 := h3 (by omega)
        have h5 := h.1
        rw [List.pairwise_cons] at h5
        have h6 := List.pairwise_iff_getElem.1 h5.2 i (k - 1) (by simp; omega) (by simp; omega) (by omega)
        rw [List.getElem_take, List.getElem_take] at h6
        have e1 := jq (List.getElem?_eq_getElem (l := l) (i := i) (by omega))
        have e2 := jq (List.getElem?_eq_getElem (l := l) (i := k - 1) (by omega))
        rw [← e1, ← e2, e] at h6
        omega
    · cases hi
theorem zBn {l : List Int} {k : Nat} (hk : k < l.length) (h : ¬ (zU l k ≤ 16 ∧ 1 ≤ zU l k ∧ (0 < k → zU l (k - 1) < zU l k))) : ¬ Rises l := fun hr => h ((jE hk (hr.take k)).1 (hr.take (k + 1)))
theorem zBy : Rises [] := ⟨by simp, by simp⟩
theorem k8 (v : Value) (l : List Int) (w : World) (hl : zT l.length) (hv : Rd w [] (Res.sl v l.length (l.flatMap I1))) : Rets Tryz.prog 148 #[v] w fun u_ w' => u_ = .bool (decide (Rises l)) ∧ Own w [] [] w' := by
  refine zR Tryz.func148 rfl Tryz.ntmps148 (Own.start w) ?_
  refine zB (zH rfl (zA (zQ (zB (zC rfl (zk (pR hv) rfl rfl (zC rfl (zA (zY ?_)))))))))
  refine yM (fun (k : Nat) => [(0, v), (5, v), (6, Vj l.length), (7, Vj k)]) (fun (k : Nat) => k ≤ l.length ∧ Rises (l.take k)) (fun (k : Nat) => []) (fun (k : Nat) => l.length - k) (fun w' hw => ⟨0, ⟨rfl, rfl, rfl, rfl, trivial⟩, ⟨Nat.zero_le _, by simpa using zBy⟩, hw⟩) (fun k g hΦ => ?_)
  refine zB (z4 rfl rfl rfl (zA (zQ (zV rfl (fun c1 => ?_) (fun c1 => ?_)))))
  ·
   refine zP (zQ (zY (zB (zC rfl (z6 (pR hv) 1 k rfl rfl rfl (by omega) rfl (yY (pR hv) 1 k 0 (fun _ => rfl) rfl rfl (by omega) rfl rfl (zH rfl (zH rfl (zA (zB (zC rfl (z4 rfl rfl rfl ?_))))))))))))
   refine zC rfl (yC (q := (zU l k) < 1) 2 2 [16, 15] (16 < (zU l k)) rfl rfl rfl rfl rfl rfl trivial rfl (fun h4_2 => ?_) (fun g4_5 => ?_))
   ·
    refine zN rfl (gF h4_2) (zC rfl (zN rfl (gF h4_2) (yP rfl rfl rfl ?_)))
    exact z7 rfl (fun _ hw => hw)
   refine zC rfl (yC (q := ((zU l k) < 1) ∨ (16 < (zU l k))) 11 6 [29, 28, 27, 26, 25, 24, 23, 22, 21, 20, 19] ((0 < ((k : Nat) : Int)) ∧ ((zU l k) ≤ (zU l (k - 1)))) rfl rfl rfl rfl rfl rfl trivial rfl (fun h4_6 => ?_) (fun g4_18 => ?_))
   ·
    refine zN rfl (gF h4_6) (zC rfl (zN rfl (gF h4_6) (yP rfl rfl rfl (zN rfl (gF h4_6) (zC rfl (yE (q := 0 < ((k : Nat) : Int)) 7 9 [28, 27, 26, 25, 24, 23, 22] ((zU l k) ≤ (zU l (k - 1))) rfl rfl rfl rfl rfl rfl ⟨_, rfl, rfl, gF h4_6⟩ rfl (fun h4_9 => ?_) (fun g4_17 => ?_)))))))
    ·
     refine zN rfl (gT h4_9) (zC rfl (zN rfl (gT h4_9) (zC rfl (zN rfl (gT h4_9) (zC rfl (zN rfl (gT h4_9) (xW rfl rfl (zo (by omega)) rfl (zN rfl (gT h4_9) (z6 (pR hv) 1 (k - 1) rfl rfl (by omega) (by omega) rfl (zN rfl (gT h4_9) (yY (pR hv) 1 (k - 1) 0 (fun _ => rfl) rfl rfl (by omega) rfl rfl (zN rfl (gT h4_9) ?_))))))))))))
     refine xX rfl rfl rfl ?_
     exact z7 rfl (fun _ hw => hw)
    exact z7 rfl (fun _ hw => hw)
   refine zA (zV rfl (fun c2 => ?_) (fun c2 => ?_))
   ·
    refine zB (zH rfl (zA ?_))
    exact zS (zx (v := .bool false) rfl rfl (fun w' hw => ⟨(by rw [decide_eq_false]; exact zBn (k := k) (by omega) (by omega)), hw.drop⟩))
   ·
    refine zP (zZ (zu rfl rfl (zo (by omega)) rfl (zC rfl ?_)))
    exact zl (fun w' hw => ⟨k + 1, ⟨rfl, rfl, rfl, rfl, trivial⟩, ⟨by omega, (jE (by omega) hΦ.2).2 (by omega)⟩, hw, (by omega)⟩)
  ·
   refine z8 rfl (zB (zH rfl (zA ?_)))
   exact zS (zx (v := .bool true) rfl rfl (fun w' hw => ⟨(by rw [decide_eq_true]; have h := hΦ.2; rwa [List.take_of_length_le (by omega)] at h), hw.drop⟩))
structure ConfD.wf (x : ConfD) : Prop where
  vs : zT x.vs.length
  ls : zT x.ls.length
def ConfD.ok (x : ConfD) : Prop := ((Rises x.vs ∧ Rises x.ls) ∧ 0 < x.vs.length) ∧ ∀ v ∈ x.vs, v ∉ x.ls
instance (x : ConfD) : Decidable x.ok := inferInstanceAs (Decidable ((_ ∧ _) ∧ _))
theorem zCm (v : Value) (l : List Int) (n : Int) (w : World) (hl : zT l.length) (hv : Rd w [] (Res.sl v l.length (l.flatMap I1))) : Rets Tryz.prog 116 #[v, Vi n] w fun u_ w' => ∃ (i : Int), u_ = Vi i ∧ (0 ≤ i ↔ n ∈ l) ∧ Own w [] [] w' := by
  refine zR Tryz.func116 rfl Tryz.ntmps116 (Own.start w) ?_
  refine zB (zH rfl (zA (zQ (zB (zC rfl (zk (pR hv) rfl rfl (zC rfl (zA (zY ?_)))))))))
  refine yM (fun (k : Nat) => [(0, v), (1, Vi n), (7, Vj l.length), (8, Vj k)]) (fun (k : Nat) => k ≤ l.length ∧ n ∉ l.take k) (fun (k : Nat) => []) (fun (k : Nat) => l.length - k) (fun w' hw => ⟨0, ⟨rfl, rfl, rfl, rfl, trivial⟩, ⟨Nat.zero_le _, by simp⟩, hw⟩) (fun k g hΦ => ?_)
  refine zB (z4 rfl rfl rfl (zA (zQ (zV rfl (fun c1 => ?_) (fun c1 => ?_)))))
  ·
   refine zP (zQ (zY (zB (zC rfl (zH rfl (zA (zB (zC rfl (zC rfl (zC rfl (z6 (pR hv) 1 k rfl rfl rfl (by omega) rfl (yY (pR hv) 1 k 0 (fun _ => rfl) rfl rfl (by omega) rfl rfl ?_))))))))))))
   refine yk rfl rfl rfl (zA (zV rfl (fun c2 => ?_) (fun c2 => ?_)))
   ·
    refine zB (zC rfl (zH rfl (zA ?_)))
    exact zS (zx (v := Vj k) rfl rfl (fun w' hw => ⟨k, rfl, ⟨fun _ => c2 ▸ zt (by omega), fun _ => by omega⟩, hw.drop⟩))
   ·
    refine zP (zZ (zu rfl rfl (zo (by omega)) rfl (zC rfl ?_)))
    exact zl (fun w' hw => ⟨k + 1, ⟨rfl, rfl, rfl, rfl, trivial⟩, ⟨by omega, by rw [z5 (by omega)]; simp; exact ⟨hΦ.2, fun e => c2 e⟩⟩, hw, (by omega)⟩)
  ·
   refine z8 rfl (zB (zH rfl (zA ?_)))
   exact zS (zx (v := Vi (-1)) rfl rfl (fun w' hw => ⟨-1, rfl, ⟨fun h => by omega, fun h => by have h2 := hΦ.2; rw [List.take_of_length_le (by omega)] at h2; exact absurd h h2⟩, hw.drop⟩))
theorem xi (v : Value) (l : List Int) (n : Int) (w : World) (hl : zT l.length) (hv : Rd w [] (Res.sl v l.length (l.flatMap I1))) : Rets Tryz.prog 72 #[v, Vi n] w fun u_ w' => u_ = .bool (decide (n ∈ l)) ∧ Own w [] [] w' := by
  refine zR Tryz.func72 rfl Tryz.ntmps72 (Own.start w) ?_
  refine zB (zH rfl (zA (zB (zC rfl (zC rfl (zF rfl rfl (fun w' hw => (zCm v l n w' (by first | assumption | omega | (simp <;> omega) | (constructor <;> (first | omega | (simp only [zT]; omega) | (simp <;> omega)))) (hw.rd0 hv)).mono ?_)))))))
  rintro _ w1 ⟨i1_, rfl, hf1_2, hO⟩
  refine (?_ : CL _ _ _ _ _ _ (Own w [] [])) w1 (hw.frame0 hO)
  refine xl rfl rfl rfl (zH rfl (zA ?_))
  exact zS (zx (v := .bool (decide (0 ≤ i1_))) rfl rfl (fun w' hw => ⟨(by congr 1; exact decide_eq_decide.2 (by omega)), hw.drop⟩))
theorem jp (n : Int) (cb : Nat) (c : ConfD) (w : World) (hc : c.wf) (hcb : Rd w [] (Res.row cb 35 (ConfD.cells c))) (rd_c : ConfD.rd c w []) : Rets Tryz.prog 150 #[Vi n, .pointer (some ⟨cb, 0, none⟩)] w fun u_ w' => u_ = .bool (decide (n ∈ c.ls)) ∧ Own w [] [] w' := by
  have hv := hc.vs
  have hl := hc.ls
  refine zR Tryz.func150 rfl Tryz.ntmps150 (Own.start w) ?_
  refine zB (zH rfl (zA (zB (zL (o := 1) rfl rfl (kY (v := c.lv) rfl (hcb.φ.cell rfl) (hcb.far _ (by simp [Res.row])) (by kernel_rfl) rfl (zC rfl (zF rfl rfl (fun w' hw => (xi c.lv c.ls n w' (by first | assumption | omega | (simp <;> omega) | (constructor <;> (first | omega | (simp only [zT]; omega) | (simp <;> omega)))) (hw.rd0 rd_c.lv)).mono ?_))))))))
  rintro _ w1 ⟨rfl, hO⟩
  refine (?_ : CL _ _ _ _ _ _ (Own w [] [])) w1 (hw.frame0 hO)
  refine zH rfl (zA ?_)
  exact zS (zx (v := .bool (decide (n ∈ c.ls))) rfl rfl (fun w' hw => ⟨rfl, hw.drop⟩))
theorem j1 (v : Value) (l : List Int) (cb : Nat) (c : ConfD) (w : World) (hl : zT l.length) (hc : c.wf) (hcb : Rd w [] (Res.row cb 35 (ConfD.cells c))) (rd_c : ConfD.rd c w []) (hv : Rd w [] (Res.sl v l.length (l.flatMap I1))) : Rets Tryz.prog 191 #[v, .func (.func 150) #[] #[.pointer (some ⟨cb, 0, none⟩)]] w fun u_ w' => ∃ (i : Int), u_ = Vi i ∧ (0 ≤ i ↔ ∃ q ∈ l, q ∈ c.ls) ∧ Own w [] [] w' := by
  refine zR Tryz.func191 rfl Tryz.ntmps191 (Own.start w) ?_
  refine zB (zH rfl (zA (zQ (zB (zC rfl (zk (pR hv) rfl rfl (zC rfl (zA (zY ?_)))))))))
  refine yM (fun (k : Nat) => [(0, v), (1, .func (.func 150) #[] #[.pointer (some ⟨cb, 0, none⟩)]), (7, Vj l.length), (8, Vj k)]) (fun (k : Nat) => k ≤ l.length ∧ ∀ v ∈ l.take k, v ∉ c.ls) (fun (k : Nat) => []) (fun (k : Nat) => l.length - k) (fun w' hw => ⟨0, ⟨rfl, rfl, rfl, rfl, trivial⟩, ⟨Nat.zero_le _, by simp⟩, hw⟩) (fun k g hΦ => ?_)
  refine zB (z4 rfl rfl rfl (zA (zQ (zV rfl (fun c1 => ?_) (fun c1 => ?_)))))
  ·
   refine zP (zQ (zY (zB (zC rfl (zH rfl (zA (zB (zC rfl (zC rfl (zC rfl (z6 (pR hv) 1 k rfl rfl rfl (by omega) rfl (yY (pR hv) 1 k 0 (fun _ => rfl) rfl rfl (by omega) rfl rfl ?_))))))))))))
   refine yV (fst := []) (cap := [.pointer (some ⟨cb, 0, none⟩)]) rfl (by kernel_rfl) rfl rfl (fun w' hw => (jp (zU l k) cb c w' ‹_› (hw.rd0 hcb) (rd_c.at0 hw)).mono ?_)
   rintro _ w1 ⟨rfl, hO⟩
   refine (?_ : CL _ _ _ _ _ _ (Own w [] [])) w1 (hw.frame0 hO)
   refine zA (zV rfl (fun c2 => ?_) (fun c2 => ?_))
   ·
    refine zB (zC rfl (zH rfl (zA ?_)))
    exact zS (zx (v := Vj k) rfl rfl (fun w' hw => ⟨k, rfl, ⟨fun _ => ⟨_, zt (by omega), c2⟩, fun _ => by omega⟩, hw.drop⟩))
   ·
    refine zP (zZ (zu rfl rfl (zo (by omega)) rfl (zC rfl ?_)))
    exact zl (fun w' hw => ⟨k + 1, ⟨rfl, rfl, rfl, rfl, trivial⟩, ⟨by omega, by rw [z5 (by omega)]; intro v hv; rcases List.mem_append.1 hv with h | h; exact hΦ.2 v h; simp at h; rw [h]; exact c2⟩, hw, (by omega)⟩)
  ·
   refine z8 rfl (zB (zH rfl (zA ?_)))
   exact zS (zx (v := Vi (-1)) rfl rfl (fun w' hw => ⟨-1, rfl, ⟨fun h => by omega, fun ⟨v, h, h'⟩ => by have h2 := hΦ.2; rw [List.take_of_length_le (by omega)] at h2; exact absurd h' (h2 v h)⟩, hw.drop⟩))
theorem kA (v : Value) (l : List Int) (cb : Nat) (c : ConfD) (w : World) (hl : zT l.length) (hc : c.wf) (hcb : Rd w [] (Res.row cb 35 (ConfD.cells c))) (rd_c : ConfD.rd c w []) (hv : Rd w [] (Res.sl v l.length (l.flatMap I1))) : Rets Tryz.prog 149 #[v, .func (.func 150) #[] #[.pointer (some ⟨cb, 0, none⟩)]] w fun u_ w' => u_ = .bool (decide (∃ q ∈ l, q ∈ c.ls)) ∧ Own w [] [] w' := by
  refine zR Tryz.func149 rfl Tryz.ntmps149 (Own.start w) ?_
  refine zB (zH rfl (zA (zB (zC rfl (zC rfl (zF rfl rfl (fun w' hw => (j1 v l cb c w' (by first | assumption | omega | (simp <;> omega) | (constructor <;> (first | omega | (simp only [zT]; omega) | (simp <;> omega)))) ‹_› (hw.rd0 hcb) (rd_c.at0 hw) (hw.rd0 hv)).mono ?_)))))))
  rintro _ w1 ⟨i1_, rfl, hf1_2, hO⟩
  refine (?_ : CL _ _ _ _ _ _ (Own w [] [])) w1 (hw.frame0 hO)
  refine xl rfl rfl rfl (zH rfl (zA ?_))
  exact zS (zx (v := .bool (decide (0 ≤ i1_))) rfl rfl (fun w' hw => ⟨(by congr 1; exact decide_eq_decide.2 (by omega)), hw.drop⟩))
theorem y7 (c : ConfD) (w : World) (hc : c.wf) (rd_c : ConfD.rd c w []) : Rets Tryz.prog 147 #[.agg (ConfD.cells c).toArray] w fun u_ w' => u_ = .bool (decide c.ok) ∧ Own w [] [] w' := by
  have hv := hc.vs
  have hl := hc.ls
  refine zR Tryz.func147 rfl Tryz.ntmps147 (Own.start w) ?_
  refine zB (zr rfl rfl (fun b1 => zH rfl (zA (zB (zL (o := 0) rfl rfl (zI 0 (v := c.vv) rfl rfl rfl rfl (zF rfl rfl (fun w' hw => (k8 c.vv c.vs w' (by first | assumption | omega | (simp <;> omega) | (constructor <;> (first | omega | (simp only [zT]; omega) | (simp <;> omega)))) (hw.rd0 rd_c.vv)).mono ?_))))))))
  rintro _ w1 ⟨rfl, hO⟩
  refine (?_ : CL _ _ _ _ _ _ (Own w [] [Res.row b1 35 (ConfD.cells c)])) w1 (hw.frame0 hO)
  refine zC rfl (yE (q := Rises c.vs) 3 3 [9, 8, 7] (Rises c.ls) rfl rfl rfl rfl rfl rfl trivial rfl (fun h1_3 => ?_) (fun g1_7 => ?_))
  ·
   refine zN rfl (gT h1_3) (zL (o := 1) rfl rfl (zN rfl (gT h1_3) (zI 0 (v := c.lv) rfl rfl rfl rfl (zN rfl (gT h1_3) (zF rfl rfl (fun w' hw => (k8 c.lv c.ls w' (by first | assumption | omega | (simp <;> omega) | (constructor <;> (first | omega | (simp only [zT]; omega) | (simp <;> omega)))) (hw.rd0 rd_c.lv)).mono ?_))))))
   rintro _ w1 ⟨rfl, hO⟩
   refine (?_ : CL _ _ _ _ _ _ (Own w [] [Res.row b1 35 (ConfD.cells c)])) w1 (hw.frame0 hO)
   exact z7 rfl (fun _ hw => hw)
  refine zC rfl (yE (q := (Rises c.vs) ∧ (Rises c.ls)) 4 8 [15, 14, 13, 12] (0 < ((c.vs.length : Nat) : Int)) rfl rfl rfl rfl rfl rfl trivial rfl (fun h1_8 => ?_) (fun g1_13 => ?_))
  ·
   refine zN rfl (gT h1_8) (zL (o := 0) rfl rfl (zN rfl (gT h1_8) (zI 0 (v := c.vv) rfl rfl rfl rfl (zN rfl (gT h1_8) (zk (pR rd_c.vv) rfl rfl (zN rfl (gT h1_8) (yP rfl rfl rfl ?_)))))))
   exact z7 rfl (fun _ hw => hw)
  refine zC rfl (yE (q := ((Rises c.vs) ∧ (Rises c.ls)) ∧ (0 < ((c.vs.length : Nat) : Int))) 5 14 [22, 21, 20, 19, 18] (¬ (∃ q ∈ c.vs, q ∈ c.ls)) rfl rfl rfl rfl rfl rfl trivial rfl (fun h1_14 => ?_) (fun g1_20 => ?_))
  ·
   refine zN rfl (gT h1_14) (zL (o := 0) rfl rfl (zN rfl (gT h1_14) (zI 0 (v := c.vv) rfl rfl rfl rfl (zN rfl (gT h1_14) (zAt (va := []) (vb := [.pointer (some ⟨b1, 0, none⟩)]) rfl rfl rfl (zN rfl (gT h1_14) (zF rfl rfl (fun w' hw => (kA c.vv c.vs b1 c w' (by first | assumption | omega | (simp <;> omega) | (constructor <;> (first | omega | (simp only [zT]; omega) | (simp <;> omega)))) ‹_› (hw.rdRes0 0 rfl) (rd_c.at0 hw) (hw.rd0 rd_c.vv)).mono ?_))))))))
   rintro _ w1 ⟨rfl, hO⟩
   refine (?_ : CL _ _ _ _ _ _ (Own w [] [Res.row b1 35 (ConfD.cells c)])) w1 (hw.frame0 hO)
   refine zN rfl (gT h1_14) (xJ (q := ∃ q ∈ c.vs, q ∈ c.ls) rfl rfl ?_)
   exact z7 rfl (fun _ hw => hw)
  refine zH rfl (zA ?_)
  exact zS (zx (v := .bool (decide ((((Rises c.vs) ∧ (Rises c.ls)) ∧ (0 < ((c.vs.length : Nat) : Int))) ∧ (¬ (∃ q ∈ c.vs, q ∈ c.ls))))) rfl rfl (fun w' hw => ⟨(by congr 1; exact decide_eq_decide.2 (by unfold ConfD.ok; exact ⟨fun h => ⟨⟨h.1.1, by have := h.1.2; omega⟩, fun v hv hv' => h.2 ⟨v, hv, hv'⟩⟩, fun h => ⟨⟨h.1.1, by have := h.1.2; omega⟩, fun ⟨v, hv, hv'⟩ => h.2 v hv hv'⟩⟩)), hw.drop⟩))
end Go.Proofs.YtkkeknmkipkbmaaGreat
