import Derived.Test.YtkkeknmkipkbmaaGreatIn
import Derived.Test.YtkkeknmkipkbmaaGreatFwT
import Derived.Test.YtkkeknmkipkbmaaGreatChecked
set_option linter.unusedSectionVars false
set_option linter.unusedSimpArgs false
set_option linter.unusedVariables false
set_option maxRecDepth 10000
namespace Go.Proofs.YtkkeknmkipkbmaaGreat
open Go Go.Sc Go.Proofs
theorem BytesPost.yes {p : Option (List UInt8 × Nat)} {d : List UInt8} {k : Nat} {e : Int} (h : BytesPost p d k e) (he : e = 0) : p = some (d, k) := by
  rcases h with h | h
  · exact h.2
  · exact absurd he h.1
theorem BytesPost.no {p : Option (List UInt8 × Nat)} {d : List UInt8} {k : Nat} {e : Int} (h : BytesPost p d k e) (he : e ≠ 0) : p = none := by
  rcases h with h | h
  · exact absurd h.1 he
  · exact h.2
def zFU {α : Type} (p : List UInt8 → Nat → Option (α × Nat)) : Nat → List UInt8 → Nat → Option (List α × Nat)
  | 0 => zBS []
  | k + 1 => ji (zFU p k) fun l => ji p fun x => zBS (l ++ [x])
theorem RdS.snoc {α : Type} {p : List UInt8 → Nat → Option (α × Nat)} {b : List UInt8} {a a1 a2 k : Nat} {bad bad1 bad2 : Bool} {l : List α} {x : α} (h1 : RdS (zFU p k) b a bad l a1 bad1) (h2 : RdS p b a1 bad1 x a2 bad2) : RdS (zFU p (k + 1)) b a bad (l ++ [x]) a2 bad2 :=
  h1.bind (h2.map (l ++ [·]))
def zJ2 (most : Nat) : List UInt8 → Nat → Option (Int × Nat) := ji (zAn most) fun n => zBS (n : Int)
def zH2 : List UInt8 → Nat → Option (List Int × Nat) := ji (zAn 16) fun n => zFU (zJ2 16) n
theorem zIf {b : List UInt8} {a a1 a2 n k : Nat} {bad bad1 bad2 : Bool} {l : List Int} (h1 : RdS (zAn 16) b a bad n a1 bad1) (h2 : RdS (zFU (zJ2 16) k) b a1 bad1 l a2 bad2) (e : k = n) : RdS zH2 b a bad l a2 bad2 := by
  subst e; exact h1.bind h2
theorem zEe {S : List Nat} (o : Nat) (v : Value) (b : List UInt8) (a : Nat) (bad : Bool) (w : World) (hl : zd b.length) (ha : a ≤ b.length) (hin : Own w S [Res.row o 231 [v, Vj a, .bool bad]] w) (hb : Rd w S (Res.sl v b.length (b.map vb))) : Rets Tryz.prog 154 #[.pointer (some ⟨o, 0, none⟩)] w fun u_ w' => ∃ (r : Value) (l : List Int) (a' : Nat) (bad' : Bool), u_ = r ∧ RdS zH2 b a bad l a' bad' ∧ l.length ≤ 16 ∧ Own w S [Res.row o 231 [v, Vj a', .bool bad'], Res.vec 3 1 r l.length (l.flatMap I1)] w' := by
  refine zT Tryz.func154 rfl Tryz.ntmps154 hin ?_
  refine zB (zK rfl (zA (zB (zK rfl (zA (zQ (zB (zD rfl (zH rfl rfl (fun w' hw => (zDf o v b a bad 16 w' (by first | assumption | omega | (simp <;> omega) | (constructor <;> (first | omega | (simp only [zd]; omega) | (simp <;> omega)))) (by first | omega | (simp <;> omega)) (by first | omega | (simp <;> omega)) (hw.give [0] rfl (by decide)) (hw.rdTo hb [0] rfl)).mono ?_))))))))))
  rintro _ w1 ⟨n1_, a'2_, bad'3_, rfl, hf2_1, hf2_1_1, hO⟩
  refine (?_ : CL _ _ _ _ _ _ (Own w S [Res.row o 231 [v, Vj a'2_, .bool bad'3_]])) w1 (hw.frameL [0] rfl hO)
  refine zD rfl (zA (zc ?_))
  refine zIj (fun (k : Nat) (lv : Value) (l : List Int) (a2 : Nat) (bad2 : Bool) => [(0, .pointer (some ⟨o, 0, none⟩)), (3, lv), (5, Vj n1_), (6, Vj k)]) (fun (k : Nat) (lv : Value) (l : List Int) (a2 : Nat) (bad2 : Bool) => (k ≤ n1_ ∧ l.length = k) ∧ RdS (zFU (zJ2 16) k) b a'2_ bad'3_ l a2 bad2) (fun (k : Nat) (lv : Value) (l : List Int) (a2 : Nat) (bad2 : Bool) => [Res.row o 231 [v, Vj a2, .bool bad2], Res.vec 3 1 lv l.length (l.flatMap I1)]) (fun (k : Nat) (lv : Value) (l : List Int) (a2 : Nat) (bad2 : Bool) => n1_ - k) (fun w' hw => ⟨0, .slice none 0 0, [], a'2_, bad'3_, ⟨rfl, rfl, rfl, rfl, trivial⟩, ⟨⟨Nat.zero_le _, rfl⟩, RdS.pure _ hf2_1.le⟩, zt hw 3 1⟩) (fun k lv l a2 bad2 g hΦ => ?_)
  have ha2 := hΦ.2.le
  have hlk := hΦ.1.2
  refine zB (yJ rfl rfl rfl (zA (zQ (zf rfl (fun c1 => ?_) (fun c1 => ?_)))))
  ·
   refine zR (zQ (zc (zW (zD rfl (zD rfl (zH rfl rfl (fun w' hw => (zDf o v b a2 bad2 16 w' (by first | assumption | omega | (simp <;> omega) | (constructor <;> (first | omega | (simp only [zd]; omega) | (simp <;> omega)))) (by first | omega | (simp <;> omega)) (by first | omega | (simp <;> omega)) (hw.give [0] rfl (by decide)) (hw.rdTo hb [0] rfl)).mono ?_)))))))
   rintro _ w1 ⟨n4_, a'5_, bad'6_, rfl, hf4_2, hf4_2_1, hO⟩
   refine (?_ : CL _ _ _ _ _ _ (Own w S [Res.vec 3 1 lv l.length (l.flatMap I1), Res.row o 231 [v, Vj a'5_, .bool bad'6_]])) w1 (hw.frameL [0] rfl hO)
   refine z4 (e := 3) (sz := 1) (vs := [Vj n4_]) (by kernel_rfl) rfl rfl (by simp [Value.cells]) (by decide) rfl (fun b11 => yO (g := I1) (sz := 1) (by' := 8) (fun _ => rfl) (l := l) (l' := [((n4_ : Nat) : Int)]) (by simp [cell1, I1]) 0 (by kernel_rfl) rfl rfl rfl (fun w' hw' => Vec.sl (Own.holds hw' 2 _ rfl)) (by first | omega | (simp <;> omega)) (by decide) rfl (fun v12 => zK rfl (zA (zW (z3 rfl rfl (zy (by omega)) rfl (zD rfl ?_))))))
   exact zj (fun w' hw => ⟨k + 1, v12, l ++ [((n4_ : Nat) : Int)], a'5_, bad'6_, ⟨rfl, rfl, rfl, rfl, trivial⟩, ⟨⟨by omega, by simp [hlk]⟩, hΦ.2.snoc (RdS.map (fun n : Nat => (n : Int)) hf4_2)⟩, hw.sel [1, 0] rfl (by decide), (by omega)⟩)
  ·
   refine yQ rfl (zB (zD rfl (zK rfl (zA ?_))))
   exact zY (yD (v := lv) rfl rfl (fun w' hw => ⟨lv, l, a2, bad2, rfl, zIf hf2_1 hΦ.2 (by omega), (by omega), hw⟩))
structure ConfD where
  vv : Value
  vs : List Int
  lv : Value
  ls : List Int
def ConfD.cells (x : ConfD) : List Value := [x.vv, x.lv]
structure ConfD.rd (x : ConfD) (w : World) (S : List Nat) : Prop where
  vv : Rd w S (Res.sl x.vv x.vs.length (x.vs.flatMap I1))
  lv : Rd w S (Res.sl x.lv x.ls.length (x.ls.flatMap I1))
theorem ConfD.rd.at0 {x : ConfD} {w0 w : World} {S : List Nat} {L : List Res} (h : x.rd w0 S) (hw : Own w0 S L w) : x.rd w [] := ⟨hw.rd0 h.vv, hw.rd0 h.lv⟩
theorem ConfD.rd.at {x : ConfD} {w0 w : World} {S : List Nat} {L Lin : List Res} (h : x.rd w0 S) (hw : Own w0 S L w) (m : List Nat) (hm : m.mapM (fun i => L[i]?) = some Lin) : x.rd w (y8 Lin) := ⟨hw.rdTo h.vv m hm, hw.rdTo h.lv m hm⟩
def Rises (l : List Int) : Prop := (0 :: l).Pairwise (· < ·) ∧ ∀ x ∈ l, x ≤ 16
instance (l : List Int) : Decidable (Rises l) := inferInstanceAs (Decidable (_ ∧ _))
theorem Rises.take {l : List Int} (h : Rises l) (k : Nat) : Rises (l.take k) :=
  ⟨by have := h.1.take (i := k + 1); simpa using this, fun x hx => h.2 x (List.mem_of_mem_take hx)⟩
theorem zEN {l : List Int} {x : Int} : Rises (l ++ [x]) ↔ Rises l ∧ x ≤ 16 ∧ 1 ≤ x ∧ ∀ y ∈ l, y < x := by
  unfold Rises
  rw [← List.cons_append, List.pairwise_append]
  simp only [List.mem_append, List.mem_cons, List.not_mem_nil, or_false, List.pairwise_cons, List.Pairwise.nil]
  constructor
  · rintro ⟨⟨h1, _, h3⟩, h4⟩
    exact ⟨⟨h1, fun x hx => h4 x (.inl hx)⟩, h4 _ (.inr rfl), by have := h3 0 (.inl rfl) x rfl; omega, fun y hy => h3 y (.inr hy) x rfl⟩
  · rintro ⟨⟨h1, h2⟩, h3, h4, h5⟩
    refine ⟨⟨h1, ⟨by simp, trivial⟩, ?_⟩, ?_⟩
    · rintro a (rfl | ha) b rfl
      · omega
      · exact h5 a ha
    · rintro y (hy | rfl)
      · exact h2 y hy
      · exact h3
theorem zBB {l : List Int} {k : Nat} (hk : k < l.length) (h : Rises (l.take k)) : Rises (l.take (k + 1)) ↔ zG l k ≤ 16 ∧ 1 ≤ zG l k ∧ (0 < k → zG l (k - 1) < zG l k) := by
  rw [zu hk, zEN]
  constructor
  · rintro ⟨_, h1, h2, h3⟩
    refine ⟨h1, h2, fun h0 => h3 _ ?_⟩
    rw [List.mem_iff_getElem?]
    exact ⟨k - 1, by rw [List.getElem?_take, if_pos (by omega)]; exact xB (by omega)⟩
  · rintro ⟨h1, h2, h3⟩
    refine ⟨h, h1, h2, fun y hy => ?_⟩
    obtain ⟨i, hi⟩ := List.mem_iff_getElem?.1 hy
    rw [List.getElem?_take] at hi
    split at hi
    · rename_i hik
      have e := xR hi
      by_cases hlast : i = k - 1
      · subst hlast; rw [← e]; exact h3 (by omega)
      · have h4 := h3 (by omega)
        have h5 := h.1
        rw [List.pairwise_cons] at h5
        have h6 := List.pairwise_iff_getElem.1 h5.2 i (k - 1) (by simp; omega) (by simp; omega) (by omega)
        rw [List.getElem_take, List.getElem_take] at h6
        have e1 := xR (List.getElem?_eq_getElem (l := l) (i := i) (by omega))
        have e2 := xR (List.getElem?_eq_getElem (l := l) (i := k - 1) (by omega))
        rw [← e1, ← e2, e] at h6
        omega
    · cases hi
theorem zF9 {l : List Int} {k : Nat} (hk : k < l.length) (h : ¬ (zG l k ≤ 16 ∧ 1 ≤ zG l k ∧ (0 < k → zG l (k - 1) < zG l k))) : ¬ Rises l := fun hr => h ((zBB hk (hr.take k)).1 (hr.take (k + 1)))
theorem zF0 : Rises [] := ⟨by simp, by simp⟩
theorem zBb (v : Value) (l : List Int) (w : World) (hl : zd l.length) (hv : Rd w [] (Res.sl v l.length (l.flatMap I1))) : Rets Tryz.prog 148 #[v] w fun u_ w' => u_ = .bool (decide (Rises l)) ∧ Own w [] [] w' := by
  refine zT Tryz.func148 rfl Tryz.ntmps148 (Own.start w) ?_
  refine zB (zK rfl (zA (zQ (zB (zD rfl (zq (pR hv) rfl rfl (zD rfl (zA (zc ?_)))))))))
  refine xS (fun (k : Nat) => [(0, v), (5, v), (6, Vj l.length), (7, Vj k)]) (fun (k : Nat) => k ≤ l.length ∧ Rises (l.take k)) (fun (k : Nat) => []) (fun (k : Nat) => l.length - k) (fun w' hw => ⟨0, ⟨rfl, rfl, rfl, rfl, trivial⟩, ⟨Nat.zero_le _, by simpa using zF0⟩, hw⟩) (fun k g hΦ => ?_)
  refine zB (yJ rfl rfl rfl (zA (zQ (zf rfl (fun c1 => ?_) (fun c1 => ?_)))))
  ·
   refine zR (zQ (zc (zB (zD rfl (zm (pR hv) 1 k rfl rfl rfl (by omega) rfl (yR (pR hv) 1 k 0 (fun _ => rfl) rfl rfl (by omega) rfl rfl (zK rfl (zK rfl (zA (zB (zD rfl (yJ rfl rfl rfl ?_))))))))))))
   refine zD rfl (yT (q := (zG l k) < 1) 2 2 [16, 15] (16 < (zG l k)) rfl rfl rfl rfl rfl rfl trivial rfl (fun h4_2 => ?_) (fun g4_5 => ?_))
   ·
    refine zO rfl (gF h4_2) (zD rfl (zO rfl (gF h4_2) (yo rfl rfl rfl ?_)))
    exact yK rfl (fun _ hw => hw)
   refine zD rfl (yT (q := ((zG l k) < 1) ∨ (16 < (zG l k))) 11 6 [29, 28, 27, 26, 25, 24, 23, 22, 21, 20, 19] ((0 < ((k : Nat) : Int)) ∧ ((zG l k) ≤ (zG l (k - 1)))) rfl rfl rfl rfl rfl rfl trivial rfl (fun h4_6 => ?_) (fun g4_18 => ?_))
   ·
    refine zO rfl (gF h4_6) (zD rfl (zO rfl (gF h4_6) (yo rfl rfl rfl (zO rfl (gF h4_6) (zD rfl (yd (q := 0 < ((k : Nat) : Int)) 7 9 [28, 27, 26, 25, 24, 23, 22] ((zG l k) ≤ (zG l (k - 1))) rfl rfl rfl rfl rfl rfl ⟨_, rfl, rfl, gF h4_6⟩ rfl (fun h4_9 => ?_) (fun g4_17 => ?_)))))))
    ·
     refine zO rfl (gT h4_9) (zD rfl (zO rfl (gT h4_9) (zD rfl (zO rfl (gT h4_9) (zD rfl (zO rfl (gT h4_9) (kE rfl rfl (zy (by omega)) rfl (zO rfl (gT h4_9) (zm (pR hv) 1 (k - 1) rfl rfl (by omega) (by omega) rfl (zO rfl (gT h4_9) (yR (pR hv) 1 (k - 1) 0 (fun _ => rfl) rfl rfl (by omega) rfl rfl (zO rfl (gT h4_9) ?_))))))))))))
     refine x4 rfl rfl rfl ?_
     exact yK rfl (fun _ hw => hw)
    exact yK rfl (fun _ hw => hw)
   refine zA (zf rfl (fun c2 => ?_) (fun c2 => ?_))
   ·
    refine zB (zK rfl (zA ?_))
    exact zY (yD (v := .bool false) rfl rfl (fun w' hw => ⟨(by rw [decide_eq_false]; exact zF9 (k := k) (by omega) (by omega)), hw.drop⟩))
   ·
    refine zR (zW (z3 rfl rfl (zy (by omega)) rfl (zD rfl ?_)))
    exact zj (fun w' hw => ⟨k + 1, ⟨rfl, rfl, rfl, rfl, trivial⟩, ⟨by omega, (zBB (by omega) hΦ.2).2 (by omega)⟩, hw, (by omega)⟩)
  ·
   refine yQ rfl (zB (zK rfl (zA ?_)))
   exact zY (yD (v := .bool true) rfl rfl (fun w' hw => ⟨(by rw [decide_eq_true]; have h := hΦ.2; rwa [List.take_of_length_le (by omega)] at h), hw.drop⟩))
structure ConfD.wf (x : ConfD) : Prop where
  vs : zd x.vs.length
  ls : zd x.ls.length
def ConfD.ok (x : ConfD) : Prop := ((Rises x.vs ∧ Rises x.ls) ∧ 0 < x.vs.length) ∧ ∀ v ∈ x.vs, v ∉ x.ls
instance (x : ConfD) : Decidable x.ok := inferInstanceAs (Decidable ((_ ∧ _) ∧ _))
theorem zHK (v : Value) (l : List Int) (n : Int) (w : World) (hl : zd l.length) (hv : Rd w [] (Res.sl v l.length (l.flatMap I1))) : Rets Tryz.prog 116 #[v, Vi n] w fun u_ w' => ∃ (i : Int), u_ = Vi i ∧ (0 ≤ i ↔ n ∈ l) ∧ Own w [] [] w' := by
  refine zT Tryz.func116 rfl Tryz.ntmps116 (Own.start w) ?_
  refine zB (zK rfl (zA (zQ (zB (zD rfl (zq (pR hv) rfl rfl (zD rfl (zA (zc ?_)))))))))
  refine xS (fun (k : Nat) => [(0, v), (1, Vi n), (7, Vj l.length), (8, Vj k)]) (fun (k : Nat) => k ≤ l.length ∧ n ∉ l.take k) (fun (k : Nat) => []) (fun (k : Nat) => l.length - k) (fun w' hw => ⟨0, ⟨rfl, rfl, rfl, rfl, trivial⟩, ⟨Nat.zero_le _, by simp⟩, hw⟩) (fun k g hΦ => ?_)
  refine zB (yJ rfl rfl rfl (zA (zQ (zf rfl (fun c1 => ?_) (fun c1 => ?_)))))
  ·
   refine zR (zQ (zc (zB (zD rfl (zK rfl (zA (zB (zD rfl (zD rfl (zD rfl (zm (pR hv) 1 k rfl rfl rfl (by omega) rfl (yR (pR hv) 1 k 0 (fun _ => rfl) rfl rfl (by omega) rfl rfl ?_))))))))))))
   refine yZ rfl rfl rfl (zA (zf rfl (fun c2 => ?_) (fun c2 => ?_)))
   ·
    refine zB (zD rfl (zK rfl (zA ?_)))
    exact zY (yD (v := Vj k) rfl rfl (fun w' hw => ⟨k, rfl, ⟨fun _ => c2 ▸ zl (by omega), fun _ => by omega⟩, hw.drop⟩))
   ·
    refine zR (zW (z3 rfl rfl (zy (by omega)) rfl (zD rfl ?_)))
    exact zj (fun w' hw => ⟨k + 1, ⟨rfl, rfl, rfl, rfl, trivial⟩, ⟨by omega, by rw [zu (by omega)]; simp; exact ⟨hΦ.2, fun e => c2 e⟩⟩, hw, (by omega)⟩)
  ·
   refine yQ rfl (zB (zK rfl (zA ?_)))
   exact zY (yD (v := Vi (-1)) rfl rfl (fun w' hw => ⟨-1, rfl, ⟨fun h => by omega, fun h => by have h2 := hΦ.2; rw [List.take_of_length_le (by omega)] at h2; exact absurd h h2⟩, hw.drop⟩))
theorem jj (v : Value) (l : List Int) (n : Int) (w : World) (hl : zd l.length) (hv : Rd w [] (Res.sl v l.length (l.flatMap I1))) : Rets Tryz.prog 72 #[v, Vi n] w fun u_ w' => u_ = .bool (decide (n ∈ l)) ∧ Own w [] [] w' := by
  refine zT Tryz.func72 rfl Tryz.ntmps72 (Own.start w) ?_
  refine zB (zK rfl (zA (zB (zD rfl (zD rfl (zH rfl rfl (fun w' hw => (zHK v l n w' (by first | assumption | omega | (simp <;> omega) | (constructor <;> (first | omega | (simp only [zd]; omega) | (simp <;> omega)))) (hw.rd0 hv)).mono ?_)))))))
  rintro _ w1 ⟨i1_, rfl, hf1_2, hO⟩
  refine (?_ : CL _ _ _ _ _ _ (Own w [] [])) w1 (hw.frame0 hO)
  refine kK rfl rfl rfl (zK rfl (zA ?_))
  exact zY (yD (v := .bool (decide (0 ≤ i1_))) rfl rfl (fun w' hw => ⟨(by congr 1; exact decide_eq_decide.2 (by omega)), hw.drop⟩))
theorem zCe (n : Int) (cb : Nat) (c : ConfD) (w : World) (hc : c.wf) (hcb : Rd w [] (Res.row cb 35 (ConfD.cells c))) (rd_c : ConfD.rd c w []) : Rets Tryz.prog 150 #[Vi n, .pointer (some ⟨cb, 0, none⟩)] w fun u_ w' => u_ = .bool (decide (n ∈ c.ls)) ∧ Own w [] [] w' := by
  have hv := hc.vs
  have hl := hc.ls
  refine zT Tryz.func150 rfl Tryz.ntmps150 (Own.start w) ?_
  refine zB (zK rfl (zA (zB (zJ (o := 1) rfl rfl (xq (v := c.lv) rfl (hcb.φ.cell rfl) (hcb.far _ (by simp [Res.row])) (by kernel_rfl) rfl (zD rfl (zH rfl rfl (fun w' hw => (jj c.lv c.ls n w' (by first | assumption | omega | (simp <;> omega) | (constructor <;> (first | omega | (simp only [zd]; omega) | (simp <;> omega)))) (hw.rd0 rd_c.lv)).mono ?_))))))))
  rintro _ w1 ⟨rfl, hO⟩
  refine (?_ : CL _ _ _ _ _ _ (Own w [] [])) w1 (hw.frame0 hO)
  refine zK rfl (zA ?_)
  exact zY (yD (v := .bool (decide (n ∈ c.ls))) rfl rfl (fun w' hw => ⟨rfl, hw.drop⟩))
theorem zCT (v : Value) (l : List Int) (cb : Nat) (c : ConfD) (w : World) (hl : zd l.length) (hc : c.wf) (hcb : Rd w [] (Res.row cb 35 (ConfD.cells c))) (rd_c : ConfD.rd c w []) (hv : Rd w [] (Res.sl v l.length (l.flatMap I1))) : Rets Tryz.prog 191 #[v, .func (.func 150) #[] #[.pointer (some ⟨cb, 0, none⟩)]] w fun u_ w' => ∃ (i : Int), u_ = Vi i ∧ (0 ≤ i ↔ ∃ q ∈ l, q ∈ c.ls) ∧ Own w [] [] w' := by
  refine zT Tryz.func191 rfl Tryz.ntmps191 (Own.start w) ?_
  refine zB (zK rfl (zA (zQ (zB (zD rfl (zq (pR hv) rfl rfl (zD rfl (zA (zc ?_)))))))))
  refine xS (fun (k : Nat) => [(0, v), (1, .func (.func 150) #[] #[.pointer (some ⟨cb, 0, none⟩)]), (7, Vj l.length), (8, Vj k)]) (fun (k : Nat) => k ≤ l.length ∧ ∀ v ∈ l.take k, v ∉ c.ls) (fun (k : Nat) => []) (fun (k : Nat) => l.length - k) (fun w' hw => ⟨0, ⟨rfl, rfl, rfl, rfl, trivial⟩, ⟨Nat.zero_le _, by simp⟩, hw⟩) (fun k g hΦ => ?_)
  refine zB (yJ rfl rfl rfl (zA (zQ (zf rfl (fun c1 => ?_) (fun c1 => ?_)))))
  ·
   refine zR (zQ (zc (zB (zD rfl (zK rfl (zA (zB (zD rfl (zD rfl (zD rfl (zm (pR hv) 1 k rfl rfl rfl (by omega) rfl (yR (pR hv) 1 k 0 (fun _ => rfl) rfl rfl (by omega) rfl rfl ?_))))))))))))
   refine yh (fst := []) (cap := [.pointer (some ⟨cb, 0, none⟩)]) rfl (by kernel_rfl) rfl rfl (fun w' hw => (zCe (zG l k) cb c w' ‹_› (hw.rd0 hcb) (rd_c.at0 hw)).mono ?_)
   rintro _ w1 ⟨rfl, hO⟩
   refine (?_ : CL _ _ _ _ _ _ (Own w [] [])) w1 (hw.frame0 hO)
   refine zA (zf rfl (fun c2 => ?_) (fun c2 => ?_))
   ·
    refine zB (zD rfl (zK rfl (zA ?_)))
    exact zY (yD (v := Vj k) rfl rfl (fun w' hw => ⟨k, rfl, ⟨fun _ => ⟨_, zl (by omega), c2⟩, fun _ => by omega⟩, hw.drop⟩))
   ·
    refine zR (zW (z3 rfl rfl (zy (by omega)) rfl (zD rfl ?_)))
    exact zj (fun w' hw => ⟨k + 1, ⟨rfl, rfl, rfl, rfl, trivial⟩, ⟨by omega, by rw [zu (by omega)]; intro v hv; rcases List.mem_append.1 hv with h | h; exact hΦ.2 v h; simp at h; rw [h]; exact c2⟩, hw, (by omega)⟩)
  ·
   refine yQ rfl (zB (zK rfl (zA ?_)))
   exact zY (yD (v := Vi (-1)) rfl rfl (fun w' hw => ⟨-1, rfl, ⟨fun h => by omega, fun ⟨v, h, h'⟩ => by have h2 := hΦ.2; rw [List.take_of_length_le (by omega)] at h2; exact absurd h' (h2 v h)⟩, hw.drop⟩))
theorem zAG (v : Value) (l : List Int) (cb : Nat) (c : ConfD) (w : World) (hl : zd l.length) (hc : c.wf) (hcb : Rd w [] (Res.row cb 35 (ConfD.cells c))) (rd_c : ConfD.rd c w []) (hv : Rd w [] (Res.sl v l.length (l.flatMap I1))) : Rets Tryz.prog 149 #[v, .func (.func 150) #[] #[.pointer (some ⟨cb, 0, none⟩)]] w fun u_ w' => u_ = .bool (decide (∃ q ∈ l, q ∈ c.ls)) ∧ Own w [] [] w' := by
  refine zT Tryz.func149 rfl Tryz.ntmps149 (Own.start w) ?_
  refine zB (zK rfl (zA (zB (zD rfl (zD rfl (zH rfl rfl (fun w' hw => (zCT v l cb c w' (by first | assumption | omega | (simp <;> omega) | (constructor <;> (first | omega | (simp only [zd]; omega) | (simp <;> omega)))) ‹_› (hw.rd0 hcb) (rd_c.at0 hw) (hw.rd0 hv)).mono ?_)))))))
  rintro _ w1 ⟨i1_, rfl, hf1_2, hO⟩
  refine (?_ : CL _ _ _ _ _ _ (Own w [] [])) w1 (hw.frame0 hO)
  refine kK rfl rfl rfl (zK rfl (zA ?_))
  exact zY (yD (v := .bool (decide (0 ≤ i1_))) rfl rfl (fun w' hw => ⟨(by congr 1; exact decide_eq_decide.2 (by omega)), hw.drop⟩))
theorem xl (c : ConfD) (w : World) (hc : c.wf) (rd_c : ConfD.rd c w []) : Rets Tryz.prog 147 #[.agg (ConfD.cells c).toArray] w fun u_ w' => u_ = .bool (decide c.ok) ∧ Own w [] [] w' := by
  have hv := hc.vs
  have hl := hc.ls
  refine zT Tryz.func147 rfl Tryz.ntmps147 (Own.start w) ?_
  refine zB (z7 rfl rfl (fun b1 => zK rfl (zA (zB (zJ (o := 0) rfl rfl (zM 0 (v := c.vv) rfl rfl rfl rfl (zH rfl rfl (fun w' hw => (zBb c.vv c.vs w' (by first | assumption | omega | (simp <;> omega) | (constructor <;> (first | omega | (simp only [zd]; omega) | (simp <;> omega)))) (hw.rd0 rd_c.vv)).mono ?_))))))))
  rintro _ w1 ⟨rfl, hO⟩
  refine (?_ : CL _ _ _ _ _ _ (Own w [] [Res.row b1 35 (ConfD.cells c)])) w1 (hw.frame0 hO)
  refine zD rfl (yd (q := Rises c.vs) 3 3 [9, 8, 7] (Rises c.ls) rfl rfl rfl rfl rfl rfl trivial rfl (fun h1_3 => ?_) (fun g1_7 => ?_))
  ·
   refine zO rfl (gT h1_3) (zJ (o := 1) rfl rfl (zO rfl (gT h1_3) (zM 0 (v := c.lv) rfl rfl rfl rfl (zO rfl (gT h1_3) (zH rfl rfl (fun w' hw => (zBb c.lv c.ls w' (by first | assumption | omega | (simp <;> omega) | (constructor <;> (first | omega | (simp only [zd]; omega) | (simp <;> omega)))) (hw.rd0 rd_c.lv)).mono ?_))))))
   rintro _ w1 ⟨rfl, hO⟩
   refine (?_ : CL _ _ _ _ _ _ (Own w [] [Res.row b1 35 (ConfD.cells c)])) w1 (hw.frame0 hO)
   exact yK rfl (fun _ hw => hw)
  refine zD rfl (yd (q := (Rises c.vs) ∧ (Rises c.ls)) 4 8 [15, 14, 13, 12] (0 < ((c.vs.length : Nat) : Int)) rfl rfl rfl rfl rfl rfl trivial rfl (fun h1_8 => ?_) (fun g1_13 => ?_))
  ·
   refine zO rfl (gT h1_8) (zJ (o := 0) rfl rfl (zO rfl (gT h1_8) (zM 0 (v := c.vv) rfl rfl rfl rfl (zO rfl (gT h1_8) (zq (pR rd_c.vv) rfl rfl (zO rfl (gT h1_8) (yo rfl rfl rfl ?_)))))))
   exact yK rfl (fun _ hw => hw)
  refine zD rfl (yd (q := ((Rises c.vs) ∧ (Rises c.ls)) ∧ (0 < ((c.vs.length : Nat) : Int))) 5 14 [22, 21, 20, 19, 18] (¬ (∃ q ∈ c.vs, q ∈ c.ls)) rfl rfl rfl rfl rfl rfl trivial rfl (fun h1_14 => ?_) (fun g1_20 => ?_))
  ·
   refine zO rfl (gT h1_14) (zJ (o := 0) rfl rfl (zO rfl (gT h1_14) (zM 0 (v := c.vv) rfl rfl rfl rfl (zO rfl (gT h1_14) (zAs (va := []) (vb := [.pointer (some ⟨b1, 0, none⟩)]) rfl rfl rfl (zO rfl (gT h1_14) (zH rfl rfl (fun w' hw => (zAG c.vv c.vs b1 c w' (by first | assumption | omega | (simp <;> omega) | (constructor <;> (first | omega | (simp only [zd]; omega) | (simp <;> omega)))) ‹_› (hw.rdRes0 0 rfl) (rd_c.at0 hw) (hw.rd0 rd_c.vv)).mono ?_))))))))
   rintro _ w1 ⟨rfl, hO⟩
   refine (?_ : CL _ _ _ _ _ _ (Own w [] [Res.row b1 35 (ConfD.cells c)])) w1 (hw.frame0 hO)
   refine zO rfl (gT h1_14) (xM (q := ∃ q ∈ c.vs, q ∈ c.ls) rfl rfl ?_)
   exact yK rfl (fun _ hw => hw)
  refine zK rfl (zA ?_)
  exact zY (yD (v := .bool (decide ((((Rises c.vs) ∧ (Rises c.ls)) ∧ (0 < ((c.vs.length : Nat) : Int))) ∧ (¬ (∃ q ∈ c.vs, q ∈ c.ls))))) rfl rfl (fun w' hw => ⟨(by congr 1; exact decide_eq_decide.2 (by unfold ConfD.ok; exact ⟨fun h => ⟨⟨h.1.1, by have := h.1.2; omega⟩, fun v hv hv' => h.2 ⟨v, hv, hv'⟩⟩, fun h => ⟨⟨h.1.1, by have := h.1.2; omega⟩, fun ⟨v, hv, hv'⟩ => h.2 v hv hv'⟩⟩)), hw.drop⟩))
end Go.Proofs.YtkkeknmkipkbmaaGreat
