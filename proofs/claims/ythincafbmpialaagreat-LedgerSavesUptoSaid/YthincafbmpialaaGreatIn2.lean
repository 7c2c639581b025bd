import Derived.Test.YthincafbmpialaaGreatIn
set_option linter.unusedSectionVars false
set_option linter.unusedSimpArgs false
set_option linter.unusedVariables false
set_option maxRecDepth 10000
namespace Go.Proofs.YthincafbmpialaaGreat
open Go Go.Sc Go.Proofs
theorem BytesPost.yes {p : Option (List UInt8 × Nat)} {d : List UInt8} {k : Nat} {e : Int} (h : BytesPost p d k e) (he : e = 0) : p = some (d, k) := by
  rcases h with h | h
  · exact h.2
  · exact absurd he h.1
theorem BytesPost.no {p : Option (List UInt8 × Nat)} {d : List UInt8} {k : Nat} {e : Int} (h : BytesPost p d k e) (he : e ≠ 0) : p = none := by
  rcases h with h | h
  · exact absurd h.1 he
  · exact h.2
def yg {α : Type} (p : List UInt8 → Nat → Option (α × Nat)) : Nat → List UInt8 → Nat → Option (List α × Nat)
  | 0 => yX []
  | k + 1 => zn (yg p k) fun l => zn p fun x => yX (l ++ [x])
theorem RdS.snoc {α : Type} {p : List UInt8 → Nat → Option (α × Nat)} {b : List UInt8} {a a1 a2 k : Nat} {bad bad1 bad2 : Bool} {l : List α} {x : α} (h1 : RdS (yg p k) b a bad l a1 bad1) (h2 : RdS p b a1 bad1 x a2 bad2) : RdS (yg p (k + 1)) b a bad (l ++ [x]) a2 bad2 :=
  h1.bind (h2.map (l ++ [·]))
theorem zDn {α : Type} {p : List UInt8 → Nat → Option (α × Nat)} {b : List UInt8} {a k : Nat} (h : yg p k b a = none) : ∀ n, k ≤ n → yg p n b a = none := by
  intro n hn
  induction n with
  | zero => rw [show k = 0 by omega] at h; exact h
  | succ n ih =>
    by_cases hk : k = n + 1
    · rw [← hk]; exact h
    · simp only [yg, zn, ih (by omega), Option.bind_none]
theorem RdS.stop {α : Type} {p : List UInt8 → Nat → Option (α × Nat)} {b : List UInt8} {a a1 k n : Nat} {bad : Bool} {l : List α} (h : RdS (yg p k) b a bad l a1 true) (hn : k ≤ n) : RdS (yg p n) b a bad l a1 true := by
  refine ⟨h.le, h.st, fun v j hb hv => ?_, fun _ _ => rfl⟩
  cases hp : yg p k b a with
  | none => rw [zDn hp n hn] at hv; cases hv
  | some q => have := (h.ok q.1 q.2 hb hp).1; cases this
def zDy (most : Nat) : List UInt8 → Nat → Option (Int × Nat) := zn (ko most) fun n => yX (n : Int)
def zG3 : List UInt8 → Nat → Option (List Int × Nat) := zn (ko 16) fun n => yg (zDy 16) n
theorem zGP {b : List UInt8} {a a1 a2 n k : Nat} {bad bad1 bad2 : Bool} {l : List Int} (h1 : RdS (ko 16) b a bad n a1 bad1) (h2 : RdS (yg (zDy 16) k) b a1 bad1 l a2 bad2) (e : k = n) : RdS zG3 b a bad l a2 bad2 := by
  subst e; exact h1.bind h2
theorem zIi {b : List UInt8} {a a1 a2 n k : Nat} {bad bad1 bad2 : Bool} {l : List Int} (h1 : RdS (ko 16) b a bad n a1 bad1) (h2 : RdS (yg (zDy 16) k) b a1 bad1 l a2 bad2) (c : ¬ ((k : Int) < n ∧ (!bad2) = true)) (hk : k ≤ n) : RdS zG3 b a bad l a2 bad2 := by
  by_cases e : k = n
  · exact zGP h1 h2 e
  · have hb : bad2 = true := by cases bad2; exact absurd ⟨by omega, rfl⟩ c; rfl
    subst hb
    exact h1.bind (h2.stop hk)
theorem zJU {S : List Nat} (o : Nat) (v : Value) (b : List UInt8) (a : Nat) (bad : Bool) (w : World) (hl : zb b.length) (ha : a ≤ b.length) (hin : Own w S [Res.row o 185 [v, Vj a, .bool bad]] w) (hb : Rd w S (Res.sl v b.length (b.map vb))) : Rets Tryz.prog 106 #[.pointer (some ⟨o, 0, none⟩)] w fun u_ w' => ∃ (r : Value) (d : List UInt8) (a' : Nat) (bad' : Bool), u_ = r ∧ RdS yn b a bad d a' bad' ∧ d.length ≤ b.length ∧ Own w S [Res.row o 185 [v, Vj a', .bool bad'], Res.vec 5 1 r d.length (d.map vb)] w' := by
  refine zW Tryz.func106 rfl Tryz.ntmps106 hin ?_
  refine zB (zD rfl (zA (zL (zB (zC rfl (zm rfl rfl (zQ (o := 2) rfl rfl (zT 0 (v := .bool bad) rfl rfl rfl rfl (zA (zCt rfl (fun c1 => ?_) (fun c1 => ?_)))))))))))
  ·
   refine zB (zD rfl (zA ?_))
   exact zM (z8 (v := .slice none 0 0) rfl rfl (fun w' hw => ⟨.slice none 0 0, [], a, bad, rfl, RdS.badly c1 ha, (by simp), yN hw 5 1⟩))
  ·
   refine zK (zL (zh [0] rfl (by decide) (by kernel_rfl) (fun w' hw hS => zF 0 rfl (zO) hS (zF 1 rfl (yA rfl) hS (zF 2 rfl (zk (o := 0) rfl) hS (zF 3 rfl (zr 0 (v := v) rfl rfl rfl) hS (zF 4 rfl (zO) hS (zF 5 rfl (yA rfl) hS (zF 6 rfl (zk (o := 1) rfl) hS (zF 7 rfl (zr 0 (v := Vj a) rfl rfl rfl) hS (zZ 8 rfl hw (zJ rfl rfl (fun w' hw => ?_)))))))))))))
   refine (zGl v b a w' (by first | assumption | omega | (simp <;> omega) | (constructor <;> (first | omega | (simp only [zb]; omega) | (simp <;> omega)))) (by first | omega | (simp <;> omega)) (hw.rd0 hb)).mono ?_
   rintro _ w1 ⟨r1_, d2_, k3_, e4_, rfl, hf3_8, hO⟩
   refine (?_ : CL _ _ _ _ _ _ (Own w S [Res.row o 185 [v, Vj a, .bool bad], Res.vec 5 1 r1_ d2_.length (d2_.map vb)])) w1 (hw.frame0 hO)
   refine zG [0] rfl (by decide) (fun w' hw hS => zF 9 rfl (zO) hS (zF 10 rfl (yd (vs := [r1_, Vj k3_, Vi e4_]) rfl rfl) hS (zF 11 rfl (yd (vs := [r1_, Vj k3_, Vi e4_]) rfl rfl) hS (zF 12 rfl (yd (vs := [r1_, Vj k3_, Vi e4_]) rfl rfl) hS (zF 13 rfl (yz) hS (zF 14 rfl (yz) hS (zF 15 rfl (yz) hS (zR ?_))))))))
   refine (?_ : C _ _ _ _ _ _ _ (Own w S [Res.row o 185 [v, Vj a, .bool bad], Res.vec 5 1 r1_ d2_.length (d2_.map vb)])) _ hw
   refine zL (zB (zC rfl (xq rfl rfl rfl (zA (zU rfl (fun c2 => ?_) (fun c2 => ?_))))))
   ·
    refine zB (zC rfl (zm rfl rfl (zQ (o := 2) rfl rfl (yk (cs := [v, Vj a, .bool bad]) 0 rfl rfl rfl rfl rfl (zA (zB (zD rfl (zA ?_))))))))
    exact zM (z8 (v := .slice none 0 0) rfl rfl (fun w' hw => ⟨.slice none 0 0, [], a, true, rfl, RdS.fail ha fun _ => hf3_8.no c2, (by simp), yN (hw.one 0 rfl) 5 1⟩))
   ·
    refine zK (zB (zC rfl (zC rfl (zm rfl rfl (zQ (o := 1) rfl rfl (yk (cs := [v, Vj a, .bool bad]) 0 rfl rfl rfl rfl rfl (zA (zB (zC rfl (zD rfl (zA ?_)))))))))))
    exact zM (z8 (v := r1_) rfl rfl (fun w' hw => ⟨r1_, d2_, k3_, bad, rfl, RdS.done (xu (hf3_8.yes (by omega))).1 (hf3_8.yes (by omega)), (xu (hf3_8.yes (by omega))).2, hw⟩))
theorem zGY {S : List Nat} (o : Nat) (v : Value) (b : List UInt8) (a : Nat) (bad : Bool) (w : World) (hl : zb b.length) (ha : a ≤ b.length) (hin : Own w S [Res.row o 185 [v, Vj a, .bool bad]] w) (hb : Rd w S (Res.sl v b.length (b.map vb))) : Rets Tryz.prog 181 #[.pointer (some ⟨o, 0, none⟩)] w fun u_ w' => ∃ (r : Value) (l : List Int) (a' : Nat) (bad' : Bool), u_ = r ∧ RdS zG3 b a bad l a' bad' ∧ l.length ≤ 16 ∧ Own w S [Res.row o 185 [v, Vj a', .bool bad'], Res.vec 3 1 r l.length (l.flatMap I1)] w' := by
  refine zW Tryz.func181 rfl Tryz.ntmps181 hin ?_
  refine zB (zD rfl (zA (zB (zD rfl (zA (zL (zB (zC rfl (zJ rfl rfl (fun w' hw => (zBV o v b a bad 16 w' (by first | assumption | omega | (simp <;> omega) | (constructor <;> (first | omega | (simp only [zb]; omega) | (simp <;> omega)))) (by first | omega | (simp <;> omega)) (by first | omega | (simp <;> omega)) (hw.give [0] rfl (by decide)) (hw.rdTo hb [0] rfl)).mono ?_))))))))))
  rintro _ w1 ⟨n1_, a'2_, bad'3_, rfl, hf2_1, hf2_1_1, hO⟩
  refine (?_ : CL _ _ _ _ _ _ (Own w S [Res.row o 185 [v, Vj a'2_, .bool bad'3_]])) w1 (hw.frameL [0] rfl hO)
  refine zC rfl (zA (zS ?_))
  refine zBW (fun (k : Nat) (lv : Value) (l : List Int) (a2 : Nat) (bad2 : Bool) => [(0, .pointer (some ⟨o, 0, none⟩)), (3, lv), (5, Vj n1_), (6, Vj k)]) (fun (k : Nat) (lv : Value) (l : List Int) (a2 : Nat) (bad2 : Bool) => (k ≤ n1_ ∧ l.length = k) ∧ RdS (yg (zDy 16) k) b a'2_ bad'3_ l a2 bad2) (fun (k : Nat) (lv : Value) (l : List Int) (a2 : Nat) (bad2 : Bool) => [Res.row o 185 [v, Vj a2, .bool bad2], Res.vec 3 1 lv l.length (l.flatMap I1)]) (fun (k : Nat) (lv : Value) (l : List Int) (a2 : Nat) (bad2 : Bool) => n1_ - k) (fun w' hw => ⟨0, .slice none 0 0, [], a'2_, bad'3_, ⟨rfl, rfl, rfl, rfl, trivial⟩, ⟨⟨Nat.zero_le _, rfl⟩, RdS.pure _ hf2_1.le⟩, yN hw 3 1⟩) (fun k lv l a2 bad2 g hΦ => ?_)
  have ha2 := hΦ.2.le
  have hlk := hΦ.1.2
  refine zB (yI rfl rfl rfl (zA (zL (zU rfl (fun c1 => ?_) (fun c1 => ?_)))))
  ·
   refine zK (zL (zS (zd (zC rfl (zC rfl (zJ rfl rfl (fun w' hw => (zBV o v b a2 bad2 16 w' (by first | assumption | omega | (simp <;> omega) | (constructor <;> (first | omega | (simp only [zb]; omega) | (simp <;> omega)))) (by first | omega | (simp <;> omega)) (by first | omega | (simp <;> omega)) (hw.give [0] rfl (by decide)) (hw.rdTo hb [0] rfl)).mono ?_)))))))
   rintro _ w1 ⟨n4_, a'5_, bad'6_, rfl, hf4_2, hf4_2_1, hO⟩
   refine (?_ : CL _ _ _ _ _ _ (Own w S [Res.vec 3 1 lv l.length (l.flatMap I1), Res.row o 185 [v, Vj a'5_, .bool bad'6_]])) w1 (hw.frameL [0] rfl hO)
   refine ym (e := 3) (sz := 1) (vs := [Vj n4_]) (by kernel_rfl) rfl rfl (by simp [Value.cells]) (by decide) rfl (fun b11 => yx (g := I1) (sz := 1) (by' := 8) (fun _ => rfl) (l := l) (l' := [((n4_ : Nat) : Int)]) (by simp [cell1, I1]) 0 (by kernel_rfl) rfl rfl rfl (fun w' hw' => Vec.sl (Own.holds hw' 2 _ rfl)) (by first | omega | (simp; omega)) (by decide) rfl (fun v12 => zD rfl (zA (zd (zu rfl rfl (zt (by omega)) rfl (zC rfl ?_))))))
   exact zj (fun w' hw => ⟨k + 1, v12, l ++ [((n4_ : Nat) : Int)], a'5_, bad'6_, ⟨rfl, rfl, rfl, rfl, trivial⟩, ⟨⟨by omega, by simp [hlk]⟩, hΦ.2.snoc (RdS.map (fun n : Nat => (n : Int)) hf4_2)⟩, hw.sel [1, 0] rfl (by decide), (by omega)⟩)
  ·
   refine yG rfl (zB (zC rfl (zD rfl (zA ?_))))
   exact zM (z8 (v := lv) rfl rfl (fun w' hw => ⟨lv, l, a2, bad2, rfl, zGP hf2_1 hΦ.2 (by omega), (by omega), hw⟩))
theorem zIT (v : Value) (b : List UInt8) (a : Nat) (w : World) (hl : zb b.length) (ha : a ≤ b.length) (hb : Rd w [] (Res.sl v b.length (b.map vb))) : Rets Tryz.prog 154 #[v, Vj a] w fun u_ w' => ∃ (n : Nat) (k : Nat) (e : Int), u_ = .tuple #[Vn n, Vj k, Vi e] ∧ NumPost (yM b a) n k e ∧ Own w [] [] w' := by
  have hk := (zI b a).toNat_lt
  have hd : (b.drop a).length = b.length - a := by simp
  have e0 : zI (b.drop a) 0 = zI b a := by rw [kN]; rfl
  have e1 : zI (b.drop a) 1 = zI b (a + 1) := kN b a 1
  have hsub : (((b.drop a).take (1 + (zI b a).toNat)).drop 1).length = min (1 + (zI b a).toNat) (b.length - a) - 1 := by simp
  refine zW Tryz.func154 rfl Tryz.ntmps154 (Own.start w) ?_
  refine zB (zD rfl (zD rfl (zD rfl (zA (zL (zB (zC rfl (yI rfl rfl rfl (zC rfl (ya (q := ((a : Nat) : Int) < 0) 4 2 [16, 15, 14, 13] (((b.length : Nat) : Int) < ((a : Nat) : Int)) rfl rfl rfl rfl rfl rfl trivial rfl (fun h1_2 => ?_) (fun g1_7 => ?_)))))))))))
  ·
   refine zP rfl (gF h1_2) (zC rfl (zP rfl (gF h1_2) (zC rfl (zP rfl (gF h1_2) (yD (pR hb) rfl rfl (zP rfl (gF h1_2) (yi rfl rfl rfl ?_)))))))
   exact yP rfl (fun _ hw => hw)
  refine zA (zCX rfl (by omega) (zK (zL (zB (zC rfl (zC rfl (yD (pR hb) rfl rfl (yu rfl rfl rfl (zA (zU rfl (fun c2 => ?_) (fun c2 => ?_)))))))))))
  ·
   refine zB (zD rfl (zD rfl (zD rfl (zA ?_))))
   exact zM (zBI (v := Vn 0) (v' := Vi 0) (v'' := Vi 5) rfl rfl rfl rfl (fun w' hw => ⟨0, 0, 5, rfl, .inr ⟨by decide, rfl, rfl, by unfold yM jH; rw [if_pos (by omega)]; rfl⟩, hw.drop⟩))
  ·
   refine zK (zB (zC rfl (zC rfl (zH (pR hb) 1 a rfl rfl rfl (by omega) rfl (zAI (pR hb) a rfl (by omega) (by omega) rfl (yy (by kernel_rfl) rfl (zt (by omega)) rfl ?_ (by kernel_rfl)))))))
   refine zD rfl (zA (zL (zB (zC rfl (yi rfl rfl rfl (zC rfl (ya (q := 8 < (((zI b a).toNat : Nat) : Int)) 17 2 [46, 45, 44, 43, 42, 41, 40, 39, 38, 37, 36, 35, 34, 33, 32, 31, 30] (((0 < (((zI b a).toNat : Nat) : Int)) ∧ (((a + 1 : Nat) : Int) < ((b.length : Nat) : Int))) ∧ ((((zI b (a + 1)).toNat : Nat) : Int) = ((0 : Nat) : Int))) rfl rfl rfl rfl rfl rfl trivial rfl (fun h6_2 => ?_) (fun g6_20 => ?_))))))))
   ·
    refine zP rfl (gF h6_2) (zC rfl (zP rfl (gF h6_2) (yi rfl rfl rfl (zP rfl (gF h6_2) (zC rfl (yR (q := 0 < (((zI b a).toNat : Nat) : Int)) 5 5 [37, 36, 35, 34, 33] (((a + 1 : Nat) : Int) < ((b.length : Nat) : Int)) rfl rfl rfl rfl rfl rfl ⟨_, rfl, rfl, gF h6_2⟩ rfl (fun h6_5 => ?_) (fun g6_11 => ?_)))))))
    ·
     refine zP rfl (gT h6_5) (zC rfl (zP rfl (gT h6_5) (zu rfl rfl (zt (by omega)) rfl (zP rfl (gT h6_5) (zC rfl (zP rfl (gT h6_5) (yD (pR hb) rfl rfl (zP rfl (gT h6_5) (yI rfl rfl rfl ?_)))))))))
     exact yP rfl (fun _ hw => hw)
    refine zP rfl (gF h6_2) (zC rfl (yR (q := (0 < (((zI b a).toNat : Nat) : Int)) ∧ (((a + 1 : Nat) : Int) < ((b.length : Nat) : Int))) 6 12 [45, 44, 43, 42, 41, 40] ((((zI b (a + 1)).toNat : Nat) : Int) = ((0 : Nat) : Int)) rfl rfl rfl rfl rfl rfl ⟨_, rfl, rfl, gF h6_2⟩ rfl (fun h6_12 => ?_) (fun g6_19 => ?_)))
    ·
     refine zP rfl (gT h6_12) (zC rfl (zP rfl (gT h6_12) (zC rfl (zP rfl (gT h6_12) (zu rfl rfl (zt (by omega)) rfl (zP rfl (gT h6_12) (zH (pR hb) 1 (a + 1) rfl rfl rfl (by omega) rfl (zP rfl (gT h6_12) (zAI (pR hb) (a + 1) rfl (by omega) (by omega) rfl (zP rfl (gT h6_12) (yu rfl rfl rfl ?_)))))))))))
     exact yP rfl (fun _ hw => hw)
    exact yP rfl (fun _ hw => hw)
   refine zA (zU rfl (fun c3 => ?_) (fun c3 => ?_))
   ·
    refine zB (zD rfl (zD rfl (zD rfl (zA ?_))))
    exact zM (zBI (v := Vn 0) (v' := Vi 0) (v'' := Vi 4) rfl rfl rfl rfl (fun w' hw => ⟨0, 0, 4, rfl, .inr ⟨by decide, rfl, rfl, by unfold yM jH; rw [e0, e1, if_neg (by omega), if_pos (by omega)]; rfl⟩, hw.drop⟩))
   ·
    refine zK (zL (zB (zC rfl (yD (pR hb) rfl rfl (zC rfl (yb rfl rfl (zt (by omega)) rfl (yb rfl rfl (zt (by omega)) rfl (zC rfl (yI rfl rfl rfl (zA (zU rfl (fun c4 => ?_) (fun c4 => ?_))))))))))))
    ·
     refine zB (zD rfl (zD rfl (zD rfl (zA ?_))))
     exact zM (zBI (v := Vn 0) (v' := Vi 0) (v'' := Vi 5) rfl rfl rfl rfl (fun w' hw => ⟨0, 0, 5, rfl, .inr ⟨by decide, rfl, rfl, by unfold yM jH; rw [e0, e1, if_neg (by omega), if_neg (by omega), if_pos (by omega)]; rfl⟩, hw.drop⟩))
    ·
     refine zK (zB (zD rfl (zA (zL (zB (zD rfl (zA (zS ?_))))))))
     refine xH (fun (j : Nat) => [(0, v), (1, Vj a), (7, Vj ((zI b a).toNat)), (8, Vn (beN ((((b.drop a).take (1 + (zI b a).toNat)).drop 1).take j))), (9, Vj (j + 1))]) (fun (j : Nat) => j ≤ (zI b a).toNat) (fun (j : Nat) => []) (fun (j : Nat) => (zI b a).toNat - j) (fun w' hw => ⟨0, ⟨rfl, rfl, rfl, rfl, rfl, trivial⟩, Nat.zero_le _, hw⟩) (fun j g hΦ => ?_)
     have hlt := zDC ((((b.drop a).take (1 + (zI b a).toNat)).drop 1).take j)
     have hlj : ((((b.drop a).take (1 + (zI b a).toNat)).drop 1).take j).length = j := by rw [List.length_take]; omega
     rw [hlj] at hlt
     refine zL (zB (zC rfl (zC rfl (kd rfl rfl rfl (zA (zU rfl (fun c5 => ?_) (fun c5 => ?_)))))))
     ·
      have hp7 := zCy (k := j) (by omega)
      have hcl := (zI b (a + (j + 1))).toNat_lt
      refine zK (zL (zS (zd (zC rfl (zBx rfl rfl (kY (by omega)) rfl (zC rfl (zC rfl (zC rfl (zu rfl rfl (zt (by omega)) rfl (zH (pR hb) 1 (a + (j + 1)) rfl rfl rfl (by omega) rfl (zAI (pR hb) (a + (j + 1)) rfl (by omega) (by omega) rfl (yy (by kernel_rfl) rfl (kY (by omega)) rfl ?_ (by kernel_rfl)))))))))))))
      refine zu rfl rfl (kY (by omega)) rfl (zD rfl (zA (zd (zC rfl (zu rfl rfl (zt (by omega)) rfl (zD rfl ?_))))))
      exact zj (fun w' hw => ⟨j + 1, ⟨rfl, rfl, rfl, by rw [yE (by omega), zEg, kN, ji (by omega), kN, show a + (1 + j) = a + (j + 1) by omega]; rfl, rfl, trivial⟩, (by omega), hw, (by omega)⟩)
     ·
      refine yG rfl (zB (zC rfl (zC rfl (zu rfl rfl (zt (by omega)) rfl (zC rfl (zu rfl rfl (zt (by omega)) rfl (zD rfl (zD rfl (zD rfl (zA ?_))))))))))
      exact zM (zBI (v := Vn (beN ((((b.drop a).take (1 + (zI b a).toNat)).drop 1).take j))) (v' := Vj ((a + 1) + ((zI b a).toNat))) (v'' := Vi 0) rfl rfl rfl rfl (fun w' hw => ⟨(beN ((((b.drop a).take (1 + (zI b a).toNat)).drop 1).take j)), (a + 1) + ((zI b a).toNat), 0, rfl, .inl ⟨rfl, by unfold yM jH; rw [e0, e1, if_neg (by omega), if_neg (by omega), if_neg (by omega), List.take_of_length_le (i := j) (by omega)]; simp [Nat.add_assoc]⟩, hw.drop⟩))
theorem zIB (v : Value) (b : List UInt8) (a : Nat) (w : World) (hl : zb b.length) (ha : a ≤ b.length) (hb : Rd w [] (Res.sl v b.length (b.map vb))) : Rets Tryz.prog 155 #[v, Vj a] w fun u_ w' => ∃ (r : Value) (d : List UInt8) (k : Nat) (e : Int), u_ = .tuple #[r, Vj k, Vi e] ∧ BytesPost (yn b a) d k e ∧ Own w [] [Res.vec 5 1 r d.length (d.map vb)] w' := by
  refine zW Tryz.func155 rfl Tryz.ntmps155 (Own.start w) ?_
  refine zB (zD rfl (zD rfl (zD rfl (zA (zB (zC rfl (zC rfl (zJ rfl rfl (fun w' hw => (zIT v b a w' (by first | assumption | omega | (simp <;> omega) | (constructor <;> (first | omega | (simp only [zb]; omega) | (simp <;> omega)))) (by first | omega | (simp <;> omega)) (hw.rd0 hb)).mono ?_)))))))))
  rintro _ w1 ⟨n1_, k2_, e3_, rfl, hf1_2, hO⟩
  have hn := hf1_2
  refine (?_ : CL _ _ _ _ _ _ (Own w [] [])) w1 (hw.frame0 hO)
  refine zC rfl (zo (vs := [Vn n1_, Vj k2_, Vi e3_]) rfl rfl rfl (zo (vs := [Vn n1_, Vj k2_, Vi e3_]) rfl rfl rfl (zo (vs := [Vn n1_, Vj k2_, Vi e3_]) rfl rfl rfl (zD rfl (zD rfl (zD rfl (zA (zL (zB (zC rfl (xq rfl rfl rfl (zA ?_))))))))))))
  refine zU rfl (fun c1 => ?_) (fun c1 => ?_)
  ·
   refine zB (zC rfl (zD rfl (zD rfl (zD rfl (zA ?_)))))
   exact zM (zBI (v := .slice none 0 0) (v' := Vi 0) (v'' := Vi e3_) rfl rfl rfl rfl (fun w' hw => ⟨.slice none 0 0, [], 0, e3_, rfl, .inr ⟨c1, by unfold yn; rw [hn.no c1]; rfl⟩, yN hw.drop 5 1⟩))
  ·
   have hy := hn.yes (by omega)
   obtain ⟨hn1, hn2, hn3⟩ := z6 hy
   refine zK (zL (zB (zC rfl (zC rfl (yD (pR hb) rfl rfl (yy (by kernel_rfl) rfl (kY (by omega)) rfl ?_ (by kernel_rfl)))))))
   refine yi rfl rfl rfl (zC rfl (ya (q := ((b.length : Nat) : Int) < ((n1_ : Nat) : Int)) 7 5 [32, 31, 30, 29, 28, 27, 26] ((((b.length : Nat) : Int) - ((k2_ : Nat) : Int)) < ((n1_ : Nat) : Int)) rfl rfl rfl rfl rfl rfl trivial rfl (fun h4_5 => ?_) (fun g4_13 => ?_)))
   ·
    refine zP rfl (gF h4_5) (zC rfl (zP rfl (gF h4_5) (yD (pR hb) rfl rfl (zP rfl (gF h4_5) (zC rfl (zP rfl (gF h4_5) (yb rfl rfl (zt (by omega)) rfl (zP rfl (gF h4_5) (zC rfl (zP rfl (gF h4_5) (yy (by kernel_rfl) rfl (zt (by omega)) rfl ?_ (by kernel_rfl))))))))))))
    refine zP rfl (gF h4_5) (yI rfl rfl rfl ?_)
    exact yP rfl (fun _ hw => hw)
   refine zA (zU rfl (fun c2 => ?_) (fun c2 => ?_))
   ·
    refine zB (zD rfl (zD rfl (zD rfl (zA ?_))))
    exact zM (zBI (v := .slice none 0 0) (v' := Vi 0) (v'' := Vi 5) rfl rfl rfl rfl (fun w' hw => ⟨.slice none 0 0, [], 0, 5, rfl, .inr ⟨by decide, by unfold yn; rw [hy]; simp only [Option.bind_some]; rw [if_pos (by omega)]⟩, yN hw.drop 5 1⟩))
   ·
    refine zK (zB (ym (e := 5) (sz := 1) (vs := []) (by kernel_rfl) rfl rfl (by simp [Value.cells]) (by decide) rfl (fun b34 => zC rfl (zC rfl (zC rfl (zC rfl (yy (by kernel_rfl) rfl (zt (by omega)) rfl ?_ (by kernel_rfl))))))))
    refine zu rfl rfl (zt (by omega)) rfl (zAR (pR hb) 1 k2_ (k2_ + n1_) (by kernel_rfl) rfl ⟨_, rfl⟩ ⟨_, rfl⟩ (by omega) (by omega) rfl ?_)
    have hs4_ := Rd.subL_m (g := vb) (xs := b)  hb (l := k2_) (h := k2_ + n1_) (by omega) (by omega)
    refine zCT (l := ([] : List UInt8)) (l' := ((b.take (k2_ + n1_)).drop k2_)) 0 (by kernel_rfl) rfl rfl rfl (fun w' hw' => Own.rd hs4_ hw') (by first | omega | (simp; omega)) rfl (fun v42 => zC rfl (zC rfl (yy (by kernel_rfl) rfl (zt (by omega)) rfl ?_ (by kernel_rfl))))
    refine zu rfl rfl (zt (by omega)) rfl (zD rfl (zD rfl (zD rfl (zA ?_))))
    exact zM (zBI (v := v42) (v' := Vj (k2_ + n1_)) (v'' := Vi 0) rfl rfl rfl rfl (fun w' hw => ⟨v42, ((b.take (k2_ + n1_)).drop k2_), k2_ + n1_, 0, rfl, .inl ⟨rfl, by unfold yn; rw [hy]; simp only [Option.bind_some]; rw [if_neg (by omega)]⟩, hw⟩))
theorem jf {S : List Nat} (o : Nat) (v : Value) (b : List UInt8) (a : Nat) (bad : Bool) (w : World) (hl : zb b.length) (ha : a ≤ b.length) (hin : Own w S [Res.row o 171 [v, Vj a, .bool bad]] w) (hb : Rd w S (Res.sl v b.length (b.map vb))) : Rets Tryz.prog 131 #[.pointer (some ⟨o, 0, none⟩)] w fun u_ w' => ∃ (n : Nat) (a' : Nat) (bad' : Bool), u_ = Vn n ∧ RdS yM b a bad n a' bad' ∧ n < 18446744073709551616 ∧ Own w S [Res.row o 171 [v, Vj a', .bool bad']] w' := by
  refine zW Tryz.func131 rfl Tryz.ntmps131 hin ?_
  refine zB (zD rfl (zA (zL (zB (zC rfl (zm rfl rfl (zQ (o := 2) rfl rfl (zT 0 (v := .bool bad) rfl rfl rfl rfl (zA (zCt rfl (fun c1 => ?_) (fun c1 => ?_)))))))))))
  ·
   refine zB (zD rfl (zA ?_))
   exact zM (z8 (v := Vn 0) rfl rfl (fun w' hw => ⟨0, a, bad, rfl, RdS.badly c1 ha, (by omega), hw⟩))
  ·
   refine zK (zL (zh [0] rfl (by decide) (by kernel_rfl) (fun w' hw hS => zF 0 rfl (zO) hS (zF 1 rfl (yA rfl) hS (zF 2 rfl (zk (o := 0) rfl) hS (zF 3 rfl (zr 0 (v := v) rfl rfl rfl) hS (zF 4 rfl (zO) hS (zF 5 rfl (yA rfl) hS (zF 6 rfl (zk (o := 1) rfl) hS (zF 7 rfl (zr 0 (v := Vj a) rfl rfl rfl) hS (zZ 8 rfl hw (zJ rfl rfl (fun w' hw => ?_)))))))))))))
   refine (zIT v b a w' (by first | assumption | omega | (simp <;> omega) | (constructor <;> (first | omega | (simp only [zb]; omega) | (simp <;> omega)))) (by first | omega | (simp <;> omega)) (hw.rd0 hb)).mono ?_
   rintro _ w1 ⟨n1_, k2_, e3_, rfl, hf3_8, hO⟩
   refine (?_ : CL _ _ _ _ _ _ (Own w S [Res.row o 171 [v, Vj a, .bool bad]])) w1 (hw.frame0 hO)
   refine zG [0] rfl (by decide) (fun w' hw hS => zF 9 rfl (zO) hS (zF 10 rfl (yd (vs := [Vn n1_, Vj k2_, Vi e3_]) rfl rfl) hS (zF 11 rfl (yd (vs := [Vn n1_, Vj k2_, Vi e3_]) rfl rfl) hS (zF 12 rfl (yd (vs := [Vn n1_, Vj k2_, Vi e3_]) rfl rfl) hS (zF 13 rfl (yz) hS (zF 14 rfl (yz) hS (zF 15 rfl (yz) hS (zR ?_))))))))
   refine (?_ : C _ _ _ _ _ _ _ (Own w S [Res.row o 171 [v, Vj a, .bool bad]])) _ hw
   refine zL (zB (zC rfl (xq rfl rfl rfl (zA (zU rfl (fun c2 => ?_) (fun c2 => ?_))))))
   ·
    refine zB (zC rfl (zm rfl rfl (zQ (o := 2) rfl rfl (yk (cs := [v, Vj a, .bool bad]) 0 rfl rfl rfl rfl rfl (zA (zB (zD rfl (zA ?_))))))))
    exact zM (z8 (v := Vn 0) rfl rfl (fun w' hw => ⟨0, a, true, rfl, RdS.fail ha fun _ => hf3_8.no c2, (by omega), hw⟩))
   ·
    refine zK (zB (zC rfl (zC rfl (zm rfl rfl (zQ (o := 1) rfl rfl (yk (cs := [v, Vj a, .bool bad]) 0 rfl rfl rfl rfl rfl (zA (zB (zC rfl (zD rfl (zA ?_)))))))))))
    exact zM (z8 (v := Vn n1_) rfl rfl (fun w' hw => ⟨n1_, k2_, bad, rfl, RdS.done (z6 (hf3_8.yes (by omega))).2.1 (hf3_8.yes (by omega)), (z6 (hf3_8.yes (by omega))).1, hw⟩))
theorem zCe {S : List Nat} (o : Nat) (v : Value) (b : List UInt8) (a : Nat) (bad : Bool) (most : Nat) (w : World) (hl : zb b.length) (ha : a ≤ b.length) (hm : most ≤ 1000000) (hin : Own w S [Res.row o 171 [v, Vj a, .bool bad]] w) (hb : Rd w S (Res.sl v b.length (b.map vb))) : Rets Tryz.prog 132 #[.pointer (some ⟨o, 0, none⟩), Vn most] w fun u_ w' => ∃ (n : Nat) (a' : Nat) (bad' : Bool), u_ = Vj n ∧ RdS (ko most) b a bad n a' bad' ∧ n ≤ most ∧ Own w S [Res.row o 171 [v, Vj a', .bool bad']] w' := by
  refine zW Tryz.func132 rfl Tryz.ntmps132 hin ?_
  refine zB (zD rfl (zA (zB (zC rfl (zJ rfl rfl (fun w' hw => (jf o v b a bad w' (by first | assumption | omega | (simp <;> omega) | (constructor <;> (first | omega | (simp only [zb]; omega) | (simp <;> omega)))) (by first | omega | (simp <;> omega)) (hw.give [0] rfl (by decide)) (hw.rdTo hb [0] rfl)).mono ?_))))))
  rintro _ w1 ⟨n1_, a'2_, bad'3_, rfl, hf1_1, hf1_1_1, hO⟩
  have hq := hf1_1.le
  refine (?_ : CL _ _ _ _ _ _ (Own w S [Res.row o 171 [v, Vj a'2_, .bool bad'3_]])) w1 (hw.frameL [0] rfl hO)
  refine zD rfl (zA (zL (zB (zC rfl (zC rfl (yi rfl rfl rfl (zA (zU rfl (fun c1 => ?_) (fun c1 => ?_)))))))))
  ·
   refine zB (zC rfl (zm rfl rfl (zQ (o := 2) rfl rfl (yk (cs := [v, Vj a'2_, .bool bad'3_]) 0 rfl rfl rfl rfl rfl (zA (zB (zD rfl (zA ?_))))))))
   exact zM (z8 (v := Vi 0) rfl rfl (fun w' hw => ⟨0, a'2_, true, rfl, RdS.fail hq fun h0 => (by cases hp : ko most b a with | none => rfl | some q => obtain ⟨h1, h2⟩ := k7 hp; obtain ⟨_, h3, _⟩ := hf1_1.ok q.1 q.2 h0 h1; omega), (by omega), hw⟩))
  ·
   refine zK (zB (zC rfl (yy (by kernel_rfl) rfl (zt (by omega)) rfl ?_ (by kernel_rfl))))
   refine zD rfl (zA ?_)
   exact zM (z8 (v := Vj n1_) rfl rfl (fun w' hw => ⟨n1_, a'2_, bad'3_, rfl, ⟨hq, hf1_1.st, fun u k h0 h => hf1_1.ok u k h0 (k7 h).1, fun h0 h => (by cases hp : yM b a with | none => exact hf1_1.no h0 hp | some q => simp only [ko, hp, Option.bind_some] at h; obtain ⟨_, h3, _⟩ := hf1_1.ok q.1 q.2 h0 hp; rw [if_neg (by omega)] at h; cases h)⟩, (by omega), hw⟩))
theorem zHE {S : List Nat} (o : Nat) (v : Value) (b : List UInt8) (a : Nat) (bad : Bool) (w : World) (hl : zb b.length) (ha : a ≤ b.length) (hin : Own w S [Res.row o 171 [v, Vj a, .bool bad]] w) (hb : Rd w S (Res.sl v b.length (b.map vb))) : Rets Tryz.prog 133 #[.pointer (some ⟨o, 0, none⟩)] w fun u_ w' => ∃ (r : Value) (d : List UInt8) (a' : Nat) (bad' : Bool), u_ = r ∧ RdS yn b a bad d a' bad' ∧ d.length ≤ b.length ∧ Own w S [Res.row o 171 [v, Vj a', .bool bad'], Res.vec 5 1 r d.length (d.map vb)] w' := by
  refine zW Tryz.func133 rfl Tryz.ntmps133 hin ?_
  refine zB (zD rfl (zA (zL (zB (zC rfl (zm rfl rfl (zQ (o := 2) rfl rfl (zT 0 (v := .bool bad) rfl rfl rfl rfl (zA (zCt rfl (fun c1 => ?_) (fun c1 => ?_)))))))))))
  ·
   refine zB (zD rfl (zA ?_))
   exact zM (z8 (v := .slice none 0 0) rfl rfl (fun w' hw => ⟨.slice none 0 0, [], a, bad, rfl, RdS.badly c1 ha, (by simp), yN hw 5 1⟩))
  ·
   refine zK (zL (zh [0] rfl (by decide) (by kernel_rfl) (fun w' hw hS => zF 0 rfl (zO) hS (zF 1 rfl (yA rfl) hS (zF 2 rfl (zk (o := 0) rfl) hS (zF 3 rfl (zr 0 (v := v) rfl rfl rfl) hS (zF 4 rfl (zO) hS (zF 5 rfl (yA rfl) hS (zF 6 rfl (zk (o := 1) rfl) hS (zF 7 rfl (zr 0 (v := Vj a) rfl rfl rfl) hS (zZ 8 rfl hw (zJ rfl rfl (fun w' hw => ?_)))))))))))))
   refine (zIB v b a w' (by first | assumption | omega | (simp <;> omega) | (constructor <;> (first | omega | (simp only [zb]; omega) | (simp <;> omega)))) (by first | omega | (simp <;> omega)) (hw.rd0 hb)).mono ?_
   rintro _ w1 ⟨r1_, d2_, k3_, e4_, rfl, hf3_8, hO⟩
   refine (?_ : CL _ _ _ _ _ _ (Own w S [Res.row o 171 [v, Vj a, .bool bad], Res.vec 5 1 r1_ d2_.length (d2_.map vb)])) w1 (hw.frame0 hO)
   refine zG [0] rfl (by decide) (fun w' hw hS => zF 9 rfl (zO) hS (zF 10 rfl (yd (vs := [r1_, Vj k3_, Vi e4_]) rfl rfl) hS (zF 11 rfl (yd (vs := [r1_, Vj k3_, Vi e4_]) rfl rfl) hS (zF 12 rfl (yd (vs := [r1_, Vj k3_, Vi e4_]) rfl rfl) hS (zF 13 rfl (yz) hS (zF 14 rfl (yz) hS (zF 15 rfl (yz) hS (zR ?_))))))))
   refine (?_ : C _ _ _ _ _ _ _ (Own w S [Res.row o 171 [v, Vj a, .bool bad], Res.vec 5 1 r1_ d2_.length (d2_.map vb)])) _ hw
   refine zL (zB (zC rfl (xq rfl rfl rfl (zA (zU rfl (fun c2 => ?_) (fun c2 => ?_))))))
   ·
    refine zB (zC rfl (zm rfl rfl (zQ (o := 2) rfl rfl (yk (cs := [v, Vj a, .bool bad]) 0 rfl rfl rfl rfl rfl (zA (zB (zD rfl (zA ?_))))))))
    exact zM (z8 (v := .slice none 0 0) rfl rfl (fun w' hw => ⟨.slice none 0 0, [], a, true, rfl, RdS.fail ha fun _ => hf3_8.no c2, (by simp), yN (hw.one 0 rfl) 5 1⟩))
   ·
    refine zK (zB (zC rfl (zC rfl (zm rfl rfl (zQ (o := 1) rfl rfl (yk (cs := [v, Vj a, .bool bad]) 0 rfl rfl rfl rfl rfl (zA (zB (zC rfl (zD rfl (zA ?_)))))))))))
    exact zM (z8 (v := r1_) rfl rfl (fun w' hw => ⟨r1_, d2_, k3_, bad, rfl, RdS.done (xu (hf3_8.yes (by omega))).1 (hf3_8.yes (by omega)), (xu (hf3_8.yes (by omega))).2, hw⟩))
theorem zEl {S : List Nat} (o : Nat) (v : Value) (b : List UInt8) (a : Nat) (bad : Bool) (w : World) (hl : zb b.length) (ha : a ≤ b.length) (hin : Own w S [Res.row o 171 [v, Vj a, .bool bad]] w) (hb : Rd w S (Res.sl v b.length (b.map vb))) : Rets Tryz.prog 151 #[.pointer (some ⟨o, 0, none⟩)] w fun u_ w' => ∃ (r : Value) (l : List Int) (a' : Nat) (bad' : Bool), u_ = r ∧ RdS zG3 b a bad l a' bad' ∧ l.length ≤ 16 ∧ Own w S [Res.row o 171 [v, Vj a', .bool bad'], Res.vec 3 1 r l.length (l.flatMap I1)] w' := by
  refine zW Tryz.func151 rfl Tryz.ntmps151 hin ?_
  refine zB (zD rfl (zA (zB (zD rfl (zA (zB (zC rfl (zJ rfl rfl (fun w' hw => (zCe o v b a bad 16 w' (by first | assumption | omega | (simp <;> omega) | (constructor <;> (first | omega | (simp only [zb]; omega) | (simp <;> omega)))) (by first | omega | (simp <;> omega)) (by first | omega | (simp <;> omega)) (hw.give [0] rfl (by decide)) (hw.rdTo hb [0] rfl)).mono ?_)))))))))
  rintro _ w1 ⟨n1_, a'2_, bad'3_, rfl, hf2_1, hf2_1_1, hO⟩
  refine (?_ : CL _ _ _ _ _ _ (Own w S [Res.row o 171 [v, Vj a'2_, .bool bad'3_]])) w1 (hw.frameL [0] rfl hO)
  refine zD rfl (zA (zL (zB (zD rfl (zA (zS ?_))))))
  refine zBW (fun (k : Nat) (lv : Value) (l : List Int) (a2 : Nat) (bad2 : Bool) => [(0, .pointer (some ⟨o, 0, none⟩)), (3, lv), (4, Vj n1_), (5, Vj k)]) (fun (k : Nat) (lv : Value) (l : List Int) (a2 : Nat) (bad2 : Bool) => (k ≤ n1_ ∧ l.length = k) ∧ RdS (yg (zDy 16) k) b a'2_ bad'3_ l a2 bad2) (fun (k : Nat) (lv : Value) (l : List Int) (a2 : Nat) (bad2 : Bool) => [Res.row o 171 [v, Vj a2, .bool bad2], Res.vec 3 1 lv l.length (l.flatMap I1)]) (fun (k : Nat) (lv : Value) (l : List Int) (a2 : Nat) (bad2 : Bool) => n1_ - k) (fun w' hw => ⟨0, .slice none 0 0, [], a'2_, bad'3_, ⟨rfl, rfl, rfl, rfl, trivial⟩, ⟨⟨Nat.zero_le _, rfl⟩, RdS.pure _ hf2_1.le⟩, yN hw 3 1⟩) (fun k lv l a2 bad2 g hΦ => ?_)
  have ha2 := hΦ.2.le
  have hlk := hΦ.1.2
  refine zL (zB (zC rfl (zC rfl (yI rfl rfl rfl (zC rfl (yR (q := ((k : Nat) : Int) < ((n1_ : Nat) : Int)) 5 3 [17, 16, 15, 14, 13] ((!bad2) = true) rfl rfl rfl rfl rfl rfl trivial rfl (fun h4_3 => ?_) (fun g4_9 => ?_)))))))
  ·
   refine zP rfl (gT h4_3) (zC rfl (zP rfl (gT h4_3) (zm rfl rfl (zP rfl (gT h4_3) (zQ (o := 2) rfl rfl (zP rfl (gT h4_3) (zT 0 (v := .bool bad2) rfl rfl rfl rfl (zP rfl (gT h4_3) (ka (b := bad2) rfl rfl ?_)))))))))
   exact yP (yc _) (fun _ hw => hw)
  refine zA (zU rfl (fun c1 => ?_) (fun c1 => ?_))
  ·
   refine zK (zL (zS (zB (zC rfl (zJ rfl rfl (fun w' hw => (zCe o v b a2 bad2 16 w' (by first | assumption | omega | (simp <;> omega) | (constructor <;> (first | omega | (simp only [zb]; omega) | (simp <;> omega)))) (by first | omega | (simp <;> omega)) (by first | omega | (simp <;> omega)) (hw.give [0] rfl (by decide)) (hw.rdTo hb [0] rfl)).mono ?_))))))
   rintro _ w1 ⟨n4_, a'5_, bad'6_, rfl, hf6_1, hf6_1_1, hO⟩
   refine (?_ : CL _ _ _ _ _ _ (Own w S [Res.vec 3 1 lv l.length (l.flatMap I1), Res.row o 171 [v, Vj a'5_, .bool bad'6_]])) w1 (hw.frameL [0] rfl hO)
   refine zD rfl (zA (zd (zC rfl (zC rfl (ym (e := 3) (sz := 1) (vs := [Vj n4_]) (by kernel_rfl) rfl rfl (by simp [Value.cells]) (by decide) rfl (fun b25 => yx (g := I1) (sz := 1) (by' := 8) (fun _ => rfl) (l := l) (l' := [((n4_ : Nat) : Int)]) (by simp [cell1, I1]) 0 (by kernel_rfl) rfl rfl rfl (fun w' hw' => Vec.sl (Own.holds hw' 2 _ rfl)) (by first | omega | (simp; omega)) (by decide) rfl (fun v26 => zD rfl (zA (zd (zC rfl (zu rfl rfl (zt (by omega)) rfl (zD rfl ?_))))))))))))
   exact zj (fun w' hw => ⟨k + 1, v26, l ++ [((n4_ : Nat) : Int)], a'5_, bad'6_, ⟨rfl, rfl, rfl, rfl, trivial⟩, ⟨⟨by omega, by simp [hlk]⟩, hΦ.2.snoc (RdS.map (fun n : Nat => (n : Int)) hf6_1)⟩, hw.sel [1, 0] rfl (by decide), (by omega)⟩)
  ·
   refine yG rfl (zB (zC rfl (zD rfl (zA ?_))))
   exact zM (z8 (v := lv) rfl rfl (fun w' hw => ⟨lv, l, a2, bad2, rfl, zIi hf2_1 hΦ.2 c1 (by omega), (by omega), hw⟩))
theorem zGf {S : List Nat} (o : Nat) (v : Value) (b : List UInt8) (a : Nat) (bad : Bool) (w : World) (hl : zb b.length) (hin : Own w S [Res.row o 171 [v, Vj a, .bool bad]] w) (hb : Rd w S (Res.sl v b.length (b.map vb))) : Rets Tryz.prog 98 #[.pointer (some ⟨o, 0, none⟩)] w fun u_ w' => u_ = .bool (decide (bad = false ∧ a = b.length)) ∧ Own w S [Res.row o 171 [v, Vj a, .bool bad]] w' := by
  refine zW Tryz.func98 rfl Tryz.ntmps98 hin ?_
  refine zB (zD rfl (zA (xf (by kernel_rfl) (by kernel_rfl) (zf rfl (zO) (zf rfl (yA rfl) (zf rfl (zk (o := 2) rfl) (zf rfl (zr 0 (v := .bool bad) rfl rfl rfl) (zf rfl (zDr (b := bad) rfl) (zf rfl (zO) (zD0 (q := (!bad) = true) 10 5 [18, 17, 16, 15, 14, 13, 12, 11, 10, 9] (((a : Nat) : Int) = ((b.length : Nat) : Int)) rfl rfl (yc _) rfl rfl rfl trivial rfl (fun h1_5 => ?_) (fun g1_16 => ?_)))))))))))
  ·
   refine y4 rfl (bT h1_5) (zf rfl (zO) (y4 rfl (bT h1_5) (zf rfl (yA rfl) (y4 rfl (bT h1_5) (zf rfl (zk (o := 1) rfl) (y4 rfl (bT h1_5) (zf rfl (zr 0 (v := Vj a) rfl rfl rfl) (y4 rfl (bT h1_5) (zf rfl (zO) (y4 rfl (bT h1_5) (zf rfl (yA rfl) (y4 rfl (bT h1_5) ?_))))))))))))
   refine zf rfl (zk (o := 0) rfl) (y4 rfl (bT h1_5) (zf rfl (zr 0 (v := v) rfl rfl rfl) (y4 rfl (bT h1_5) (zf rfl (zIX (pR hb) rfl) (y4 rfl (bT h1_5) (zf rfl (zIl rfl rfl) ?_))))))
   exact zEC rfl
  refine zf rfl (yz) (zAB ?_)
  exact zM (z8 (v := .bool (decide (((!bad) = true) ∧ (((a : Nat) : Int) = ((b.length : Nat) : Int))))) rfl rfl (fun w' hw => ⟨(by cases bad <;> simp_all; omega), hw⟩))
end Go.Proofs.YthincafbmpialaaGreat
