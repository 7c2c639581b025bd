import Derived.Test.YthincafbmpialaaGreatIn
set_option linter.unusedSectionVars false
set_option linter.unusedSimpArgs false
set_option linter.unusedVariables false
set_option maxRecDepth 10000
namespace Go.Proofs.YthincafbmpialaaGreat
open Go Go.Sc Go.Proofs
theorem BytesPost.yes {p : Option (List UInt8 × Nat)} {d : List UInt8} {k : Nat} {e : Int} (h : BytesPost p d k e) (he : e = 0) : p = some (d, k) := by
  rcases h with h | h
  · exact h.2
  · exact absurd he h.1
theorem BytesPost.no {p : Option (List UInt8 × Nat)} {d : List UInt8} {k : Nat} {e : Int} (h : BytesPost p d k e) (he : e ≠ 0) : p = none := by
  rcases h with h | h
  · exact absurd h.1 he
  · exact h.2
def yv {α : Type} (p : List UInt8 → Nat → Option (α × Nat)) : Nat → List UInt8 → Nat → Option (List α × Nat)
  | 0 => yk []
  | k + 1 => yE (yv p k) fun l => yE p fun x => yk (l ++ [x])
theorem RdS.snoc {α : Type} {p : List UInt8 → Nat → Option (α × Nat)} {b : List UInt8} {a a1 a2 k : Nat} {bad bad1 bad2 : Bool} {l : List α} {x : α} (h1 : RdS (yv p k) b a bad l a1 bad1) (h2 : RdS p b a1 bad1 x a2 bad2) : RdS (yv p (k + 1)) b a bad (l ++ [x]) a2 bad2 :=
  h1.bind (h2.map (l ++ [·]))
theorem zDW {α : Type} {p : List UInt8 → Nat → Option (α × Nat)} {b : List UInt8} {a k : Nat} (h : yv p k b a = none) : ∀ n, k ≤ n → yv p n b a = none := by
  intro n hn
  induction n with
  | zero => rw [show k = 0 by omega] at h; exact h
  | succ n ih =>
    by_cases hk : k = n + 1
    · rw [← hk]; exact h
    · simp only [yv, yE, ih (by omega), Option.bind_none]
theorem RdS.stop {α : Type} {p : List UInt8 → Nat → Option (α × Nat)} {b : List UInt8} {a a1 k n : Nat} {bad : Bool} {l : List α} (h : RdS (yv p k) b a bad l a1 true) (hn : k ≤ n) : RdS (yv p n) b a bad l a1 true := by
  refine ⟨h.le, h.st, fun v j hb hv => ?_, fun _ _ => rfl⟩
  cases hp : yv p k b a with
  | none => rw [zDW hp n hn] at hv; cases hv
  | some q => have := (h.ok q.1 q.2 hb hp).1; cases this
def zEM (most : Nat) : List UInt8 → Nat → Option (Int × Nat) := yE (jB most) fun n => yk (n : Int)
def zHB : List UInt8 → Nat → Option (List Int × Nat) := yE (jB 16) fun n => yv (zEM 16) n
theorem zGb {b : List UInt8} {a a1 a2 n k : Nat} {bad bad1 bad2 : Bool} {l : List Int} (h1 : RdS (jB 16) b a bad n a1 bad1) (h2 : RdS (yv (zEM 16) k) b a1 bad1 l a2 bad2) (e : k = n) : RdS zHB b a bad l a2 bad2 := by
  subst e; exact h1.bind h2
theorem zIP {b : List UInt8} {a a1 a2 n k : Nat} {bad bad1 bad2 : Bool} {l : List Int} (h1 : RdS (jB 16) b a bad n a1 bad1) (h2 : RdS (yv (zEM 16) k) b a1 bad1 l a2 bad2) (c : ¬ ((k : Int) < n ∧ (!bad2) = true)) (hk : k ≤ n) : RdS zHB b a bad l a2 bad2 := by
  by_cases e : k = n
  · exact zGb h1 h2 e
  · have hb : bad2 = true := by cases bad2; exact absurd ⟨by omega, rfl⟩ c; rfl
    subst hb
    exact h1.bind (h2.stop hk)
theorem zHn {S : List Nat} (o : Nat) (v : Value) (b : List UInt8) (a : Nat) (bad : Bool) (w : World) (hl : zb b.length) (ha : a ≤ b.length) (hin : Own w S [Res.row o 185 [v, Vj a, .bool bad]] w) (hb : Rd w S (Res.sl v b.length (b.map vb))) : Rets Tryz.prog 106 #[.pointer (some ⟨o, 0, none⟩)] w fun u_ w' => ∃ (r : Value) (d : List UInt8) (a' : Nat) (bad' : Bool), u_ = r ∧ RdS y0 b a bad d a' bad' ∧ d.length ≤ b.length ∧ Own w S [Res.row o 185 [v, Vj a', .bool bad'], Res.vec 5 1 r d.length (d.map vb)] w' := by
  refine zW Tryz.func106 rfl Tryz.ntmps106 hin ?_
  refine zB (zD rfl (zA (zL (zB (zC rfl (zm rfl rfl (zP (o := 2) rfl rfl (zS 0 (v := .bool bad) rfl rfl rfl rfl (zA (zCx rfl (fun c1 => ?_) (fun c1 => ?_)))))))))))
  ·
   refine zB (zD rfl (zA ?_))
   exact zM (z6 (v := .slice none 0 0) rfl rfl (fun w' hw => ⟨.slice none 0 0, [], a, bad, rfl, RdS.badly c1 ha, (by simp), yK hw 5 1⟩))
  ·
   refine zK (zL (zg [0] rfl (by decide) (by kernel_rfl) (fun w' hw hS => zF 0 rfl (zQ) hS (zF 1 rfl (z7 rfl) hS (zF 2 rfl (zi (o := 0) rfl) hS (zF 3 rfl (zo 0 (v := v) rfl rfl rfl) hS (zF 4 rfl (zQ) hS (zF 5 rfl (z7 rfl) hS (zF 6 rfl (zi (o := 1) rfl) hS (zF 7 rfl (zo 0 (v := Vj a) rfl rfl rfl) hS (zY 8 rfl hw (zJ rfl rfl (fun w' hw => ?_)))))))))))))
   refine (zGW v b a w' (by first | assumption | omega | (simp <;> omega) | (constructor <;> (first | omega | (simp only [zb]; omega) | (simp <;> omega)))) (by first | omega | (simp <;> omega)) (hw.rd0 hb)).mono ?_
   rintro _ w1 ⟨r1_, d2_, k3_, e4_, rfl, hf3_8, hO⟩
   refine (?_ : CL _ _ _ _ _ _ (Own w S [Res.row o 185 [v, Vj a, .bool bad], Res.vec 5 1 r1_ d2_.length (d2_.map vb)])) w1 (hw.frame0 hO)
   refine zG [0] rfl (by decide) (fun w' hw hS => zF 9 rfl (zQ) hS (zF 10 rfl (ya (vs := [r1_, Vj k3_, Vi e4_]) rfl rfl) hS (zF 11 rfl (ya (vs := [r1_, Vj k3_, Vi e4_]) rfl rfl) hS (zF 12 rfl (ya (vs := [r1_, Vj k3_, Vi e4_]) rfl rfl) hS (zF 13 rfl (yx) hS (zF 14 rfl (yx) hS (zF 15 rfl (yx) hS (zR ?_))))))))
   refine (?_ : C _ _ _ _ _ _ _ (Own w S [Res.row o 185 [v, Vj a, .bool bad], Res.vec 5 1 r1_ d2_.length (d2_.map vb)])) _ hw
   refine zL (zB (zC rfl (xn rfl rfl rfl (zA (zU rfl (fun c2 => ?_) (fun c2 => ?_))))))
   ·
    refine zB (zC rfl (zm rfl rfl (zP (o := 2) rfl rfl (yi (cs := [v, Vj a, .bool bad]) 0 rfl rfl rfl rfl rfl (zA (zB (zD rfl (zA ?_))))))))
    exact zM (z6 (v := .slice none 0 0) rfl rfl (fun w' hw => ⟨.slice none 0 0, [], a, true, rfl, RdS.fail ha fun _ => hf3_8.no c2, (by simp), yK (hw.one 0 rfl) 5 1⟩))
   ·
    refine zK (zB (zC rfl (zC rfl (zm rfl rfl (zP (o := 1) rfl rfl (yi (cs := [v, Vj a, .bool bad]) 0 rfl rfl rfl rfl rfl (zA (zB (zC rfl (zD rfl (zA ?_)))))))))))
    exact zM (z6 (v := r1_) rfl rfl (fun w' hw => ⟨r1_, d2_, k3_, bad, rfl, RdS.done (xq (hf3_8.yes (by omega))).1 (hf3_8.yes (by omega)), (xq (hf3_8.yes (by omega))).2, hw⟩))
theorem zGZ {S : List Nat} (o : Nat) (v : Value) (b : List UInt8) (a : Nat) (bad : Bool) (w : World) (hl : zb b.length) (ha : a ≤ b.length) (hin : Own w S [Res.row o 185 [v, Vj a, .bool bad]] w) (hb : Rd w S (Res.sl v b.length (b.map vb))) : Rets Tryz.prog 181 #[.pointer (some ⟨o, 0, none⟩)] w fun u_ w' => ∃ (r : Value) (l : List Int) (a' : Nat) (bad' : Bool), u_ = r ∧ RdS zHB b a bad l a' bad' ∧ l.length ≤ 16 ∧ Own w S [Res.row o 185 [v, Vj a', .bool bad'], Res.vec 3 1 r l.length (l.flatMap I1)] w' := by
  refine zW Tryz.func181 rfl Tryz.ntmps181 hin ?_
  refine zB (zD rfl (zA (zB (zD rfl (zA (zL (zB (zC rfl (zJ rfl rfl (fun w' hw => (zBF o v b a bad 16 w' (by first | assumption | omega | (simp <;> omega) | (constructor <;> (first | omega | (simp only [zb]; omega) | (simp <;> omega)))) (by first | omega | (simp <;> omega)) (by first | omega | (simp <;> omega)) (hw.give [0] rfl (by decide)) (hw.rdTo hb [0] rfl)).mono ?_))))))))))
  rintro _ w1 ⟨n1_, a'2_, bad'3_, rfl, hf2_1, hf2_1_1, hO⟩
  refine (?_ : CL _ _ _ _ _ _ (Own w S [Res.row o 185 [v, Vj a'2_, .bool bad'3_]])) w1 (hw.frameL [0] rfl hO)
  refine zC rfl (zA (zT ?_))
  refine zA8 (fun (k : Nat) (lv : Value) (l : List Int) (a2 : Nat) (bad2 : Bool) => [(0, .pointer (some ⟨o, 0, none⟩)), (3, lv), (5, Vj n1_), (6, Vj k)]) (fun (k : Nat) (lv : Value) (l : List Int) (a2 : Nat) (bad2 : Bool) => (k ≤ n1_ ∧ l.length = k) ∧ RdS (yv (zEM 16) k) b a'2_ bad'3_ l a2 bad2) (fun (k : Nat) (lv : Value) (l : List Int) (a2 : Nat) (bad2 : Bool) => [Res.row o 185 [v, Vj a2, .bool bad2], Res.vec 3 1 lv l.length (l.flatMap I1)]) (fun (k : Nat) (lv : Value) (l : List Int) (a2 : Nat) (bad2 : Bool) => n1_ - k) (fun w' hw => ⟨0, .slice none 0 0, [], a'2_, bad'3_, ⟨rfl, rfl, rfl, rfl, trivial⟩, ⟨⟨Nat.zero_le _, rfl⟩, RdS.pure _ hf2_1.le⟩, yK hw 3 1⟩) (fun k lv l a2 bad2 g hΦ => ?_)
  have ha2 := hΦ.2.le
  have hlk := hΦ.1.2
  refine zB (yI rfl rfl rfl (zA (zL (zU rfl (fun c1 => ?_) (fun c1 => ?_)))))
  ·
   refine zK (zL (zT (zd (zC rfl (zC rfl (zJ rfl rfl (fun w' hw => (zBF o v b a2 bad2 16 w' (by first | assumption | omega | (simp <;> omega) | (constructor <;> (first | omega | (simp only [zb]; omega) | (simp <;> omega)))) (by first | omega | (simp <;> omega)) (by first | omega | (simp <;> omega)) (hw.give [0] rfl (by decide)) (hw.rdTo hb [0] rfl)).mono ?_)))))))
   rintro _ w1 ⟨n4_, a'5_, bad'6_, rfl, hf4_2, hf4_2_1, hO⟩
   refine (?_ : CL _ _ _ _ _ _ (Own w S [Res.vec 3 1 lv l.length (l.flatMap I1), Res.row o 185 [v, Vj a'5_, .bool bad'6_]])) w1 (hw.frameL [0] rfl hO)
   refine yj (e := 3) (sz := 1) (vs := [Vj n4_]) (by kernel_rfl) rfl rfl (by simp [Value.cells]) (by decide) rfl (fun b11 => yu (g := I1) (sz := 1) (by' := 8) (fun _ => rfl) (l := l) (l' := [((n4_ : Nat) : Int)]) (by simp [cell1, I1]) 0 (by kernel_rfl) rfl rfl rfl (fun w' hw' => Vec.sl (Own.holds hw' 2 _ rfl)) (by first | omega | (simp; omega)) (by decide) rfl (fun v12 => zD rfl (zA (zd (zt rfl rfl (zr (by omega)) rfl (zC rfl ?_))))))
   exact zj (fun w' hw => ⟨k + 1, v12, l ++ [((n4_ : Nat) : Int)], a'5_, bad'6_, ⟨rfl, rfl, rfl, rfl, trivial⟩, ⟨⟨by omega, by simp [hlk]⟩, hΦ.2.snoc (RdS.map (fun n : Nat => (n : Int)) hf4_2)⟩, hw.sel [1, 0] rfl (by decide), (by omega)⟩)
  ·
   refine yG rfl (zB (zC rfl (zD rfl (zA ?_))))
   exact zM (z6 (v := lv) rfl rfl (fun w' hw => ⟨lv, l, a2, bad2, rfl, zGb hf2_1 hΦ.2 (by omega), (by omega), hw⟩))
theorem zJZ (v : Value) (b : List UInt8) (a : Nat) (w : World) (hl : zb b.length) (ha : a ≤ b.length) (hb : Rd w [] (Res.sl v b.length (b.map vb))) : Rets Tryz.prog 154 #[v, Vj a] w fun u_ w' => ∃ (n : Nat) (k : Nat) (e : Int), u_ = .tuple #[Vn n, Vj k, Vi e] ∧ NumPost (yW b a) n k e ∧ Own w [] [] w' := by
  have hk := (zI b a).toNat_lt
  have hd : (b.drop a).length = b.length - a := by simp
  have e0 : zI (b.drop a) 0 = zI b a := by rw [kK]; rfl
  have e1 : zI (b.drop a) 1 = zI b (a + 1) := kK b a 1
  have hsub : (((b.drop a).take (1 + (zI b a).toNat)).drop 1).length = min (1 + (zI b a).toNat) (b.length - a) - 1 := by simp
  refine zW Tryz.func154 rfl Tryz.ntmps154 (Own.start w) ?_
  refine zB (zD rfl (zD rfl (zD rfl (zA (zL (zB (zC rfl (yI rfl rfl rfl (zC rfl (yY (q := ((a : Nat) : Int) < 0) 4 2 [16, 15, 14, 13] (((b.length : Nat) : Int) < ((a : Nat) : Int)) rfl rfl rfl rfl rfl rfl trivial rfl (fun h1_2 => ?_) (fun g1_7 => ?_)))))))))))
  ·
   refine zO rfl (gF h1_2) (zC rfl (zO rfl (gF h1_2) (zC rfl (zO rfl (gF h1_2) (yC (pR hb) rfl rfl (zO rfl (gF h1_2) (yg rfl rfl rfl ?_)))))))
   exact yL rfl (fun _ hw => hw)
  refine zA (zDt rfl (by omega) (zK (zL (zB (zC rfl (zC rfl (yC (pR hb) rfl rfl (yo rfl rfl rfl (zA (zU rfl (fun c2 => ?_) (fun c2 => ?_)))))))))))
  ·
   refine zB (zD rfl (zD rfl (zD rfl (zA ?_))))
   exact zM (zBK (v := Vn 0) (v' := Vi 0) (v'' := Vi 5) rfl rfl rfl rfl (fun w' hw => ⟨0, 0, 5, rfl, .inr ⟨by decide, rfl, rfl, by unfold yW jw; rw [if_pos (by omega)]; rfl⟩, hw.drop⟩))
  ·
   refine zK (zB (zC rfl (zC rfl (zH (pR hb) 1 a rfl rfl rfl (by omega) rfl (zAQ (pR hb) a rfl (by omega) (by omega) rfl (yw (by kernel_rfl) rfl (zr (by omega)) rfl ?_ (by kernel_rfl)))))))
   refine zD rfl (zA (zL (zB (zC rfl (yg rfl rfl rfl (zC rfl (yY (q := 8 < (((zI b a).toNat : Nat) : Int)) 17 2 [46, 45, 44, 43, 42, 41, 40, 39, 38, 37, 36, 35, 34, 33, 32, 31, 30] (((0 < (((zI b a).toNat : Nat) : Int)) ∧ (((a + 1 : Nat) : Int) < ((b.length : Nat) : Int))) ∧ ((((zI b (a + 1)).toNat : Nat) : Int) = ((0 : Nat) : Int))) rfl rfl rfl rfl rfl rfl trivial rfl (fun h6_2 => ?_) (fun g6_20 => ?_))))))))
   ·
    refine zO rfl (gF h6_2) (zC rfl (zO rfl (gF h6_2) (yg rfl rfl rfl (zO rfl (gF h6_2) (zC rfl (yP (q := 0 < (((zI b a).toNat : Nat) : Int)) 5 5 [37, 36, 35, 34, 33] (((a + 1 : Nat) : Int) < ((b.length : Nat) : Int)) rfl rfl rfl rfl rfl rfl ⟨_, rfl, rfl, gF h6_2⟩ rfl (fun h6_5 => ?_) (fun g6_11 => ?_)))))))
    ·
     refine zO rfl (gT h6_5) (zC rfl (zO rfl (gT h6_5) (zt rfl rfl (zr (by omega)) rfl (zO rfl (gT h6_5) (zC rfl (zO rfl (gT h6_5) (yC (pR hb) rfl rfl (zO rfl (gT h6_5) (yI rfl rfl rfl ?_)))))))))
     exact yL rfl (fun _ hw => hw)
    refine zO rfl (gF h6_2) (zC rfl (yP (q := (0 < (((zI b a).toNat : Nat) : Int)) ∧ (((a + 1 : Nat) : Int) < ((b.length : Nat) : Int))) 6 12 [45, 44, 43, 42, 41, 40] ((((zI b (a + 1)).toNat : Nat) : Int) = ((0 : Nat) : Int)) rfl rfl rfl rfl rfl rfl ⟨_, rfl, rfl, gF h6_2⟩ rfl (fun h6_12 => ?_) (fun g6_19 => ?_)))
    ·
     refine zO rfl (gT h6_12) (zC rfl (zO rfl (gT h6_12) (zC rfl (zO rfl (gT h6_12) (zt rfl rfl (zr (by omega)) rfl (zO rfl (gT h6_12) (zH (pR hb) 1 (a + 1) rfl rfl rfl (by omega) rfl (zO rfl (gT h6_12) (zAQ (pR hb) (a + 1) rfl (by omega) (by omega) rfl (zO rfl (gT h6_12) (yo rfl rfl rfl ?_)))))))))))
     exact yL rfl (fun _ hw => hw)
    exact yL rfl (fun _ hw => hw)
   refine zA (zU rfl (fun c3 => ?_) (fun c3 => ?_))
   ·
    refine zB (zD rfl (zD rfl (zD rfl (zA ?_))))
    exact zM (zBK (v := Vn 0) (v' := Vi 0) (v'' := Vi 4) rfl rfl rfl rfl (fun w' hw => ⟨0, 0, 4, rfl, .inr ⟨by decide, rfl, rfl, by unfold yW jw; rw [e0, e1, if_neg (by omega), if_pos (by omega)]; rfl⟩, hw.drop⟩))
   ·
    refine zK (zL (zB (zC rfl (yC (pR hb) rfl rfl (zC rfl (yX rfl rfl (zr (by omega)) rfl (yX rfl rfl (zr (by omega)) rfl (zC rfl (yI rfl rfl rfl (zA (zU rfl (fun c4 => ?_) (fun c4 => ?_))))))))))))
    ·
     refine zB (zD rfl (zD rfl (zD rfl (zA ?_))))
     exact zM (zBK (v := Vn 0) (v' := Vi 0) (v'' := Vi 5) rfl rfl rfl rfl (fun w' hw => ⟨0, 0, 5, rfl, .inr ⟨by decide, rfl, rfl, by unfold yW jw; rw [e0, e1, if_neg (by omega), if_neg (by omega), if_pos (by omega)]; rfl⟩, hw.drop⟩))
    ·
     refine zK (zB (zD rfl (zA (zL (zB (zD rfl (zA (zT ?_))))))))
     refine xG (fun (j : Nat) => [(0, v), (1, Vj a), (7, Vj ((zI b a).toNat)), (8, Vn (beN ((((b.drop a).take (1 + (zI b a).toNat)).drop 1).take j))), (9, Vj (j + 1))]) (fun (j : Nat) => j ≤ (zI b a).toNat) (fun (j : Nat) => []) (fun (j : Nat) => (zI b a).toNat - j) (fun w' hw => ⟨0, ⟨rfl, rfl, rfl, rfl, rfl, trivial⟩, Nat.zero_le _, hw⟩) (fun j g hΦ => ?_)
     have hlt := zCM ((((b.drop a).take (1 + (zI b a).toNat)).drop 1).take j)
     have hlj : ((((b.drop a).take (1 + (zI b a).toNat)).drop 1).take j).length = j := by rw [List.length_take]; omega
     rw [hlj] at hlt
     refine zL (zB (zC rfl (zC rfl (ka rfl rfl rfl (zA (zU rfl (fun c5 => ?_) (fun c5 => ?_)))))))
     ·
      have hp7 := zCN (k := j) (by omega)
      have hcl := (zI b (a + (j + 1))).toNat_lt
      refine zK (zL (zT (zd (zC rfl (zBm rfl rfl (kS (by omega)) rfl (zC rfl (zC rfl (zC rfl (zt rfl rfl (zr (by omega)) rfl (zH (pR hb) 1 (a + (j + 1)) rfl rfl rfl (by omega) rfl (zAQ (pR hb) (a + (j + 1)) rfl (by omega) (by omega) rfl (yw (by kernel_rfl) rfl (kS (by omega)) rfl ?_ (by kernel_rfl)))))))))))))
      refine zt rfl rfl (kS (by omega)) rfl (zD rfl (zA (zd (zC rfl (zt rfl rfl (zr (by omega)) rfl (zD rfl ?_))))))
      exact zj (fun w' hw => ⟨j + 1, ⟨rfl, rfl, rfl, by rw [yB (by omega), zFL, kK, jY (by omega), kK, show a + (1 + j) = a + (j + 1) by omega]; rfl, rfl, trivial⟩, (by omega), hw, (by omega)⟩)
     ·
      refine yG rfl (zB (zC rfl (zC rfl (zt rfl rfl (zr (by omega)) rfl (zC rfl (zt rfl rfl (zr (by omega)) rfl (zD rfl (zD rfl (zD rfl (zA ?_))))))))))
      exact zM (zBK (v := Vn (beN ((((b.drop a).take (1 + (zI b a).toNat)).drop 1).take j))) (v' := Vj ((a + 1) + ((zI b a).toNat))) (v'' := Vi 0) rfl rfl rfl rfl (fun w' hw => ⟨(beN ((((b.drop a).take (1 + (zI b a).toNat)).drop 1).take j)), (a + 1) + ((zI b a).toNat), 0, rfl, .inl ⟨rfl, by unfold yW jw; rw [e0, e1, if_neg (by omega), if_neg (by omega), if_neg (by omega), List.take_of_length_le (i := j) (by omega)]; simp [Nat.add_assoc]⟩, hw.drop⟩))
theorem zI2 (v : Value) (b : List UInt8) (a : Nat) (w : World) (hl : zb b.length) (ha : a ≤ b.length) (hb : Rd w [] (Res.sl v b.length (b.map vb))) : Rets Tryz.prog 155 #[v, Vj a] w fun u_ w' => ∃ (r : Value) (d : List UInt8) (k : Nat) (e : Int), u_ = .tuple #[r, Vj k, Vi e] ∧ BytesPost (y0 b a) d k e ∧ Own w [] [Res.vec 5 1 r d.length (d.map vb)] w' := by
  refine zW Tryz.func155 rfl Tryz.ntmps155 (Own.start w) ?_
  refine zB (zD rfl (zD rfl (zD rfl (zA (zB (zC rfl (zC rfl (zJ rfl rfl (fun w' hw => (zJZ v b a w' (by first | assumption | omega | (simp <;> omega) | (constructor <;> (first | omega | (simp only [zb]; omega) | (simp <;> omega)))) (by first | omega | (simp <;> omega)) (hw.rd0 hb)).mono ?_)))))))))
  rintro _ w1 ⟨n1_, k2_, e3_, rfl, hf1_2, hO⟩
  have hn := hf1_2
  refine (?_ : CL _ _ _ _ _ _ (Own w [] [])) w1 (hw.frame0 hO)
  refine zC rfl (zp (vs := [Vn n1_, Vj k2_, Vi e3_]) rfl rfl rfl (zp (vs := [Vn n1_, Vj k2_, Vi e3_]) rfl rfl rfl (zp (vs := [Vn n1_, Vj k2_, Vi e3_]) rfl rfl rfl (zD rfl (zD rfl (zD rfl (zA (zL (zB (zC rfl (xn rfl rfl rfl (zA ?_))))))))))))
  refine zU rfl (fun c1 => ?_) (fun c1 => ?_)
  ·
   refine zB (zC rfl (zD rfl (zD rfl (zD rfl (zA ?_)))))
   exact zM (zBK (v := .slice none 0 0) (v' := Vi 0) (v'' := Vi e3_) rfl rfl rfl rfl (fun w' hw => ⟨.slice none 0 0, [], 0, e3_, rfl, .inr ⟨c1, by unfold y0; rw [hn.no c1]; rfl⟩, yK hw.drop 5 1⟩))
  ·
   have hy := hn.yes (by omega)
   obtain ⟨hn1, hn2, hn3⟩ := zz hy
   refine zK (zL (zB (zC rfl (zC rfl (yC (pR hb) rfl rfl (yw (by kernel_rfl) rfl (kS (by omega)) rfl ?_ (by kernel_rfl)))))))
   refine yg rfl rfl rfl (zC rfl (yY (q := ((b.length : Nat) : Int) < ((n1_ : Nat) : Int)) 7 5 [32, 31, 30, 29, 28, 27, 26] ((((b.length : Nat) : Int) - ((k2_ : Nat) : Int)) < ((n1_ : Nat) : Int)) rfl rfl rfl rfl rfl rfl trivial rfl (fun h4_5 => ?_) (fun g4_13 => ?_)))
   ·
    refine zO rfl (gF h4_5) (zC rfl (zO rfl (gF h4_5) (yC (pR hb) rfl rfl (zO rfl (gF h4_5) (zC rfl (zO rfl (gF h4_5) (yX rfl rfl (zr (by omega)) rfl (zO rfl (gF h4_5) (zC rfl (zO rfl (gF h4_5) (yw (by kernel_rfl) rfl (zr (by omega)) rfl ?_ (by kernel_rfl))))))))))))
    refine zO rfl (gF h4_5) (yI rfl rfl rfl ?_)
    exact yL rfl (fun _ hw => hw)
   refine zA (zU rfl (fun c2 => ?_) (fun c2 => ?_))
   ·
    refine zB (zD rfl (zD rfl (zD rfl (zA ?_))))
    exact zM (zBK (v := .slice none 0 0) (v' := Vi 0) (v'' := Vi 5) rfl rfl rfl rfl (fun w' hw => ⟨.slice none 0 0, [], 0, 5, rfl, .inr ⟨by decide, by unfold y0; rw [hy]; simp only [Option.bind_some]; rw [if_pos (by omega)]⟩, yK hw.drop 5 1⟩))
   ·
    refine zK (zB (yj (e := 5) (sz := 1) (vs := []) (by kernel_rfl) rfl rfl (by simp [Value.cells]) (by decide) rfl (fun b34 => zC rfl (zC rfl (zC rfl (zC rfl (yw (by kernel_rfl) rfl (zr (by omega)) rfl ?_ (by kernel_rfl))))))))
    refine zt rfl rfl (zr (by omega)) rfl (zAG (pR hb) 1 k2_ (k2_ + n1_) (by kernel_rfl) rfl ⟨_, rfl⟩ ⟨_, rfl⟩ (by omega) (by omega) rfl ?_)
    have hs4_ := Rd.subL_m (g := vb) (xs := b)  hb (l := k2_) (h := k2_ + n1_) (by omega) (by omega)
    refine zCi (l := ([] : List UInt8)) (l' := ((b.take (k2_ + n1_)).drop k2_)) 0 (by kernel_rfl) rfl rfl rfl (fun w' hw' => Own.rd hs4_ hw') (by first | omega | (simp; omega)) rfl (fun v42 => zC rfl (zC rfl (yw (by kernel_rfl) rfl (zr (by omega)) rfl ?_ (by kernel_rfl))))
    refine zt rfl rfl (zr (by omega)) rfl (zD rfl (zD rfl (zD rfl (zA ?_))))
    exact zM (zBK (v := v42) (v' := Vj (k2_ + n1_)) (v'' := Vi 0) rfl rfl rfl rfl (fun w' hw => ⟨v42, ((b.take (k2_ + n1_)).drop k2_), k2_ + n1_, 0, rfl, .inl ⟨rfl, by unfold y0; rw [hy]; simp only [Option.bind_some]; rw [if_neg (by omega)]⟩, hw⟩))
theorem ja {S : List Nat} (o : Nat) (v : Value) (b : List UInt8) (a : Nat) (bad : Bool) (w : World) (hl : zb b.length) (ha : a ≤ b.length) (hin : Own w S [Res.row o 171 [v, Vj a, .bool bad]] w) (hb : Rd w S (Res.sl v b.length (b.map vb))) : Rets Tryz.prog 131 #[.pointer (some ⟨o, 0, none⟩)] w fun u_ w' => ∃ (n : Nat) (a' : Nat) (bad' : Bool), u_ = Vn n ∧ RdS yW b a bad n a' bad' ∧ n < 18446744073709551616 ∧ Own w S [Res.row o 171 [v, Vj a', .bool bad']] w' := by
  refine zW Tryz.func131 rfl Tryz.ntmps131 hin ?_
  refine zB (zD rfl (zA (zL (zB (zC rfl (zm rfl rfl (zP (o := 2) rfl rfl (zS 0 (v := .bool bad) rfl rfl rfl rfl (zA (zCx rfl (fun c1 => ?_) (fun c1 => ?_)))))))))))
  ·
   refine zB (zD rfl (zA ?_))
   exact zM (z6 (v := Vn 0) rfl rfl (fun w' hw => ⟨0, a, bad, rfl, RdS.badly c1 ha, (by omega), hw⟩))
  ·
   refine zK (zL (zg [0] rfl (by decide) (by kernel_rfl) (fun w' hw hS => zF 0 rfl (zQ) hS (zF 1 rfl (z7 rfl) hS (zF 2 rfl (zi (o := 0) rfl) hS (zF 3 rfl (zo 0 (v := v) rfl rfl rfl) hS (zF 4 rfl (zQ) hS (zF 5 rfl (z7 rfl) hS (zF 6 rfl (zi (o := 1) rfl) hS (zF 7 rfl (zo 0 (v := Vj a) rfl rfl rfl) hS (zY 8 rfl hw (zJ rfl rfl (fun w' hw => ?_)))))))))))))
   refine (zJZ v b a w' (by first | assumption | omega | (simp <;> omega) | (constructor <;> (first | omega | (simp only [zb]; omega) | (simp <;> omega)))) (by first | omega | (simp <;> omega)) (hw.rd0 hb)).mono ?_
   rintro _ w1 ⟨n1_, k2_, e3_, rfl, hf3_8, hO⟩
   refine (?_ : CL _ _ _ _ _ _ (Own w S [Res.row o 171 [v, Vj a, .bool bad]])) w1 (hw.frame0 hO)
   refine zG [0] rfl (by decide) (fun w' hw hS => zF 9 rfl (zQ) hS (zF 10 rfl (ya (vs := [Vn n1_, Vj k2_, Vi e3_]) rfl rfl) hS (zF 11 rfl (ya (vs := [Vn n1_, Vj k2_, Vi e3_]) rfl rfl) hS (zF 12 rfl (ya (vs := [Vn n1_, Vj k2_, Vi e3_]) rfl rfl) hS (zF 13 rfl (yx) hS (zF 14 rfl (yx) hS (zF 15 rfl (yx) hS (zR ?_))))))))
   refine (?_ : C _ _ _ _ _ _ _ (Own w S [Res.row o 171 [v, Vj a, .bool bad]])) _ hw
   refine zL (zB (zC rfl (xn rfl rfl rfl (zA (zU rfl (fun c2 => ?_) (fun c2 => ?_))))))
   ·
    refine zB (zC rfl (zm rfl rfl (zP (o := 2) rfl rfl (yi (cs := [v, Vj a, .bool bad]) 0 rfl rfl rfl rfl rfl (zA (zB (zD rfl (zA ?_))))))))
    exact zM (z6 (v := Vn 0) rfl rfl (fun w' hw => ⟨0, a, true, rfl, RdS.fail ha fun _ => hf3_8.no c2, (by omega), hw⟩))
   ·
    refine zK (zB (zC rfl (zC rfl (zm rfl rfl (zP (o := 1) rfl rfl (yi (cs := [v, Vj a, .bool bad]) 0 rfl rfl rfl rfl rfl (zA (zB (zC rfl (zD rfl (zA ?_)))))))))))
    exact zM (z6 (v := Vn n1_) rfl rfl (fun w' hw => ⟨n1_, k2_, bad, rfl, RdS.done (zz (hf3_8.yes (by omega))).2.1 (hf3_8.yes (by omega)), (zz (hf3_8.yes (by omega))).1, hw⟩))
theorem zCr {S : List Nat} (o : Nat) (v : Value) (b : List UInt8) (a : Nat) (bad : Bool) (most : Nat) (w : World) (hl : zb b.length) (ha : a ≤ b.length) (hm : most ≤ 1000000) (hin : Own w S [Res.row o 171 [v, Vj a, .bool bad]] w) (hb : Rd w S (Res.sl v b.length (b.map vb))) : Rets Tryz.prog 132 #[.pointer (some ⟨o, 0, none⟩), Vn most] w fun u_ w' => ∃ (n : Nat) (a' : Nat) (bad' : Bool), u_ = Vj n ∧ RdS (jB most) b a bad n a' bad' ∧ n ≤ most ∧ Own w S [Res.row o 171 [v, Vj a', .bool bad']] w' := by
  refine zW Tryz.func132 rfl Tryz.ntmps132 hin ?_
  refine zB (zD rfl (zA (zB (zC rfl (zJ rfl rfl (fun w' hw => (ja o v b a bad w' (by first | assumption | omega | (simp <;> omega) | (constructor <;> (first | omega | (simp only [zb]; omega) | (simp <;> omega)))) (by first | omega | (simp <;> omega)) (hw.give [0] rfl (by decide)) (hw.rdTo hb [0] rfl)).mono ?_))))))
  rintro _ w1 ⟨n1_, a'2_, bad'3_, rfl, hf1_1, hf1_1_1, hO⟩
  have hq := hf1_1.le
  refine (?_ : CL _ _ _ _ _ _ (Own w S [Res.row o 171 [v, Vj a'2_, .bool bad'3_]])) w1 (hw.frameL [0] rfl hO)
  refine zD rfl (zA (zL (zB (zC rfl (zC rfl (yg rfl rfl rfl (zA (zU rfl (fun c1 => ?_) (fun c1 => ?_)))))))))
  ·
   refine zB (zC rfl (zm rfl rfl (zP (o := 2) rfl rfl (yi (cs := [v, Vj a'2_, .bool bad'3_]) 0 rfl rfl rfl rfl rfl (zA (zB (zD rfl (zA ?_))))))))
   exact zM (z6 (v := Vi 0) rfl rfl (fun w' hw => ⟨0, a'2_, true, rfl, RdS.fail hq fun h0 => (by cases hp : jB most b a with | none => rfl | some q => obtain ⟨h1, h2⟩ := k7 hp; obtain ⟨_, h3, _⟩ := hf1_1.ok q.1 q.2 h0 h1; omega), (by omega), hw⟩))
  ·
   refine zK (zB (zC rfl (yw (by kernel_rfl) rfl (zr (by omega)) rfl ?_ (by kernel_rfl))))
   refine zD rfl (zA ?_)
   exact zM (z6 (v := Vj n1_) rfl rfl (fun w' hw => ⟨n1_, a'2_, bad'3_, rfl, ⟨hq, hf1_1.st, fun u k h0 h => hf1_1.ok u k h0 (k7 h).1, fun h0 h => (by cases hp : yW b a with | none => exact hf1_1.no h0 hp | some q => simp only [jB, hp, Option.bind_some] at h; obtain ⟨_, h3, _⟩ := hf1_1.ok q.1 q.2 h0 hp; rw [if_neg (by omega)] at h; cases h)⟩, (by omega), hw⟩))
theorem zHC {S : List Nat} (o : Nat) (v : Value) (b : List UInt8) (a : Nat) (bad : Bool) (w : World) (hl : zb b.length) (ha : a ≤ b.length) (hin : Own w S [Res.row o 171 [v, Vj a, .bool bad]] w) (hb : Rd w S (Res.sl v b.length (b.map vb))) : Rets Tryz.prog 133 #[.pointer (some ⟨o, 0, none⟩)] w fun u_ w' => ∃ (r : Value) (d : List UInt8) (a' : Nat) (bad' : Bool), u_ = r ∧ RdS y0 b a bad d a' bad' ∧ d.length ≤ b.length ∧ Own w S [Res.row o 171 [v, Vj a', .bool bad'], Res.vec 5 1 r d.length (d.map vb)] w' := by
  refine zW Tryz.func133 rfl Tryz.ntmps133 hin ?_
  refine zB (zD rfl (zA (zL (zB (zC rfl (zm rfl rfl (zP (o := 2) rfl rfl (zS 0 (v := .bool bad) rfl rfl rfl rfl (zA (zCx rfl (fun c1 => ?_) (fun c1 => ?_)))))))))))
  ·
   refine zB (zD rfl (zA ?_))
   exact zM (z6 (v := .slice none 0 0) rfl rfl (fun w' hw => ⟨.slice none 0 0, [], a, bad, rfl, RdS.badly c1 ha, (by simp), yK hw 5 1⟩))
  ·
   refine zK (zL (zg [0] rfl (by decide) (by kernel_rfl) (fun w' hw hS => zF 0 rfl (zQ) hS (zF 1 rfl (z7 rfl) hS (zF 2 rfl (zi (o := 0) rfl) hS (zF 3 rfl (zo 0 (v := v) rfl rfl rfl) hS (zF 4 rfl (zQ) hS (zF 5 rfl (z7 rfl) hS (zF 6 rfl (zi (o := 1) rfl) hS (zF 7 rfl (zo 0 (v := Vj a) rfl rfl rfl) hS (zY 8 rfl hw (zJ rfl rfl (fun w' hw => ?_)))))))))))))
   refine (zI2 v b a w' (by first | assumption | omega | (simp <;> omega) | (constructor <;> (first | omega | (simp only [zb]; omega) | (simp <;> omega)))) (by first | omega | (simp <;> omega)) (hw.rd0 hb)).mono ?_
   rintro _ w1 ⟨r1_, d2_, k3_, e4_, rfl, hf3_8, hO⟩
   refine (?_ : CL _ _ _ _ _ _ (Own w S [Res.row o 171 [v, Vj a, .bool bad], Res.vec 5 1 r1_ d2_.length (d2_.map vb)])) w1 (hw.frame0 hO)
   refine zG [0] rfl (by decide) (fun w' hw hS => zF 9 rfl (zQ) hS (zF 10 rfl (ya (vs := [r1_, Vj k3_, Vi e4_]) rfl rfl) hS (zF 11 rfl (ya (vs := [r1_, Vj k3_, Vi e4_]) rfl rfl) hS (zF 12 rfl (ya (vs := [r1_, Vj k3_, Vi e4_]) rfl rfl) hS (zF 13 rfl (yx) hS (zF 14 rfl (yx) hS (zF 15 rfl (yx) hS (zR ?_))))))))
   refine (?_ : C _ _ _ _ _ _ _ (Own w S [Res.row o 171 [v, Vj a, .bool bad], Res.vec 5 1 r1_ d2_.length (d2_.map vb)])) _ hw
   refine zL (zB (zC rfl (xn rfl rfl rfl (zA (zU rfl (fun c2 => ?_) (fun c2 => ?_))))))
   ·
    refine zB (zC rfl (zm rfl rfl (zP (o := 2) rfl rfl (yi (cs := [v, Vj a, .bool bad]) 0 rfl rfl rfl rfl rfl (zA (zB (zD rfl (zA ?_))))))))
    exact zM (z6 (v := .slice none 0 0) rfl rfl (fun w' hw => ⟨.slice none 0 0, [], a, true, rfl, RdS.fail ha fun _ => hf3_8.no c2, (by simp), yK (hw.one 0 rfl) 5 1⟩))
   ·
    refine zK (zB (zC rfl (zC rfl (zm rfl rfl (zP (o := 1) rfl rfl (yi (cs := [v, Vj a, .bool bad]) 0 rfl rfl rfl rfl rfl (zA (zB (zC rfl (zD rfl (zA ?_)))))))))))
    exact zM (z6 (v := r1_) rfl rfl (fun w' hw => ⟨r1_, d2_, k3_, bad, rfl, RdS.done (xq (hf3_8.yes (by omega))).1 (hf3_8.yes (by omega)), (xq (hf3_8.yes (by omega))).2, hw⟩))
theorem zEc {S : List Nat} (o : Nat) (v : Value) (b : List UInt8) (a : Nat) (bad : Bool) (w : World) (hl : zb b.length) (ha : a ≤ b.length) (hin : Own w S [Res.row o 171 [v, Vj a, .bool bad]] w) (hb : Rd w S (Res.sl v b.length (b.map vb))) : Rets Tryz.prog 151 #[.pointer (some ⟨o, 0, none⟩)] w fun u_ w' => ∃ (r : Value) (l : List Int) (a' : Nat) (bad' : Bool), u_ = r ∧ RdS zHB b a bad l a' bad' ∧ l.length ≤ 16 ∧ Own w S [Res.row o 171 [v, Vj a', .bool bad'], Res.vec 3 1 r l.length (l.flatMap I1)] w' := by
  refine zW Tryz.func151 rfl Tryz.ntmps151 hin ?_
  refine zB (zD rfl (zA (zB (zD rfl (zA (zB (zC rfl (zJ rfl rfl (fun w' hw => (zCr o v b a bad 16 w' (by first | assumption | omega | (simp <;> omega) | (constructor <;> (first | omega | (simp only [zb]; omega) | (simp <;> omega)))) (by first | omega | (simp <;> omega)) (by first | omega | (simp <;> omega)) (hw.give [0] rfl (by decide)) (hw.rdTo hb [0] rfl)).mono ?_)))))))))
  rintro _ w1 ⟨n1_, a'2_, bad'3_, rfl, hf2_1, hf2_1_1, hO⟩
  refine (?_ : CL _ _ _ _ _ _ (Own w S [Res.row o 171 [v, Vj a'2_, .bool bad'3_]])) w1 (hw.frameL [0] rfl hO)
  refine zD rfl (zA (zL (zB (zD rfl (zA (zT ?_))))))
  refine zA8 (fun (k : Nat) (lv : Value) (l : List Int) (a2 : Nat) (bad2 : Bool) => [(0, .pointer (some ⟨o, 0, none⟩)), (3, lv), (4, Vj n1_), (5, Vj k)]) (fun (k : Nat) (lv : Value) (l : List Int) (a2 : Nat) (bad2 : Bool) => (k ≤ n1_ ∧ l.length = k) ∧ RdS (yv (zEM 16) k) b a'2_ bad'3_ l a2 bad2) (fun (k : Nat) (lv : Value) (l : List Int) (a2 : Nat) (bad2 : Bool) => [Res.row o 171 [v, Vj a2, .bool bad2], Res.vec 3 1 lv l.length (l.flatMap I1)]) (fun (k : Nat) (lv : Value) (l : List Int) (a2 : Nat) (bad2 : Bool) => n1_ - k) (fun w' hw => ⟨0, .slice none 0 0, [], a'2_, bad'3_, ⟨rfl, rfl, rfl, rfl, trivial⟩, ⟨⟨Nat.zero_le _, rfl⟩, RdS.pure _ hf2_1.le⟩, yK hw 3 1⟩) (fun k lv l a2 bad2 g hΦ => ?_)
  have ha2 := hΦ.2.le
  have hlk := hΦ.1.2
  refine zL (zB (zC rfl (zC rfl (yI rfl rfl rfl (zC rfl (yP (q := ((k : Nat) : Int) < ((n1_ : Nat) : Int)) 5 3 [17, 16, 15, 14, 13] ((!bad2) = true) rfl rfl rfl rfl rfl rfl trivial rfl (fun h4_3 => ?_) (fun g4_9 => ?_)))))))
  ·
   refine zO rfl (gT h4_3) (zC rfl (zO rfl (gT h4_3) (zm rfl rfl (zO rfl (gT h4_3) (zP (o := 2) rfl rfl (zO rfl (gT h4_3) (zS 0 (v := .bool bad2) rfl rfl rfl rfl (zO rfl (gT h4_3) (kY (b := bad2) rfl rfl ?_)))))))))
   exact yL (yb _) (fun _ hw => hw)
  refine zA (zU rfl (fun c1 => ?_) (fun c1 => ?_))
  ·
   refine zK (zL (zT (zB (zC rfl (zJ rfl rfl (fun w' hw => (zCr o v b a2 bad2 16 w' (by first | assumption | omega | (simp <;> omega) | (constructor <;> (first | omega | (simp only [zb]; omega) | (simp <;> omega)))) (by first | omega | (simp <;> omega)) (by first | omega | (simp <;> omega)) (hw.give [0] rfl (by decide)) (hw.rdTo hb [0] rfl)).mono ?_))))))
   rintro _ w1 ⟨n4_, a'5_, bad'6_, rfl, hf6_1, hf6_1_1, hO⟩
   refine (?_ : CL _ _ _ _ _ _ (Own w S [Res.vec 3 1 lv l.length (l.flatMap I1), Res.row o 171 [v, Vj a'5_, .bool bad'6_]])) w1 (hw.frameL [0] rfl hO)
   refine zD rfl (zA (zd (zC rfl (zC rfl (yj (e := 3) (sz := 1) (vs := [Vj n4_]) (by kernel_rfl) rfl rfl (by simp [Value.cells]) (by decide) rfl (fun b25 => yu (g := I1) (sz := 1) (by' := 8) (fun _ => rfl) (l := l) (l' := [((n4_ : Nat) : Int)]) (by simp [cell1, I1]) 0 (by kernel_rfl) rfl rfl rfl (fun w' hw' => Vec.sl (Own.holds hw' 2 _ rfl)) (by first | omega | (simp; omega)) (by decide) rfl (fun v26 => zD rfl (zA (zd (zC rfl (zt rfl rfl (zr (by omega)) rfl (zD rfl ?_))))))))))))
   exact zj (fun w' hw => ⟨k + 1, v26, l ++ [((n4_ : Nat) : Int)], a'5_, bad'6_, ⟨rfl, rfl, rfl, rfl, trivial⟩, ⟨⟨by omega, by simp [hlk]⟩, hΦ.2.snoc (RdS.map (fun n : Nat => (n : Int)) hf6_1)⟩, hw.sel [1, 0] rfl (by decide), (by omega)⟩)
  ·
   refine yG rfl (zB (zC rfl (zD rfl (zA ?_))))
   exact zM (z6 (v := lv) rfl rfl (fun w' hw => ⟨lv, l, a2, bad2, rfl, zIP hf2_1 hΦ.2 c1 (by omega), (by omega), hw⟩))
theorem zGX {S : List Nat} (o : Nat) (v : Value) (b : List UInt8) (a : Nat) (bad : Bool) (w : World) (hl : zb b.length) (hin : Own w S [Res.row o 171 [v, Vj a, .bool bad]] w) (hb : Rd w S (Res.sl v b.length (b.map vb))) : Rets Tryz.prog 98 #[.pointer (some ⟨o, 0, none⟩)] w fun u_ w' => u_ = .bool (decide (bad = false ∧ a = b.length)) ∧ Own w S [Res.row o 171 [v, Vj a, .bool bad]] w' := by
  refine zW Tryz.func98 rfl Tryz.ntmps98 hin ?_
  refine zB (zD rfl (zA (xb (by kernel_rfl) (by kernel_rfl) (zf rfl (zQ) (zf rfl (z7 rfl) (zf rfl (zi (o := 2) rfl) (zf rfl (zo 0 (v := .bool bad) rfl rfl rfl) (zf rfl (zFQ (b := bad) rfl) (zf rfl (zQ) (zD2 (q := (!bad) = true) 10 5 [18, 17, 16, 15, 14, 13, 12, 11, 10, 9] (((a : Nat) : Int) = ((b.length : Nat) : Int)) rfl rfl (yb _) rfl rfl rfl trivial rfl (fun h1_5 => ?_) (fun g1_16 => ?_)))))))))))
  ·
   refine y4 rfl (bT h1_5) (zf rfl (zQ) (y4 rfl (bT h1_5) (zf rfl (z7 rfl) (y4 rfl (bT h1_5) (zf rfl (zi (o := 1) rfl) (y4 rfl (bT h1_5) (zf rfl (zo 0 (v := Vj a) rfl rfl rfl) (y4 rfl (bT h1_5) (zf rfl (zQ) (y4 rfl (bT h1_5) (zf rfl (z7 rfl) (y4 rfl (bT h1_5) ?_))))))))))))
   refine zf rfl (zi (o := 0) rfl) (y4 rfl (bT h1_5) (zf rfl (zo 0 (v := v) rfl rfl rfl) (y4 rfl (bT h1_5) (zf rfl (zLV (pR hb) rfl) (y4 rfl (bT h1_5) (zf rfl (zIp rfl rfl) ?_))))))
   exact zD7 rfl
  refine zf rfl (yx) (j9 ?_)
  exact zM (z6 (v := .bool (decide (((!bad) = true) ∧ (((a : Nat) : Int) = ((b.length : Nat) : Int))))) rfl rfl (fun w' hw => ⟨(by cases bad <;> simp_all; omega), hw⟩))
end Go.Proofs.YthincafbmpialaaGreat
