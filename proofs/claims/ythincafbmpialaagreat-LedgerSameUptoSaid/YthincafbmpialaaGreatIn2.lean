import Derived.Test.YthincafbmpialaaGreatIn
set_option linter.unusedSectionVars false
set_option linter.unusedSimpArgs false
set_option linter.unusedVariables false
set_option maxRecDepth 10000
namespace Go.Proofs.YthincafbmpialaaGreat
open Go Go.Sc Go.Proofs
theorem BytesPost.yes {p : Option (List UInt8 × Nat)} {d : List UInt8} {k : Nat} {e : Int} (h : BytesPost p d k e) (he : e = 0) : p = some (d, k) := by
  rcases h with h | h
  · exact h.2
  · exact absurd he h.1
theorem BytesPost.no {p : Option (List UInt8 × Nat)} {d : List UInt8} {k : Nat} {e : Int} (h : BytesPost p d k e) (he : e ≠ 0) : p = none := by
  rcases h with h | h
  · exact absurd h.1 he
  · exact h.2
def yP {α : Type} (p : List UInt8 → Nat → Option (α × Nat)) : Nat → List UInt8 → Nat → Option (List α × Nat)
  | 0 => yM []
  | k + 1 => zk (yP p k) fun l => zk p fun x => yM (l ++ [x])
theorem RdS.snoc {α : Type} {p : List UInt8 → Nat → Option (α × Nat)} {b : List UInt8} {a a1 a2 k : Nat} {bad bad1 bad2 : Bool} {l : List α} {x : α} (h1 : RdS (yP p k) b a bad l a1 bad1) (h2 : RdS p b a1 bad1 x a2 bad2) : RdS (yP p (k + 1)) b a bad (l ++ [x]) a2 bad2 :=
  h1.bind (h2.map (l ++ [·]))
theorem zC7 {α : Type} {p : List UInt8 → Nat → Option (α × Nat)} {b : List UInt8} {a k : Nat} (h : yP p k b a = none) : ∀ n, k ≤ n → yP p n b a = none := by
  intro n hn
  induction n with
  | zero => rw [show k = 0 by omega] at h; exact h
  | succ n ih =>
    by_cases hk : k = n + 1
    · rw [← hk]; exact h
    · simp only [yP, zk, ih (by omega), Option.bind_none]
theorem RdS.stop {α : Type} {p : List UInt8 → Nat → Option (α × Nat)} {b : List UInt8} {a a1 k n : Nat} {bad : Bool} {l : List α} (h : RdS (yP p k) b a bad l a1 true) (hn : k ≤ n) : RdS (yP p n) b a bad l a1 true := by
  refine ⟨h.le, h.st, fun v j hb hv => ?_, fun _ _ => rfl⟩
  cases hp : yP p k b a with
  | none => rw [zC7 hp n hn] at hv; cases hv
  | some q => have := (h.ok q.1 q.2 hb hp).1; cases this
def zFH (most : Nat) : List UInt8 → Nat → Option (Int × Nat) := zk (jf most) fun n => yM (n : Int)
def zJd : List UInt8 → Nat → Option (List Int × Nat) := zk (jf 16) fun n => yP (zFH 16) n
theorem zJZ {b : List UInt8} {a a1 a2 n k : Nat} {bad bad1 bad2 : Bool} {l : List Int} (h1 : RdS (jf 16) b a bad n a1 bad1) (h2 : RdS (yP (zFH 16) k) b a1 bad1 l a2 bad2) (e : k = n) : RdS zJd b a bad l a2 bad2 := by
  subst e; exact h1.bind h2
theorem zHi {S : List Nat} (o : Nat) (v : Value) (b : List UInt8) (a : Nat) (bad : Bool) (w : World) (hl : zd b.length) (ha : a ≤ b.length) (hin : Own w S [Res.row o 185 [v, Vj a, .bool bad]] w) (hb : Rd w S (Res.sl v b.length (b.map vb))) : Rets Tryz.prog 106 #[.pointer (some ⟨o, 0, none⟩)] w fun u_ w' => ∃ (r : Value) (d : List UInt8) (a' : Nat) (bad' : Bool), u_ = r ∧ RdS yi b a bad d a' bad' ∧ d.length ≤ b.length ∧ Own w S [Res.row o 185 [v, Vj a', .bool bad'], Res.vec 5 1 r d.length (d.map vb)] w' := by
  refine zb Tryz.func106 rfl Tryz.ntmps106 hin ?_
  refine zB (zD rfl (zA (zL (zB (zC rfl (zr rfl rfl (zX (o := 2) rfl rfl (zY 0 (v := .bool bad) rfl rfl rfl rfl (zA (zE5 rfl (fun c1 => ?_) (fun c1 => ?_)))))))))))
  ·
   refine zB (zD rfl (zA ?_))
   exact zP (z8 (v := .slice none 0 0) rfl rfl (fun w' hw => ⟨.slice none 0 0, [], a, bad, rfl, RdS.badly c1 ha, (by simp), yQ hw 5 1⟩))
  ·
   refine zM (zL (zi [0] rfl (by decide) (by kernel_rfl) (fun w' hw hS => zG 0 rfl (zN) hS (zG 1 rfl (yJ rfl) hS (zG 2 rfl (zy (o := 0) rfl) hS (zG 3 rfl (z7 0 (v := v) rfl rfl rfl) hS (zG 4 rfl (zN) hS (zG 5 rfl (yJ rfl) hS (zG 6 rfl (zy (o := 1) rfl) hS (zG 7 rfl (z7 0 (v := Vj a) rfl rfl rfl) hS (ze 8 rfl hw (zK rfl rfl (fun w' hw => ?_)))))))))))))
   refine (zFO v b a w' (by first | assumption | omega | (simp <;> omega) | (constructor <;> (first | omega | (simp only [zd]; omega) | (simp <;> omega)))) (by first | omega | (simp <;> omega)) (hw.rd0 hb)).mono ?_
   rintro _ w1 ⟨r1_, d2_, k3_, e4_, rfl, hf3_8, hO⟩
   refine (?_ : CL _ _ _ _ _ _ (Own w S [Res.row o 185 [v, Vj a, .bool bad], Res.vec 5 1 r1_ d2_.length (d2_.map vb)])) w1 (hw.frame0 hO)
   refine zF [0] rfl (by decide) (fun w' hw hS => zG 9 rfl (zN) hS (zG 10 rfl (yw (vs := [r1_, Vj k3_, Vi e4_]) rfl rfl) hS (zG 11 rfl (yw (vs := [r1_, Vj k3_, Vi e4_]) rfl rfl) hS (zG 12 rfl (yw (vs := [r1_, Vj k3_, Vi e4_]) rfl rfl) hS (zG 13 rfl (xV) hS (zG 14 rfl (xV) hS (zG 15 rfl (xV) hS (zO ?_))))))))
   refine (?_ : C _ _ _ _ _ _ _ (Own w S [Res.row o 185 [v, Vj a, .bool bad], Res.vec 5 1 r1_ d2_.length (d2_.map vb)])) _ hw
   refine zL (zB (zC rfl (kU rfl rfl rfl (zA (zZ rfl (fun c2 => ?_) (fun c2 => ?_))))))
   ·
    refine zB (zC rfl (zr rfl rfl (zX (o := 2) rfl rfl (xr (cs := [v, Vj a, .bool bad]) 0 rfl rfl rfl rfl rfl (zA (zB (zD rfl (zA ?_))))))))
    exact zP (z8 (v := .slice none 0 0) rfl rfl (fun w' hw => ⟨.slice none 0 0, [], a, true, rfl, RdS.fail ha fun _ => hf3_8.no c2, (by simp), yQ (hw.one 0 rfl) 5 1⟩))
   ·
    refine zM (zB (zC rfl (zC rfl (zr rfl rfl (zX (o := 1) rfl rfl (xr (cs := [v, Vj a, .bool bad]) 0 rfl rfl rfl rfl rfl (zA (zB (zC rfl (zD rfl (zA ?_)))))))))))
    exact zP (z8 (v := r1_) rfl rfl (fun w' hw => ⟨r1_, d2_, k3_, bad, rfl, RdS.done (kM (hf3_8.yes (by omega))).1 (hf3_8.yes (by omega)), (kM (hf3_8.yes (by omega))).2, hw⟩))
theorem zFX {S : List Nat} (o : Nat) (v : Value) (b : List UInt8) (a : Nat) (bad : Bool) (w : World) (hl : zd b.length) (ha : a ≤ b.length) (hin : Own w S [Res.row o 185 [v, Vj a, .bool bad]] w) (hb : Rd w S (Res.sl v b.length (b.map vb))) : Rets Tryz.prog 181 #[.pointer (some ⟨o, 0, none⟩)] w fun u_ w' => ∃ (r : Value) (l : List Int) (a' : Nat) (bad' : Bool), u_ = r ∧ RdS zJd b a bad l a' bad' ∧ l.length ≤ 16 ∧ Own w S [Res.row o 185 [v, Vj a', .bool bad'], Res.vec 3 1 r l.length (l.flatMap I1)] w' := by
  refine zb Tryz.func181 rfl Tryz.ntmps181 hin ?_
  refine zB (zD rfl (zA (zB (zD rfl (zA (zL (zB (zC rfl (zK rfl rfl (fun w' hw => (zA1 o v b a bad 16 w' (by first | assumption | omega | (simp <;> omega) | (constructor <;> (first | omega | (simp only [zd]; omega) | (simp <;> omega)))) (by first | omega | (simp <;> omega)) (by first | omega | (simp <;> omega)) (hw.give [0] rfl (by decide)) (hw.rdTo hb [0] rfl)).mono ?_))))))))))
  rintro _ w1 ⟨n1_, a'2_, bad'3_, rfl, hf2_1, hf2_1_1, hO⟩
  refine (?_ : CL _ _ _ _ _ _ (Own w S [Res.row o 185 [v, Vj a'2_, .bool bad'3_]])) w1 (hw.frameL [0] rfl hO)
  refine zC rfl (zA (zQ ?_))
  refine zDU (fun (k : Nat) (lv : Value) (l : List Int) (a2 : Nat) (bad2 : Bool) => [(0, .pointer (some ⟨o, 0, none⟩)), (3, lv), (5, Vj n1_), (6, Vj k)]) (fun (k : Nat) (lv : Value) (l : List Int) (a2 : Nat) (bad2 : Bool) => (k ≤ n1_ ∧ l.length = k) ∧ RdS (yP (zFH 16) k) b a'2_ bad'3_ l a2 bad2) (fun (k : Nat) (lv : Value) (l : List Int) (a2 : Nat) (bad2 : Bool) => [Res.row o 185 [v, Vj a2, .bool bad2], Res.vec 3 1 lv l.length (l.flatMap I1)]) (fun (k : Nat) (lv : Value) (l : List Int) (a2 : Nat) (bad2 : Bool) => n1_ - k) (fun w' hw => ⟨0, .slice none 0 0, [], a'2_, bad'3_, ⟨rfl, rfl, rfl, rfl, trivial⟩, ⟨⟨Nat.zero_le _, rfl⟩, RdS.pure _ hf2_1.le⟩, yQ hw 3 1⟩) (fun k lv l a2 bad2 g hΦ => ?_)
  have ha2 := hΦ.2.le
  have hlk := hΦ.1.2
  refine zB (yZ rfl rfl rfl (zA (zL (zZ rfl (fun c1 => ?_) (fun c1 => ?_)))))
  ·
   refine zM (zL (zQ (zj (zC rfl (zC rfl (zK rfl rfl (fun w' hw => (zA1 o v b a2 bad2 16 w' (by first | assumption | omega | (simp <;> omega) | (constructor <;> (first | omega | (simp only [zd]; omega) | (simp <;> omega)))) (by first | omega | (simp <;> omega)) (by first | omega | (simp <;> omega)) (hw.give [0] rfl (by decide)) (hw.rdTo hb [0] rfl)).mono ?_)))))))
   rintro _ w1 ⟨n4_, a'5_, bad'6_, rfl, hf4_2, hf4_2_1, hO⟩
   refine (?_ : CL _ _ _ _ _ _ (Own w S [Res.vec 3 1 lv l.length (l.flatMap I1), Res.row o 185 [v, Vj a'5_, .bool bad'6_]])) w1 (hw.frameL [0] rfl hO)
   refine xF (e := 3) (sz := 1) (vs := [Vj n4_]) (by kernel_rfl) rfl rfl (by simp [Value.cells]) (by decide) rfl (fun b11 => x2 (g := I1) (sz := 1) (by' := 8) (fun _ => rfl) (l := l) (l' := [((n4_ : Nat) : Int)]) (by simp [cell1, I1]) 0 (by kernel_rfl) rfl rfl rfl (fun w' hw' => Vec.sl (Own.holds hw' 2 _ rfl)) (by first | omega | (simp; omega)) (by decide) rfl (fun v12 => zD rfl (zA (zj (z6 rfl rfl (zz (by omega)) rfl (zC rfl ?_))))))
   exact zf (fun w' hw => ⟨k + 1, v12, l ++ [((n4_ : Nat) : Int)], a'5_, bad'6_, ⟨rfl, rfl, rfl, rfl, trivial⟩, ⟨⟨by omega, by simp [hlk]⟩, hΦ.2.snoc (RdS.map (fun n : Nat => (n : Int)) hf4_2)⟩, hw.sel [1, 0] rfl (by decide), (by omega)⟩)
  ·
   refine yK rfl (zB (zC rfl (zD rfl (zA ?_))))
   exact zP (z8 (v := lv) rfl rfl (fun w' hw => ⟨lv, l, a2, bad2, rfl, zJZ hf2_1 hΦ.2 (by omega), (by omega), hw⟩))
end Go.Proofs.YthincafbmpialaaGreat
