import Derived.Test.YtkkeknmkipkbmaaGreatIn
set_option linter.unusedSectionVars false
set_option linter.unusedSimpArgs false
set_option linter.unusedVariables false
set_option maxRecDepth 10000
namespace Go.Proofs.YtkkeknmkipkbmaaGreat
open Go Go.Sc Go.Proofs
theorem BytesPost.yes {p : Option (List UInt8 × Nat)} {d : List UInt8} {k : Nat} {e : Int} (h : BytesPost p d k e) (he : e = 0) : p = some (d, k) := by
  rcases h with h | h
  · exact h.2
  · exact absurd he h.1
theorem BytesPost.no {p : Option (List UInt8 × Nat)} {d : List UInt8} {k : Nat} {e : Int} (h : BytesPost p d k e) (he : e ≠ 0) : p = none := by
  rcases h with h | h
  · exact absurd h.1 he
  · exact h.2
def zBx {α : Type} (p : List UInt8 → Nat → Option (α × Nat)) : Nat → List UInt8 → Nat → Option (List α × Nat)
  | 0 => kz []
  | k + 1 => xm (zBx p k) fun l => xm p fun x => kz (l ++ [x])
theorem RdS.snoc {α : Type} {p : List UInt8 → Nat → Option (α × Nat)} {b : List UInt8} {a a1 a2 k : Nat} {bad bad1 bad2 : Bool} {l : List α} {x : α} (h1 : RdS (zBx p k) b a bad l a1 bad1) (h2 : RdS p b a1 bad1 x a2 bad2) : RdS (zBx p (k + 1)) b a bad (l ++ [x]) a2 bad2 :=
  h1.bind (h2.map (l ++ [·]))
def zEK (most : Nat) : List UInt8 → Nat → Option (Int × Nat) := xm (kW most) fun n => kz (n : Int)
def zDU : List UInt8 → Nat → Option (List Int × Nat) := xm (kW 16) fun n => zBx (zEK 16) n
theorem zDb {b : List UInt8} {a a1 a2 n k : Nat} {bad bad1 bad2 : Bool} {l : List Int} (h1 : RdS (kW 16) b a bad n a1 bad1) (h2 : RdS (zBx (zEK 16) k) b a1 bad1 l a2 bad2) (e : k = n) : RdS zDU b a bad l a2 bad2 := by
  subst e; exact h1.bind h2
theorem zBH {S : List Nat} (o : Nat) (v : Value) (b : List UInt8) (a : Nat) (bad : Bool) (w : World) (hl : zT b.length) (ha : a ≤ b.length) (hin : Own w S [Res.row o 231 [v, Vj a, .bool bad]] w) (hb : Rd w S (Res.sl v b.length (b.map vb))) : Rets Tryz.prog 154 #[.pointer (some ⟨o, 0, none⟩)] w fun u_ w' => ∃ (r : Value) (l : List Int) (a' : Nat) (bad' : Bool), u_ = r ∧ RdS zDU b a bad l a' bad' ∧ l.length ≤ 16 ∧ Own w S [Res.row o 231 [v, Vj a', .bool bad'], Res.vec 3 1 r l.length (l.flatMap I1)] w' := by
  refine zR Tryz.func154 rfl Tryz.ntmps154 hin ?_
  refine zB (zH rfl (zA (zB (zH rfl (zA (zQ (zB (zC rfl (zF rfl rfl (fun w' hw => (zAH o v b a bad 16 w' (by first | assumption | omega | (simp <;> omega) | (constructor <;> (first | omega | (simp only [zT]; omega) | (simp <;> omega)))) (by first | omega | (simp <;> omega)) (by first | omega | (simp <;> omega)) (hw.give [0] rfl (by decide)) (hw.rdTo hb [0] rfl)).mono ?_))))))))))
  rintro _ w1 ⟨n1_, a'2_, bad'3_, rfl, hf2_1, hf2_1_1, hO⟩
  refine (?_ : CL _ _ _ _ _ _ (Own w S [Res.row o 231 [v, Vj a'2_, .bool bad'3_]])) w1 (hw.frameL [0] rfl hO)
  refine zC rfl (zA (zY ?_))
  refine zDe (fun (k : Nat) (lv : Value) (l : List Int) (a2 : Nat) (bad2 : Bool) => [(0, .pointer (some ⟨o, 0, none⟩)), (3, lv), (5, Vj n1_), (6, Vj k)]) (fun (k : Nat) (lv : Value) (l : List Int) (a2 : Nat) (bad2 : Bool) => (k ≤ n1_ ∧ l.length = k) ∧ RdS (zBx (zEK 16) k) b a'2_ bad'3_ l a2 bad2) (fun (k : Nat) (lv : Value) (l : List Int) (a2 : Nat) (bad2 : Bool) => [Res.row o 231 [v, Vj a2, .bool bad2], Res.vec 3 1 lv l.length (l.flatMap I1)]) (fun (k : Nat) (lv : Value) (l : List Int) (a2 : Nat) (bad2 : Bool) => n1_ - k) (fun w' hw => ⟨0, .slice none 0 0, [], a'2_, bad'3_, ⟨rfl, rfl, rfl, rfl, trivial⟩, ⟨⟨Nat.zero_le _, rfl⟩, RdS.pure _ hf2_1.le⟩, zz hw 3 1⟩) (fun k lv l a2 bad2 g hΦ => ?_)
  have ha2 := hΦ.2.le
  have hlk := hΦ.1.2
  refine zB (z4 rfl rfl rfl (zA (zQ (zV rfl (fun c1 => ?_) (fun c1 => ?_)))))
  ·
   refine zP (zQ (zY (zZ (zC rfl (zC rfl (zF rfl rfl (fun w' hw => (zAH o v b a2 bad2 16 w' (by first | assumption | omega | (simp <;> omega) | (constructor <;> (first | omega | (simp only [zT]; omega) | (simp <;> omega)))) (by first | omega | (simp <;> omega)) (by first | omega | (simp <;> omega)) (hw.give [0] rfl (by decide)) (hw.rdTo hb [0] rfl)).mono ?_)))))))
   rintro _ w1 ⟨n4_, a'5_, bad'6_, rfl, hf4_2, hf4_2_1, hO⟩
   refine (?_ : CL _ _ _ _ _ _ (Own w S [Res.vec 3 1 lv l.length (l.flatMap I1), Res.row o 231 [v, Vj a'5_, .bool bad'6_]])) w1 (hw.frameL [0] rfl hO)
   refine zy (e := 3) (sz := 1) (vs := [Vj n4_]) (by kernel_rfl) rfl rfl (by simp [Value.cells]) (by decide) rfl (fun b11 => yB (g := I1) (sz := 1) (by' := 8) (fun _ => rfl) (l := l) (l' := [((n4_ : Nat) : Int)]) (by simp [cell1, I1]) 0 (by kernel_rfl) rfl rfl rfl (fun w' hw' => Vec.sl (Own.holds hw' 2 _ rfl)) (by first | omega | (simp <;> omega)) (by decide) rfl (fun v12 => zH rfl (zA (zZ (zu rfl rfl (zo (by omega)) rfl (zC rfl ?_))))))
   exact zl (fun w' hw => ⟨k + 1, v12, l ++ [((n4_ : Nat) : Int)], a'5_, bad'6_, ⟨rfl, rfl, rfl, rfl, trivial⟩, ⟨⟨by omega, by simp [hlk]⟩, hΦ.2.snoc (RdS.map (fun n : Nat => (n : Int)) hf4_2)⟩, hw.sel [1, 0] rfl (by decide), (by omega)⟩)
  ·
   refine z8 rfl (zB (zC rfl (zH rfl (zA ?_))))
   exact zS (zx (v := lv) rfl rfl (fun w' hw => ⟨lv, l, a2, bad2, rfl, zDb hf2_1 hΦ.2 (by omega), (by omega), hw⟩))
end Go.Proofs.YtkkeknmkipkbmaaGreat
