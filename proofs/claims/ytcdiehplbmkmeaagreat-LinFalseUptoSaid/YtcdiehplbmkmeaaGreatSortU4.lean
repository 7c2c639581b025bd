import Derived.Test.YtcdiehplbmkmeaaGreatSortU2
import Derived.Test.YtcdiehplbmkmeaaGreatSortU3
set_option linter.unusedSectionVars false
set_option linter.unusedSimpArgs false
set_option linter.unusedVariables false
set_option maxRecDepth 10000
namespace Go.Proofs.YtcdiehplbmkmeaaGreat
open Go Go.Sc Go.Proofs
def zGt (n : Nat) : Prop := ∀ (v : Value) (l : List Nat) (a b : Nat) (lim : Int) (w : World) (hn : b - a < n) (ha : a ≤ b) (hb : b ≤ l.length) (hl : z6 l.length) (hpr : Pred a b l) (hin : Own w (x6 [Res.vec 32 1 v l.length (l.flatMap U1)]) [Res.vec 32 1 v l.length (l.flatMap U1)] w), Rets Tryz.prog 66 #[v, Vj a, Vj b, Vi lim] w fun u_ w' => ∃ (l' : List Nat), u_ = .tuple #[] ∧ Same a b l l' ∧ Up a b l' ∧ Own w (x6 [Res.vec 32 1 v l.length (l.flatMap U1)]) [Res.vec 32 1 v l'.length (l'.flatMap U1)] w'
theorem zKA {S : List Nat} (n : Nat) (ih : zGt n) (v : Value) (l : List Nat) (a b : Nat) (lim : Int) (w : World) (hn : b - a < n + 1) (ha : a ≤ b) (hb : b ≤ l.length) (hl : z6 l.length) (hpr : Pred a b l) (hin : Own w S [Res.vec 32 1 v l.length (l.flatMap U1)] w) : Rets Tryz.prog 66 #[v, Vj a, Vj b, Vi lim] w fun u_ w' => ∃ (l' : List Nat), u_ = .tuple #[] ∧ Same a b l l' ∧ Up a b l' ∧ Own w S [Res.vec 32 1 v l'.length (l'.flatMap U1)] w' := by
  refine ze Tryz.func66 rfl Tryz.ntmps66 hin ?_
  refine zB (zH rfl (zA (zB (zH rfl (zA (zW ?_))))))
  refine zC1 (fun (a1 b1 : Nat) (lim1 : Int) (q : List Nat) (wb wp : Bool) => [(0, v), (1, Vj a1), (2, Vj b1), (3, Vi lim1), (8, .bool wb), (9, .bool wp)]) (fun (a1 b1 : Nat) (lim1 : Int) (q : List Nat) (wb wp : Bool) => ((a ≤ a1 ∧ a1 ≤ b1) ∧ b1 ≤ b) ∧ Same a b l q ∧ Fr a a1 b1 b q ∧ Pred a1 b1 q) (fun (a1 b1 : Nat) (lim1 : Int) (q : List Nat) (wb wp : Bool) => [Res.vec 32 1 v q.length (q.flatMap U1)]) (fun (a1 b1 : Nat) (lim1 : Int) (q : List Nat) (wb wp : Bool) => b1 - a1) (fun w' hw => ⟨a, b, lim, l, true, true, ⟨rfl, rfl, rfl, rfl, rfl, rfl, trivial⟩, ⟨⟨⟨Nat.le_refl _, ha⟩, Nat.le_refl _⟩, Same.refl _ _ _, Fr.start, hpr⟩, hw⟩) (fun a1 b1 lim1 q wb wp g hΦ => ?_)
  have hab := hΦ.1
  have hS := hΦ.2.1
  have hF := hΦ.2.2.1
  have hP := hΦ.2.2.2
  have hq := hS.len
  refine zW (zB (zC rfl (zC rfl (yJ (c := ((b1 - a1 : Nat) : Int)) rfl rfl (wsi (by omega) (by omega)) rfl (zH rfl (zA (zL (zB (zC rfl (x5 rfl rfl rfl (zA (zV rfl (fun c1 => ?_) (fun c1 => ?_)))))))))))))
  ·
   refine zB (zC rfl (zC rfl (zC rfl (zQ rfl rfl (fun w' hw => (zFV v q a1 b1 w' (by first | omega | (simp <;> omega)) (by first | omega | (simp <;> omega)) (by first | assumption | omega | (simp <;> omega) | (constructor <;> (first | omega | (simp only [z6]; omega) | (simp <;> omega)))) (hw.give [0] rfl (by decide))).mono ?_)))))
   rintro _ w1 ⟨l'1_, rfl, hf4_3, hf4_3_1, hO⟩
   refine (?_ : CL _ _ _ _ _ _ (Own w S [Res.vec 32 1 v l'1_.length (l'1_.flatMap U1)])) w1 (hw.frameL [0] rfl hO)
   refine zA ?_
   exact zN (j8 rfl (fun w' hw => ⟨l'1_, rfl, hS.trans (hf4_3.wide hab.1.1 hab.2), (hF.keep hf4_3 hab.1 hab.2 (by omega)).done hf4_3_1 hab.1 hab.2, hw⟩))
  ·
   refine zJ (zL (zB (zC rfl (yV rfl rfl rfl (zA (zV rfl (fun c2 => ?_) (fun c2 => ?_)))))))
   ·
    refine zB (zC rfl (zC rfl (zC rfl (zQ rfl rfl (fun w' hw => (zEX v q a1 b1 w' (by first | omega | (simp <;> omega)) (by first | omega | (simp <;> omega)) (by first | assumption | omega | (simp <;> omega) | (constructor <;> (first | omega | (simp only [z6]; omega) | (simp <;> omega)))) (hw.give [0] rfl (by decide))).mono ?_)))))
    rintro _ w1 ⟨l'2_, rfl, hf6_3, hf6_3_1, hO⟩
    refine (?_ : CL _ _ _ _ _ _ (Own w S [Res.vec 32 1 v l'2_.length (l'2_.flatMap U1)])) w1 (hw.frameL [0] rfl hO)
    refine zA ?_
    exact zN (j8 rfl (fun w' hw => ⟨l'2_, rfl, hS.trans (hf6_3.wide hab.1.1 hab.2), (hF.keep hf6_3 hab.1 hab.2 (by omega)).done hf6_3_1 hab.1 hab.2, hw⟩))
   ·
    refine zJ (zF8 (fun (lim2 : Int) (q1 : List Nat) => [(0, v), (1, Vj a1), (2, Vj b1), (3, Vi lim2), (8, .bool wb), (9, .bool wp), (10, Vj (b1 - a1))]) (fun (lim2 : Int) (q1 : List Nat) => Same a1 b1 q q1) (fun (lim2 : Int) (q1 : List Nat) => [Res.vec 32 1 v q1.length (q1.flatMap U1)]) ?_ (fun lim2 q1 g hΦ => ?_))
    ·
     refine zB (zC rfl (kz (b := wb) rfl rfl (zA (jm rfl (fun c3 => ?_) (fun c3 => ?_)))))
     ·
      refine zB (zC rfl (zC rfl (zC rfl (zQ rfl rfl (fun w' hw => (zHn v q a1 b1 w' (by first | omega | (simp <;> omega)) (by first | omega | (simp <;> omega)) (by first | assumption | omega | (simp <;> omega) | (constructor <;> (first | omega | (simp only [z6]; omega) | (simp <;> omega)))) (hw.give [0] rfl (by decide))).mono ?_)))))
      rintro _ w1 ⟨l'3_, rfl, hf8_3, hO⟩
      refine (?_ : CL _ _ _ _ _ _ (Own w S [Res.vec 32 1 v l'3_.length (l'3_.flatMap U1)])) w1 (hw.frameL [0] rfl hO)
      refine zA (zY (zC rfl (yJ (c := IntKind.i64.wrap (lim1 - 1)) rfl rfl rfl rfl (zH rfl ?_))))
      exact zd (fun w' hw => ⟨IntKind.i64.wrap (lim1 - 1), l'3_, ⟨rfl, rfl, rfl, rfl, rfl, rfl, rfl, trivial⟩, hf8_3, hw⟩)
     ·
      exact xQ (fun w' hw => ⟨lim1, q, ⟨rfl, rfl, rfl, rfl, rfl, rfl, rfl, trivial⟩, Same.refl _ _ _, hw⟩)
    have hS1 := hS.trans (hΦ.wide hab.1.1 hab.2)
    have hF1 := hF.keep hΦ hab.1 hab.2 (by omega)
    have hP1 := hP.keep hΦ (by omega)
    have hq1 := hS1.len
    refine zB (zC rfl (zC rfl (zC rfl (zQ rfl rfl (fun w' hw => (zI0 v q1 a1 b1 w' (by first | omega | (simp <;> omega)) (by first | omega | (simp <;> omega)) (by first | assumption | omega | (simp <;> omega) | (constructor <;> (first | omega | (simp only [z6]; omega) | (simp <;> omega)))) (hw.rdVec0 0 rfl)).mono ?_)))))
    rintro _ w1 ⟨p4_, h5_, rfl, hf10_3, hO⟩
    refine (?_ : CL _ _ _ _ _ _ (Own w S [Res.vec 32 1 v q1.length (q1.flatMap U1)])) w1 (hw.frame0 hO)
    refine zC rfl (zr (vs := [Vj p4_, Vi h5_]) rfl rfl rfl (zr (vs := [Vj p4_, Vi h5_]) rfl rfl rfl (zH rfl (zH rfl (zA (zEj (fun (p1 : Nat) (h1 : Int) (q2 : List Nat) => [(0, v), (1, Vj a1), (2, Vj b1), (3, Vi lim2), (8, .bool wb), (9, .bool wp), (10, Vj (b1 - a1)), (11, Vj p1), (12, Vi h1)]) (fun (p1 : Nat) (h1 : Int) (q2 : List Nat) => Same a1 b1 q1 q2 ∧ (a1 ≤ p1 ∧ p1 < b1)) (fun (p1 : Nat) (h1 : Int) (q2 : List Nat) => [Res.vec 32 1 v q2.length (q2.flatMap U1)]) ?_ (fun p1 h1 q2 g hΦ => ?_)))))))
    ·
     refine zB (zC rfl (yV rfl rfl rfl (zA (zV rfl (fun c4 => ?_) (fun c4 => ?_)))))
     ·
      refine zB (zC rfl (zC rfl (zC rfl (zQ rfl rfl (fun w' hw => (zEU v q1 a1 b1 w' (by first | omega | (simp <;> omega)) (by first | omega | (simp <;> omega)) (by first | assumption | omega | (simp <;> omega) | (constructor <;> (first | omega | (simp only [z6]; omega) | (simp <;> omega)))) (hw.give [0] rfl (by decide))).mono ?_)))))
      rintro _ w1 ⟨l'6_, rfl, hf12_3, hO⟩
      refine (?_ : CL _ _ _ _ _ _ (Own w S [Res.vec 32 1 v l'6_.length (l'6_.flatMap U1)])) w1 (hw.frameL [0] rfl hO)
      refine zA (zB (zC rfl (yJ (c := ((b1 - 1 : Nat) : Int)) rfl rfl (xg (by omega) (by omega)) rfl (zC rfl (zC rfl (yJ (c := ((p4_ - a1 : Nat) : Int)) rfl rfl (wsi (by omega) (by omega)) rfl (yJ (c := ((b1 - 1 - (p4_ - a1) : Nat) : Int)) rfl rfl (wsi (by omega) (by omega)) rfl (zH rfl (zA (zY (zH rfl ?_)))))))))))
      exact zd (fun w' hw => ⟨b1 - 1 - (p4_ - a1), 1, l'6_, ⟨rfl, rfl, rfl, rfl, rfl, rfl, rfl, rfl, rfl, trivial⟩, ⟨hf12_3, ⟨by omega, by omega⟩⟩, hw⟩)
     ·
      exact xQ (fun w' hw => ⟨p4_, h5_, q1, ⟨rfl, rfl, rfl, rfl, rfl, rfl, rfl, rfl, rfl, trivial⟩, ⟨Same.refl _ _ _, hf10_3⟩, hw⟩)
    have hS2 := hS1.trans (hΦ.1.wide hab.1.1 hab.2)
    have hF2 := hF1.keep hΦ.1 hab.1 hab.2 (by omega)
    have hP2 := hP1.keep hΦ.1 (by omega)
    have hq2 := hS2.len
    have hp1 := hΦ.2
    refine ye (fun (q3 : List Nat) => [(0, v), (1, Vj a1), (2, Vj b1), (3, Vi lim2), (8, .bool wb), (9, .bool wp), (10, Vj (b1 - a1)), (11, Vj p1)]) (fun (q3 : List Nat) => Same a1 b1 q2 q3) (fun (q3 : List Nat) => [Res.vec 32 1 v q3.length (q3.flatMap U1)]) ?_ (fun q3 g hΦ => ?_)
    ·
     refine zB (zC rfl (zC rfl (yD (q := wb = true) 1 1 [63] (wp = true) rfl rfl (y3 _) rfl rfl rfl trivial rfl (fun h15_1 => ?_) (fun g15_3 => ?_))))
     ·
      refine zR rfl (bT h15_1) (zC rfl ?_)
      exact yH (y3 _) (fun _ hw => hw)
     refine zC rfl (yD (q := (wb = true) ∧ (wp = true)) 2 4 [67, 66] (h1 = 1) rfl rfl rfl rfl rfl rfl trivial rfl (fun h15_4 => ?_) (fun g15_7 => ?_))
     ·
      refine zR rfl (gT h15_4) (zC rfl (zR rfl (gT h15_4) (yV rfl rfl rfl ?_)))
      exact yH rfl (fun _ hw => hw)
     refine zA (zV rfl (fun c5 => ?_) (fun c5 => ?_))
     ·
      refine zB (zC rfl (zC rfl (zC rfl (zQ rfl rfl (fun w' hw => (zFP v q2 a1 b1 w' (by first | omega | (simp <;> omega)) (by first | omega | (simp <;> omega)) (by first | assumption | omega | (simp <;> omega) | (constructor <;> (first | omega | (simp only [z6]; omega) | (simp <;> omega)))) ‹_› (hw.give [0] rfl (by decide))).mono ?_)))))
      rintro _ w1 ⟨l'7_, r8_, rfl, hf16_3, hf16_3_1, hO⟩
      refine (?_ : CL _ _ _ _ _ _ (Own w S [Res.vec 32 1 v l'7_.length (l'7_.flatMap U1)])) w1 (hw.frameL [0] rfl hO)
      refine zA (jm rfl (fun c6 => ?_) (fun c6 => ?_))
      ·
       exact zN (j8 rfl (fun w' hw => ⟨l'7_, rfl, hS2.trans (hf16_3.wide hab.1.1 hab.2), (hF2.keep hf16_3 hab.1 hab.2 (by omega)).done (hf16_3_1 c6) hab.1 hab.2, hw⟩))
      ·
       exact xQ (fun w' hw => ⟨l'7_, ⟨rfl, rfl, rfl, rfl, rfl, rfl, rfl, rfl, trivial⟩, hf16_3, hw⟩)
     ·
      exact xQ (fun w' hw => ⟨q2, ⟨rfl, rfl, rfl, rfl, rfl, rfl, rfl, rfl, trivial⟩, Same.refl _ _ _, hw⟩)
    have hS3 := hS2.trans (hΦ.wide hab.1.1 hab.2)
    have hF3 := hF2.keep hΦ hab.1 hab.2 (by omega)
    have hP3 := hP2.keep hΦ (by omega)
    have hq3 := hS3.len
    refine zL (zL (zZ [0] rfl (by decide) (by kernel_rfl) (fun w' hw hS => zD 0 rfl (zK) hS (zD 1 rfl (zDV rfl rfl) hS (zD 2 rfl (zK) hS ?_)))))
    by_cases g17_2 : 0 < ((a1 : Nat) : Int)
    ·
     refine zp 3 rfl rfl (gT g17_2) (zK) hS (zp 4 rfl rfl (gT g17_2) (zK) hS (zp 5 rfl rfl (gT g17_2) (kp (c := ((a1 - 1 : Nat) : Int)) rfl rfl (xg (by omega) (by omega))) hS (zp 6 rfl rfl (gT g17_2) (z7 (pV 0 rfl) 1 (a1 - 1) rfl rfl rfl (by omega)) hS (zp 7 rfl rfl (gT g17_2) (yT (pV 0 rfl) 1 (a1 - 1) 0 (fun _ => rfl) rfl rfl (by omega) rfl) hS (zp 8 rfl rfl (gT g17_2) (zK) hS (zp 9 rfl rfl (gT g17_2) (zK) hS (zp 10 rfl rfl (gT g17_2) (z7 (pV 0 rfl) 1 p1 rfl rfl rfl (by omega)) hS (zp 11 rfl rfl (gT g17_2) (yT (pV 0 rfl) 1 p1 0 (fun _ => rfl) rfl rfl (by omega) rfl) hS (zX 12 rfl hw (zR rfl (gT g17_2) (zQ rfl rfl (fun w' hw => (xZ (zG q3 (a1 - 1)) (zG q3 p1) w').mono ?_))))))))))))
     rintro _ w1 ⟨rfl, hO⟩
     refine (?_ : CL _ _ _ _ _ _ (Own w S [Res.vec 32 1 v q3.length (q3.flatMap U1)])) w1 (hw.frame0 hO)
     refine zE [0] rfl (by decide) (fun w' hw hS => zp 13 rfl rfl (gT g17_2) (jN (q := olt (zG q3 (a1 - 1)) (zG q3 p1)) rfl) hS (zD 14 rfl (xq (gT g17_2)) hS (zM ?_)))
     refine (?_ : C _ _ _ _ _ _ _ (Own w S [Res.vec 32 1 v q3.length (q3.flatMap U1)])) _ hw
     refine zV rfl (fun c7 => ?_) (fun c7 => ?_)
     ·
      refine zB (zC rfl (zC rfl (zC rfl (zC rfl (zQ rfl rfl (fun w' hw => (zGg v q3 a1 b1 p1 w' (by first | omega | (simp <;> omega)) (by first | omega | (simp <;> omega)) (by first | assumption | omega | (simp <;> omega) | (constructor <;> (first | omega | (simp only [z6]; omega) | (simp <;> omega)))) (hw.give [0] rfl (by decide))).mono ?_))))))
      rintro _ w1 ⟨l'9_, m10_, rfl, hf18_4, hf18_4_1, hf18_4_2, hO⟩
      refine (?_ : CL _ _ _ _ _ _ (Own w S [Res.vec 32 1 v l'9_.length (l'9_.flatMap U1)])) w1 (hw.frameL [0] rfl hO)
      refine zH rfl (zA (zB (zC rfl (zH rfl (zA ?_)))))
      exact yr rfl (fun w' hw => ⟨m10_, b1, lim2, l'9_, wb, wp, ⟨rfl, rfl, rfl, rfl, rfl, rfl, trivial⟩, ⟨⟨⟨by omega, by omega⟩, hab.2⟩, hS3.trans (hf18_4.wide hab.1.1 hab.2), (hF3.keep hf18_4 hab.1 hab.2 (by omega)).eqs hf18_4_2 (fun k h1 h2 => xJ (show xy (zG q3 p1) (zG l'9_ (a1 - 1)) by rw [hf18_4.out _ (by omega)]; exact c7) ((hP3.keep hf18_4 (by omega)).resolve_left (by omega) k h1 h2)) ⟨by omega, by omega⟩ hf18_4_1.2 hab.2, Pred.eqs hf18_4_2 hf18_4_1.1⟩, hw, (by omega)⟩)
     ·
      refine zJ (zB (zC rfl (zC rfl (zC rfl (zC rfl (zQ rfl rfl (fun w' hw => (zHk v q3 a1 b1 p1 w' (by first | omega | (simp <;> omega)) (by first | omega | (simp <;> omega)) (by first | assumption | omega | (simp <;> omega) | (constructor <;> (first | omega | (simp only [z6]; omega) | (simp <;> omega)))) (hw.give [0] rfl (by decide))).mono ?_)))))))
      rintro _ w1 ⟨l'11_, m12_, al13_, rfl, hf20_4, hf20_4_1, hf20_4_2, hO⟩
      have hlq := hf20_4.len
      refine (?_ : CL _ _ _ _ _ _ (Own w S [Res.vec 32 1 v l'11_.length (l'11_.flatMap U1)])) w1 (hw.frameL [0] rfl hO)
      refine zC rfl (zr (vs := [Vj m12_, .bool al13_]) rfl rfl rfl (zr (vs := [Vj m12_, .bool al13_]) rfl rfl rfl (zH rfl (zH rfl (zA (zB (zC rfl (zH rfl (zA (zB (zC rfl (zC rfl ?_))))))))))))
      refine yJ (c := ((m12_ - a1 : Nat) : Int)) rfl rfl (wsi (by omega) (by omega)) rfl (zC rfl (zC rfl (yJ (c := ((b1 - m12_ : Nat) : Int)) rfl rfl (wsi (by omega) (by omega)) rfl (zH rfl (zH rfl (zA (zB (zC rfl (xi (c := (((b1 - a1) / 8 : Nat) : Int)) rfl rfl (by decide) (qui (b := 8) (by omega)) rfl (zH rfl (zA (zB ?_))))))))))))
      refine zC rfl (zC rfl (z9 rfl rfl rfl (zA (zV rfl (fun c8 => ?_) (fun c8 => ?_)))))
      ·
       refine zB (zC rfl (zC rfl (yU rfl rfl rfl (zH rfl (zA (zB (zC rfl (zC rfl (zC rfl (zC rfl (zQ rfl rfl (fun w' hw => (ih v l'11_ a1 m12_ lim2 w' (by first | omega | (simp <;> omega)) (by first | omega | (simp <;> omega)) (by first | omega | (simp <;> omega)) (by first | assumption | omega | (simp <;> omega) | (constructor <;> (first | omega | (simp only [z6]; omega) | (simp <;> omega)))) ((hP3.keep hf20_4 (by omega)).sub (by omega)) (hw.give [0] rfl (by decide))).mono ?_))))))))))))
       rintro _ w1 ⟨l'14_, rfl, hf26_4, hf26_4_1, hO⟩
       refine (?_ : CL _ _ _ _ _ _ (Own w S [Res.vec 32 1 v l'14_.length (l'14_.flatMap U1)])) w1 (hw.frameL [0] rfl hO)
       refine zA (zY (zC rfl (zn rfl rfl (zh (by omega)) rfl (zH rfl ?_))))
       exact zd (fun w' hw => ⟨m12_ + 1, b1, lim2, l'14_, _, al13_, ⟨rfl, rfl, rfl, rfl, rfl, rfl, trivial⟩, ⟨⟨⟨by omega, by omega⟩, hab.2⟩, (hS3.trans (hf20_4.wide hab.1.1 hab.2)).trans (hf26_4.wide (by omega) (by omega)), (hF3.keep hf20_4 hab.1 hab.2 (by omega)).left hf20_4_2 hf26_4 hf26_4_1 ⟨by omega, by omega⟩ (by omega) hab.2 (by rw [hf20_4.len]; omega), hf20_4_2.right.far hf26_4 (.inl (Nat.le_refl _))⟩, hw, (by omega)⟩)
      ·
       refine zB (zC rfl (zC rfl (yU rfl rfl rfl (zH rfl (zA (zB (zC rfl (zC rfl (zn rfl rfl (zh (by omega)) rfl (zC rfl (zC rfl (zQ rfl rfl (fun w' hw => ?_)))))))))))))
       refine (ih v l'11_ (m12_ + 1) b1 lim2 w' (by first | omega | (simp <;> omega)) (by first | omega | (simp <;> omega)) (by first | omega | (simp <;> omega)) (by first | assumption | omega | (simp <;> omega) | (constructor <;> (first | omega | (simp only [z6]; omega) | (simp <;> omega)))) hf20_4_2.right (hw.give [0] rfl (by decide))).mono ?_
       rintro _ w1 ⟨l'15_, rfl, hf29_5, hf29_5_1, hO⟩
       refine (?_ : CL _ _ _ _ _ _ (Own w S [Res.vec 32 1 v l'15_.length (l'15_.flatMap U1)])) w1 (hw.frameL [0] rfl hO)
       refine zA (zY (zC rfl (zH rfl ?_)))
       exact zd (fun w' hw => ⟨a1, m12_, lim2, l'15_, _, al13_, ⟨rfl, rfl, rfl, rfl, rfl, rfl, trivial⟩, ⟨⟨⟨by omega, by omega⟩, by omega⟩, (hS3.trans (hf20_4.wide hab.1.1 hab.2)).trans (hf29_5.wide (by omega) (by omega)), (hF3.keep hf20_4 hab.1 hab.2 (by omega)).right hf20_4_2 hf29_5 hf29_5_1 ⟨by omega, by omega⟩ (by omega) hab.2 (by rw [hf20_4.len]; omega), ((hP3.keep hf20_4 (by omega)).sub (by omega)).far hf29_5 (.inr (by omega))⟩, hw, (by omega)⟩)
    ·
     refine zj 3 rfl rfl (gF g17_2) rfl hS (zj 4 rfl rfl (gF g17_2) rfl hS (zj 5 rfl rfl (gF g17_2) rfl hS (zj 6 rfl rfl (gF g17_2) rfl hS (zj 7 rfl rfl (gF g17_2) rfl hS (zj 8 rfl rfl (gF g17_2) rfl hS (zj 9 rfl rfl (gF g17_2) rfl hS (zj 10 rfl rfl (gF g17_2) rfl hS (zj 11 rfl rfl (gF g17_2) rfl hS (zj 12 rfl rfl (gF g17_2) rfl hS (zj 13 rfl rfl (gF g17_2) rfl hS (zD 14 rfl (xr (gF g17_2)) hS (zM ?_))))))))))))
     refine (?_ : C _ _ _ _ _ _ _ (Own w S [Res.vec 32 1 v q3.length (q3.flatMap U1)])) _ hw
     refine xt rfl (zJ (zB (zC rfl (zC rfl (zC rfl (zC rfl (zQ rfl rfl (fun w' hw => (zHk v q3 a1 b1 p1 w' (by first | omega | (simp <;> omega)) (by first | omega | (simp <;> omega)) (by first | assumption | omega | (simp <;> omega) | (constructor <;> (first | omega | (simp only [z6]; omega) | (simp <;> omega)))) (hw.give [0] rfl (by decide))).mono ?_))))))))
     rintro _ w1 ⟨l'16_, m17_, al18_, rfl, hf20_4, hf20_4_1, hf20_4_2, hO⟩
     have hlq := hf20_4.len
     refine (?_ : CL _ _ _ _ _ _ (Own w S [Res.vec 32 1 v l'16_.length (l'16_.flatMap U1)])) w1 (hw.frameL [0] rfl hO)
     refine zC rfl (zr (vs := [Vj m17_, .bool al18_]) rfl rfl rfl (zr (vs := [Vj m17_, .bool al18_]) rfl rfl rfl (zH rfl (zH rfl (zA (zB (zC rfl (zH rfl (zA (zB (zC rfl (zC rfl ?_))))))))))))
     refine yJ (c := ((m17_ - a1 : Nat) : Int)) rfl rfl (wsi (by omega) (by omega)) rfl (zC rfl (zC rfl (yJ (c := ((b1 - m17_ : Nat) : Int)) rfl rfl (wsi (by omega) (by omega)) rfl (zH rfl (zH rfl (zA (zB (zC rfl (xi (c := (((b1 - a1) / 8 : Nat) : Int)) rfl rfl (by decide) (qui (b := 8) (by omega)) rfl (zH rfl (zA (zB ?_))))))))))))
     refine zC rfl (zC rfl (z9 rfl rfl rfl (zA (zV rfl (fun c10 => ?_) (fun c10 => ?_)))))
     ·
      refine zB (zC rfl (zC rfl (yU rfl rfl rfl (zH rfl (zA (zB (zC rfl (zC rfl (zC rfl (zC rfl (zQ rfl rfl (fun w' hw => (ih v l'16_ a1 m17_ lim2 w' (by first | omega | (simp <;> omega)) (by first | omega | (simp <;> omega)) (by first | omega | (simp <;> omega)) (by first | assumption | omega | (simp <;> omega) | (constructor <;> (first | omega | (simp only [z6]; omega) | (simp <;> omega)))) ((hP3.keep hf20_4 (by omega)).sub (by omega)) (hw.give [0] rfl (by decide))).mono ?_))))))))))))
      rintro _ w1 ⟨l'19_, rfl, hf26_4, hf26_4_1, hO⟩
      refine (?_ : CL _ _ _ _ _ _ (Own w S [Res.vec 32 1 v l'19_.length (l'19_.flatMap U1)])) w1 (hw.frameL [0] rfl hO)
      refine zA (zY (zC rfl (zn rfl rfl (zh (by omega)) rfl (zH rfl ?_))))
      exact zd (fun w' hw => ⟨m17_ + 1, b1, lim2, l'19_, _, al18_, ⟨rfl, rfl, rfl, rfl, rfl, rfl, trivial⟩, ⟨⟨⟨by omega, by omega⟩, hab.2⟩, (hS3.trans (hf20_4.wide hab.1.1 hab.2)).trans (hf26_4.wide (by omega) (by omega)), (hF3.keep hf20_4 hab.1 hab.2 (by omega)).left hf20_4_2 hf26_4 hf26_4_1 ⟨by omega, by omega⟩ (by omega) hab.2 (by rw [hf20_4.len]; omega), hf20_4_2.right.far hf26_4 (.inl (Nat.le_refl _))⟩, hw, (by omega)⟩)
     ·
      refine zB (zC rfl (zC rfl (yU rfl rfl rfl (zH rfl (zA (zB (zC rfl (zC rfl (zn rfl rfl (zh (by omega)) rfl (zC rfl (zC rfl (zQ rfl rfl (fun w' hw => ?_)))))))))))))
      refine (ih v l'16_ (m17_ + 1) b1 lim2 w' (by first | omega | (simp <;> omega)) (by first | omega | (simp <;> omega)) (by first | omega | (simp <;> omega)) (by first | assumption | omega | (simp <;> omega) | (constructor <;> (first | omega | (simp only [z6]; omega) | (simp <;> omega)))) hf20_4_2.right (hw.give [0] rfl (by decide))).mono ?_
      rintro _ w1 ⟨l'20_, rfl, hf29_5, hf29_5_1, hO⟩
      refine (?_ : CL _ _ _ _ _ _ (Own w S [Res.vec 32 1 v l'20_.length (l'20_.flatMap U1)])) w1 (hw.frameL [0] rfl hO)
      refine zA (zY (zC rfl (zH rfl ?_)))
      exact zd (fun w' hw => ⟨a1, m17_, lim2, l'20_, _, al18_, ⟨rfl, rfl, rfl, rfl, rfl, rfl, trivial⟩, ⟨⟨⟨by omega, by omega⟩, by omega⟩, (hS3.trans (hf20_4.wide hab.1.1 hab.2)).trans (hf29_5.wide (by omega) (by omega)), (hF3.keep hf20_4 hab.1 hab.2 (by omega)).right hf20_4_2 hf29_5 hf29_5_1 ⟨by omega, by omega⟩ (by omega) hab.2 (by rw [hf20_4.len]; omega), ((hP3.keep hf20_4 (by omega)).sub (by omega)).far hf29_5 (.inr (by omega))⟩, hw, (by omega)⟩)
theorem zHW : ∀ n : Nat, zGt n
  | 0 => fun v l a b lim w hn => absurd hn (Nat.not_lt_zero _)
  | n + 1 => fun v l a b lim w hn ha hb hl hpr hin => zKA n (zHW n) v l a b lim w hn ha hb hl hpr hin
theorem zKy (v : Value) (l : List Nat) (a b : Nat) (lim : Int) (w : World) (ha : a ≤ b) (hb : b ≤ l.length) (hl : z6 l.length) (hpr : Pred a b l) (hin : Own w (x6 [Res.vec 32 1 v l.length (l.flatMap U1)]) [Res.vec 32 1 v l.length (l.flatMap U1)] w) : Rets Tryz.prog 66 #[v, Vj a, Vj b, Vi lim] w fun u_ w' => ∃ (l' : List Nat), u_ = .tuple #[] ∧ Same a b l l' ∧ Up a b l' ∧ Own w (x6 [Res.vec 32 1 v l.length (l.flatMap U1)]) [Res.vec 32 1 v l'.length (l'.flatMap U1)] w' := by
  exact zHW (b - a + 1) v l a b lim w (Nat.lt_succ_self _) ha hb hl hpr hin
theorem zKI {S : List Nat} (v : Value) (l : List Nat) (w : World) (hl : z6 l.length) (hin : Own w S [Res.vec 32 1 v l.length (l.flatMap U1)] w) : Rets Tryz.prog 52 #[v] w fun u_ w' => ∃ (l' : List Nat), u_ = .tuple #[] ∧ l'.Perm l ∧ l'.Pairwise (fun x y => xy x y) ∧ Own w S [Res.vec 32 1 v l'.length (l'.flatMap U1)] w' := by
  refine ze Tryz.func52 rfl Tryz.ntmps52 hin ?_
  refine zB (zC rfl (yY (pV 0 rfl) rfl rfl (zH rfl (zA (zY (zC rfl (zC rfl (zC rfl (yp (by kernel_rfl) rfl (zAt (by omega)) rfl ?_ (by kernel_rfl))))))))))
  refine zQ rfl rfl (fun w' hw => (zJN l.length w' (by first | omega | (simp <;> omega))).mono ?_)
  rintro _ w1 ⟨rfl, hO⟩
  refine (?_ : CL _ _ _ _ _ _ (Own w S [Res.vec 32 1 v l.length (l.flatMap U1)])) w1 (hw.frame0 hO)
  refine zQ rfl rfl (fun w' hw => (zKy v l 0 l.length (((zi l.length) : Nat) : Int) w' (by first | omega | (simp <;> omega)) (by first | omega | (simp <;> omega)) (by first | assumption | omega | (simp <;> omega) | (constructor <;> (first | omega | (simp only [z6]; omega) | (simp <;> omega)))) (.inl rfl) (hw.give [0] rfl (by decide))).mono ?_)
  rintro _ w1 ⟨l'1_, rfl, hf1_5, hf1_5_1, hO⟩
  refine (?_ : CL _ _ _ _ _ _ (Own w S [Res.vec 32 1 v l'1_.length (l'1_.flatMap U1)])) w1 (hw.frameL [0] rfl hO)
  exact zd (j8 rfl (fun w' hw => ⟨l'1_, rfl, hf1_5.perm, zDR hf1_5 hf1_5_1, hw⟩))
end Go.Proofs.YtcdiehplbmkmeaaGreat
