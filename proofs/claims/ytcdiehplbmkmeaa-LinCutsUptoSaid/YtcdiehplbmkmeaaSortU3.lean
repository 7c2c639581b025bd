import Derived.Test.YtcdiehplbmkmeaaSortU
set_option linter.unusedSectionVars false
set_option linter.unusedSimpArgs false
set_option linter.unusedVariables false
set_option maxRecDepth 10000
namespace Go.Proofs.Ytcdiehplbmkmeaa
open Go Go.Sc Go.Proofs
theorem zE3 {S : List Nat} (v : Value) (l : List Nat) (a b : Nat) (w : World) (ha : a < b) (hb : b ≤ l.length) (hl : zx l.length) (hpr : Pred a b l) (hin : Own w S [Res.vec 28 1 v l.length (l.flatMap U1)] w) : Rets Try.prog 51 #[v, Vj a, Vj b] w fun u_ w' => ∃ (l' : List Nat) (r : Bool), u_ = .bool r ∧ Same a b l l' ∧ (r = true → Up a b l') ∧ Own w S [Res.vec 28 1 v l'.length (l'.flatMap U1)] w' := by
  refine zh Try.func51 rfl Try.ntmps51 hin ?_
  refine zB (zH rfl (zA (zB (zC rfl (zw rfl rfl (zt (by omega)) rfl (zH rfl (zA (zM (zB (zH rfl (zA (zS ?_))))))))))))
  refine kh (fun (j i : Nat) (q : List Nat) => [(0, v), (1, Vj a), (2, Vj b), (7, Vj i), (8, Vj j)]) (fun (j i : Nat) (q : List Nat) => ((a + 1 ≤ i ∧ i ≤ b) ∧ j ≤ 5) ∧ Same a b l q ∧ Up a i q) (fun (j i : Nat) (q : List Nat) => [Res.vec 28 1 v q.length (q.flatMap U1)]) (fun (j i : Nat) (q : List Nat) => 5 - j) (fun w' hw => ⟨0, a + 1, l, ⟨rfl, rfl, rfl, rfl, rfl, trivial⟩, ⟨⟨⟨by omega, by omega⟩, by omega⟩, Same.refl _ _ _, Up.one (by omega)⟩, hw⟩) (fun j i q g hΦ => ?_)
  have hi1 := hΦ.1
  have hS1 := hΦ.2.1
  have hU1 := hΦ.2.2
  have hq1 := hS1.len
  refine zM (zB (zC rfl (yO rfl rfl rfl (zA (zU rfl (fun c1 => ?_) (fun c1 => ?_))))))
  ·
   refine zL (zM (zS (yJ (fun (i2 : Nat) => [(0, v), (1, Vj a), (2, Vj b), (7, Vj i2), (8, Vj j)]) (fun (i2 : Nat) => (a + 1 ≤ i2 ∧ i2 ≤ b) ∧ Up a i2 q) (fun (i2 : Nat) => [Res.vec 28 1 v q.length (q.flatMap U1)]) ?_ (fun i2 g hΦ => ?_))))
   ·
    refine zS ?_
    refine xL (fun (i2 : Nat) => [(0, v), (1, Vj a), (2, Vj b), (7, Vj i2), (8, Vj j)]) (fun (i2 : Nat) => (a + 1 ≤ i2 ∧ i2 ≤ b) ∧ Up a i2 q) (fun (i2 : Nat) => [Res.vec 28 1 v q.length (q.flatMap U1)]) (fun (i2 : Nat) => b - i2) (fun w' hw => ⟨i, ⟨rfl, rfl, rfl, rfl, rfl, trivial⟩, ⟨⟨by omega, by omega⟩, hU1⟩, hw⟩) (fun i2 g hΦ => ?_)
    have hi2 := hΦ.1
    have hU2 := hΦ.2
    refine zM (zM (zX [0] rfl (by decide) (by kernel_rfl) (fun w' hw hS => zE 0 rfl (zJ) hS (zE 1 rfl (zJ) hS (zE 2 rfl (zEL rfl rfl) hS (zE 3 rfl (zJ) hS ?_))))))
    by_cases g5_3 : ((i2 : Nat) : Int) < ((b : Nat) : Int)
    ·
     refine zj 4 rfl rfl (gT g5_3) (zJ) hS (zj 5 rfl rfl (gT g5_3) (zJ) hS (zj 6 rfl rfl (gT g5_3) (z7 (pV 0 rfl) 1 i2 rfl rfl rfl (by omega)) hS (zj 7 rfl rfl (gT g5_3) (yQ (pV 0 rfl) 1 i2 0 (fun _ => rfl) rfl rfl (by omega) rfl) hS (zj 8 rfl rfl (gT g5_3) (zJ) hS (zj 9 rfl rfl (gT g5_3) (zJ) hS (zj 10 rfl rfl (gT g5_3) (kU (c := ((i2 - 1 : Nat) : Int)) rfl rfl (xV (by omega) (by omega))) hS (zj 11 rfl rfl (gT g5_3) (z7 (pV 0 rfl) 1 (i2 - 1) rfl rfl rfl (by omega)) hS (zj 12 rfl rfl (gT g5_3) (yQ (pV 0 rfl) 1 (i2 - 1) 0 (fun _ => rfl) rfl rfl (by omega) rfl) hS (zZ 13 rfl hw (zV rfl (gT g5_3) (zQ rfl rfl (fun w' hw => (xM (zG q i2) (zG q (i2 - 1)) w').mono ?_))))))))))))
     rintro _ w1 ⟨rfl, hO⟩
     refine (?_ : CL _ _ _ _ _ _ (Own w S [Res.vec 28 1 v q.length (q.flatMap U1)])) w1 (hw.frame0 hO)
     refine zF [0] rfl (by decide) (fun w' hw hS => zj 14 rfl rfl (gT g5_3) (kz (q := olt (zG q i2) (zG q (i2 - 1))) rfl) hS (zE 15 rfl (xe (gT g5_3)) hS (zK ?_)))
     refine (?_ : C _ _ _ _ _ _ _ (Own w S [Res.vec 28 1 v q.length (q.flatMap U1)])) _ hw
     refine zU rfl (fun c2 => ?_) (fun c2 => ?_)
     ·
      refine zL (zS (zg (zC rfl (zw rfl rfl (zt (by omega)) rfl (zH rfl ?_)))))
      exact zf (fun w' hw => ⟨i2 + 1, ⟨rfl, rfl, rfl, rfl, rfl, trivial⟩, ⟨⟨by omega, by omega⟩, hU2.step c2⟩, hw, (by omega)⟩)
     ·
      exact yU rfl (fun w' hw => ⟨i2, ⟨rfl, rfl, rfl, rfl, rfl, trivial⟩, ⟨hi2, hU2⟩, hw⟩)
    ·
     refine ze 4 rfl rfl (gF g5_3) rfl hS (ze 5 rfl rfl (gF g5_3) rfl hS (ze 6 rfl rfl (gF g5_3) rfl hS (ze 7 rfl rfl (gF g5_3) rfl hS (ze 8 rfl rfl (gF g5_3) rfl hS (ze 9 rfl rfl (gF g5_3) rfl hS (ze 10 rfl rfl (gF g5_3) rfl hS (ze 11 rfl rfl (gF g5_3) rfl hS (ze 12 rfl rfl (gF g5_3) rfl hS (ze 13 rfl rfl (gF g5_3) rfl hS (ze 14 rfl rfl (gF g5_3) rfl hS (zE 15 rfl (xg (gF g5_3)) hS (zK ?_))))))))))))
     refine (?_ : C _ _ _ _ _ _ _ (Own w S [Res.vec 28 1 v q.length (q.flatMap U1)])) _ hw
     refine xm rfl ?_
     exact yU rfl (fun w' hw => ⟨i2, ⟨rfl, rfl, rfl, rfl, rfl, trivial⟩, ⟨hi2, hU2⟩, hw⟩)
   have hi3 := hΦ.1
   have hU3 := hΦ.2
   refine zM (zB (zC rfl (zC rfl (yr rfl rfl rfl (zA (zU rfl (fun c4 => ?_) (fun c4 => ?_)))))))
   ·
    refine zB (zH rfl (zA ?_))
    exact zR (z3 (v := .bool true) rfl rfl (fun w' hw => ⟨q, true, rfl, hS1, (fun _ => by rw [show b = i2 by omega]; exact hU3), hw⟩))
   ·
    refine zL (zM (zB (zC rfl (zC rfl (z9 rfl rfl (zt (by omega)) rfl (yO rfl rfl rfl (zA (zU rfl (fun c5 => ?_) (fun c5 => ?_)))))))))
    ·
     refine zB (zH rfl (zA ?_))
     exact zR (z3 (v := .bool false) rfl rfl (fun w' hw => ⟨q, false, rfl, hS1, (fun h => by cases h), hw⟩))
    ·
     refine zL (yJ (fun (n : List Nat) => [(0, v), (1, Vj a), (2, Vj b), (7, Vj i2), (8, Vj j)]) (fun (n : List Nat) => n = z8 q i2 (i2 - 1)) (fun (n : List Nat) => [Res.vec 28 1 v n.length (n.flatMap U1)]) ?_ (fun n g hΦ => ?_))
     ·
      refine zX [] rfl (by decide) (by kernel_rfl) (fun w' hw hS => zE 0 rfl (zJ) hS (zE 1 rfl (zJ) hS (zE 2 rfl (zJ) hS (zE 3 rfl (zJ) hS (zE 4 rfl (kU (c := ((i2 - 1 : Nat) : Int)) rfl rfl (xV (by omega) (by omega))) hS (zE 5 rfl (zJ) hS (zE 6 rfl (zJ) hS (zE 7 rfl (kU (c := ((i2 - 1 : Nat) : Int)) rfl rfl (xV (by omega) (by omega))) hS (zE 10 rfl (zJ) hS (zE 11 rfl (zJ) hS (zT 8 12 ?_ ?_)))))))))))
      ·
       refine zP 8 rfl hw (zD (pV 0 rfl) 1 (i2 - 1) rfl rfl rfl (by omega) rfl (zF [] rfl (by decide) (fun w' hw hS => zT 9 12 ?_ ?_)))
       ·
        refine zP 9 rfl hw (zN (pV 0 rfl) 1 (i2 - 1) 0 (fun _ => rfl) rfl rfl (by omega) rfl rfl (zI 12 rfl (zD (pV 0 rfl) 1 i2 rfl rfl rfl (by omega) rfl (zI 13 rfl (zN (pV 0 rfl) 1 i2 0 (fun _ => rfl) rfl rfl (by omega) rfl rfl (zI 14 rfl (zD (pV 0 rfl) 1 i2 rfl rfl rfl (by omega) rfl (zI 15 rfl ?_))))))))
        refine zO 0 i2 (zG q (i2 - 1)) rfl (fun _ => rfl) rfl (by omega) rfl rfl rfl (by omega) (zI 16 rfl (zD (pV 0 rfl) 1 (i2 - 1) rfl rfl rfl (by simp only [List.length_set]; omega) rfl (zI 17 rfl (zO 0 (i2 - 1) (zG q i2) rfl (fun _ => rfl) rfl (by omega) rfl rfl rfl (by simp only [List.length_set]; omega) (zF [] rfl (by decide) (fun w' hw hS => zK ?_))))))
        exact ⟨z8 q i2 (i2 - 1), ⟨rfl, rfl, rfl, rfl, rfl, trivial⟩, rfl, hw⟩
       ·
        refine zP 12 rfl hw (zD (pV 0 rfl) 1 i2 rfl rfl rfl (by omega) rfl (zF [] rfl (by decide) (fun w' hw hS => zT 9 13 ?_ ?_)))
        ·
         refine zP 9 rfl hw (zN (pV 0 rfl) 1 (i2 - 1) 0 (fun _ => rfl) rfl rfl (by omega) rfl rfl (zI 13 rfl (zN (pV 0 rfl) 1 i2 0 (fun _ => rfl) rfl rfl (by omega) rfl rfl (zI 14 rfl (zD (pV 0 rfl) 1 i2 rfl rfl rfl (by omega) rfl (zI 15 rfl (zO 0 i2 (zG q (i2 - 1)) rfl (fun _ => rfl) rfl (by omega) rfl rfl rfl (by omega) (zI 16 rfl ?_))))))))
         refine zD (pV 0 rfl) 1 (i2 - 1) rfl rfl rfl (by simp only [List.length_set]; omega) rfl (zI 17 rfl (zO 0 (i2 - 1) (zG q i2) rfl (fun _ => rfl) rfl (by omega) rfl rfl rfl (by simp only [List.length_set]; omega) (zF [] rfl (by decide) (fun w' hw hS => zK ?_))))
         exact ⟨z8 q i2 (i2 - 1), ⟨rfl, rfl, rfl, rfl, rfl, trivial⟩, rfl, hw⟩
        ·
         refine zP 13 rfl hw (zN (pV 0 rfl) 1 i2 0 (fun _ => rfl) rfl rfl (by omega) rfl rfl (zI 9 rfl (zN (pV 0 rfl) 1 (i2 - 1) 0 (fun _ => rfl) rfl rfl (by omega) rfl rfl (zI 14 rfl (zD (pV 0 rfl) 1 i2 rfl rfl rfl (by omega) rfl (zI 15 rfl (zO 0 i2 (zG q (i2 - 1)) rfl (fun _ => rfl) rfl (by omega) rfl rfl rfl (by omega) (zI 16 rfl ?_))))))))
         refine zD (pV 0 rfl) 1 (i2 - 1) rfl rfl rfl (by simp only [List.length_set]; omega) rfl (zI 17 rfl (zO 0 (i2 - 1) (zG q i2) rfl (fun _ => rfl) rfl (by omega) rfl rfl rfl (by simp only [List.length_set]; omega) (zF [] rfl (by decide) (fun w' hw hS => zK ?_))))
         exact ⟨z8 q i2 (i2 - 1), ⟨rfl, rfl, rfl, rfl, rfl, trivial⟩, rfl, hw⟩
      ·
       refine zP 12 rfl hw (zD (pV 0 rfl) 1 i2 rfl rfl rfl (by omega) rfl (zF [] rfl (by decide) (fun w' hw hS => zT 8 13 ?_ ?_)))
       ·
        refine zP 8 rfl hw (zD (pV 0 rfl) 1 (i2 - 1) rfl rfl rfl (by omega) rfl (zF [] rfl (by decide) (fun w' hw hS => zT 9 13 ?_ ?_)))
        ·
         refine zP 9 rfl hw (zN (pV 0 rfl) 1 (i2 - 1) 0 (fun _ => rfl) rfl rfl (by omega) rfl rfl (zI 13 rfl (zN (pV 0 rfl) 1 i2 0 (fun _ => rfl) rfl rfl (by omega) rfl rfl (zI 14 rfl (zD (pV 0 rfl) 1 i2 rfl rfl rfl (by omega) rfl (zI 15 rfl (zO 0 i2 (zG q (i2 - 1)) rfl (fun _ => rfl) rfl (by omega) rfl rfl rfl (by omega) (zI 16 rfl ?_))))))))
         refine zD (pV 0 rfl) 1 (i2 - 1) rfl rfl rfl (by simp only [List.length_set]; omega) rfl (zI 17 rfl (zO 0 (i2 - 1) (zG q i2) rfl (fun _ => rfl) rfl (by omega) rfl rfl rfl (by simp only [List.length_set]; omega) (zF [] rfl (by decide) (fun w' hw hS => zK ?_))))
         exact ⟨z8 q i2 (i2 - 1), ⟨rfl, rfl, rfl, rfl, rfl, trivial⟩, rfl, hw⟩
        ·
         refine zP 13 rfl hw (zN (pV 0 rfl) 1 i2 0 (fun _ => rfl) rfl rfl (by omega) rfl rfl (zI 9 rfl (zN (pV 0 rfl) 1 (i2 - 1) 0 (fun _ => rfl) rfl rfl (by omega) rfl rfl (zI 14 rfl (zD (pV 0 rfl) 1 i2 rfl rfl rfl (by omega) rfl (zI 15 rfl (zO 0 i2 (zG q (i2 - 1)) rfl (fun _ => rfl) rfl (by omega) rfl rfl rfl (by omega) (zI 16 rfl ?_))))))))
         refine zD (pV 0 rfl) 1 (i2 - 1) rfl rfl rfl (by simp only [List.length_set]; omega) rfl (zI 17 rfl (zO 0 (i2 - 1) (zG q i2) rfl (fun _ => rfl) rfl (by omega) rfl rfl rfl (by simp only [List.length_set]; omega) (zF [] rfl (by decide) (fun w' hw hS => zK ?_))))
         exact ⟨z8 q i2 (i2 - 1), ⟨rfl, rfl, rfl, rfl, rfl, trivial⟩, rfl, hw⟩
       ·
        refine zP 13 rfl hw (zN (pV 0 rfl) 1 i2 0 (fun _ => rfl) rfl rfl (by omega) rfl rfl (zI 8 rfl (zD (pV 0 rfl) 1 (i2 - 1) rfl rfl rfl (by omega) rfl (zI 9 rfl (zN (pV 0 rfl) 1 (i2 - 1) 0 (fun _ => rfl) rfl rfl (by omega) rfl rfl (zI 14 rfl (zD (pV 0 rfl) 1 i2 rfl rfl rfl (by omega) rfl (zI 15 rfl ?_))))))))
        refine zO 0 i2 (zG q (i2 - 1)) rfl (fun _ => rfl) rfl (by omega) rfl rfl rfl (by omega) (zI 16 rfl (zD (pV 0 rfl) 1 (i2 - 1) rfl rfl rfl (by simp only [List.length_set]; omega) rfl (zI 17 rfl (zO 0 (i2 - 1) (zG q i2) rfl (fun _ => rfl) rfl (by omega) rfl rfl rfl (by simp only [List.length_set]; omega) (zF [] rfl (by decide) (fun w' hw hS => zK ?_))))))
        exact ⟨z8 q i2 (i2 - 1), ⟨rfl, rfl, rfl, rfl, rfl, trivial⟩, rfl, hw⟩
     have hn := hΦ
     have hSn : Same a b l n := by rw [hn]; exact hS1.then_swp ⟨by omega, by omega⟩ ⟨by omega, by omega⟩ hb
     have hnl := hSn.len
     have hUn : Up a (i2 - 1) n := by rw [hn]; exact (hU3.less (by omega)).keep (Same.ex (a := i2 - 1) (b := i2 + 1) ⟨by omega, by omega⟩ ⟨by omega, by omega⟩ (by omega)) (.inl (by omega))
     refine yJ (fun (r : List Nat) => [(0, v), (1, Vj a), (2, Vj b), (7, Vj i2), (8, Vj j)]) (fun (r : List Nat) => Same a b l r ∧ Up a i2 r) (fun (r : List Nat) => [Res.vec 28 1 v r.length (r.flatMap U1)]) ?_ (fun r g hΦ => ?_)
     ·
      refine zB (zC rfl (zC rfl (z9 (c := ((i2 - a : Nat) : Int)) rfl rfl (wsi (by omega) (by omega)) rfl (yY rfl rfl rfl (zA (zU rfl (fun c6 => ?_) (fun c6 => ?_)))))))
      ·
       refine zB (zC rfl (z9 (c := ((i2 - 1 : Nat) : Int)) rfl rfl (xV (by omega) (by omega)) rfl (zH rfl (zA (zS ?_)))))
       refine y4 (fun (j3 : Nat) (r : List Nat) => [(0, v), (1, Vj a), (2, Vj b), (7, Vj i2), (8, Vj j), (9, Vj j3)]) (fun (j3 : Nat) (r : List Nat) => (a ≤ j3 ∧ j3 ≤ i2 - 1) ∧ Same a b l r ∧ Ins a (i2 - 1) j3 r) (fun (j3 : Nat) (r : List Nat) => [Res.vec 28 1 v r.length (r.flatMap U1)]) (fun (j3 : Nat) (r : List Nat) => j3) (fun w' hw => ⟨i2 - 1, n, ⟨rfl, rfl, rfl, rfl, rfl, rfl, trivial⟩, ⟨⟨by omega, by omega⟩, hSn, Ins.start hUn⟩, hw⟩) (fun j3 r g hΦ => ?_)
       have hj3 := hΦ.1
       have hS3 := hΦ.2.1
       have hI3 := hΦ.2.2
       have hl3 := hS3.len
       have hp3 := hpr.keep hS3 hb
       refine zM (zB (zC rfl (yY rfl rfl rfl (zA (zU rfl (fun c7 => ?_) (fun c7 => ?_))))))
       ·
        refine zL (yJ (fun (m : List Nat) => [(0, v), (1, Vj a), (2, Vj b), (7, Vj i2), (8, Vj j), (9, Vj j3)]) (fun (m : List Nat) => m = z8 r j3 (j3 - 1) ∧ a < j3 ∧ olt (zG r j3) (zG r (j3 - 1))) (fun (m : List Nat) => [Res.vec 28 1 v m.length (m.flatMap U1)]) ?_ (fun m g hΦ => ?_))
        ·
         refine zS (zM (zM (zX [0] rfl (by decide) (by kernel_rfl) (fun w' hw hS => zE 0 rfl (zJ) hS (zE 1 rfl (zJ) hS (zE 2 rfl (z7 (pV 0 rfl) 1 j3 rfl rfl rfl (by omega)) hS (zE 3 rfl (yQ (pV 0 rfl) 1 j3 0 (fun _ => rfl) rfl rfl (by omega) rfl) hS (zE 4 rfl (zJ) hS (zE 5 rfl (zJ) hS (zE 6 rfl (kU (c := ((j3 - 1 : Nat) : Int)) rfl rfl (xV (by omega) (by omega))) hS (zE 7 rfl (z7 (pV 0 rfl) 1 (j3 - 1) rfl rfl rfl (by omega)) hS (zE 8 rfl (yQ (pV 0 rfl) 1 (j3 - 1) 0 (fun _ => rfl) rfl rfl (by omega) rfl) hS ?_))))))))))))
         refine zZ 9 rfl hw (zQ rfl rfl (fun w' hw => (xM (zG r j3) (zG r (j3 - 1)) w').mono ?_))
         rintro _ w1 ⟨rfl, hO⟩
         refine (?_ : CL _ _ _ _ _ _ (Own w S [Res.vec 28 1 v r.length (r.flatMap U1)])) w1 (hw.frame0 hO)
         refine zF [0] rfl (by decide) (fun w' hw hS => zE 10 rfl (kz (q := olt (zG r j3) (zG r (j3 - 1))) rfl) hS (zK ?_))
         refine (?_ : C _ _ _ _ _ _ _ (Own w S [Res.vec 28 1 v r.length (r.flatMap U1)])) _ hw
         refine zU rfl (fun c8 => ?_) (fun c8 => ?_)
         ·
          exact yU rfl (fun w' hw => ⟨r, ⟨rfl, rfl, rfl, rfl, rfl, trivial⟩, ⟨hS3, (by have h := hI3.done (fun _ => c8); rwa [show i2 - 1 + 1 = i2 by omega] at h)⟩, hw⟩)
         ·
          have c7' := Decidable.not_not.1 c8
          have haj : a < j3 := (by rcases Nat.lt_or_ge a j3 with h | h; exact h; rcases hp3 with h0 | h0; omega; have h1 := h0 j3 (by omega) (by omega); rw [show a - 1 = j3 - 1 by omega] at h1; exact absurd c7' h1)
          refine zL (zX [] rfl (by decide) (by kernel_rfl) (fun w' hw hS => zE 0 rfl (zJ) hS (zE 1 rfl (zJ) hS (zE 2 rfl (zJ) hS (zE 3 rfl (zJ) hS (zE 4 rfl (kU (c := ((j3 - 1 : Nat) : Int)) rfl rfl (xV (by omega) (by omega))) hS (zE 5 rfl (zJ) hS (zE 6 rfl (zJ) hS (zE 7 rfl (kU (c := ((j3 - 1 : Nat) : Int)) rfl rfl (xV (by omega) (by omega))) hS (zE 10 rfl (zJ) hS (zE 11 rfl (zJ) hS (zT 8 12 ?_ ?_))))))))))))
          ·
           refine zP 8 rfl hw (zD (pV 0 rfl) 1 (j3 - 1) rfl rfl rfl (by omega) rfl (zF [] rfl (by decide) (fun w' hw hS => zT 9 12 ?_ ?_)))
           ·
            refine zP 9 rfl hw (zN (pV 0 rfl) 1 (j3 - 1) 0 (fun _ => rfl) rfl rfl (by omega) rfl rfl (zI 12 rfl (zD (pV 0 rfl) 1 j3 rfl rfl rfl (by omega) rfl (zI 13 rfl (zN (pV 0 rfl) 1 j3 0 (fun _ => rfl) rfl rfl (by omega) rfl rfl (zI 14 rfl (zD (pV 0 rfl) 1 j3 rfl rfl rfl (by omega) rfl (zI 15 rfl ?_))))))))
            refine zO 0 j3 (zG r (j3 - 1)) rfl (fun _ => rfl) rfl (by omega) rfl rfl rfl (by omega) (zI 16 rfl (zD (pV 0 rfl) 1 (j3 - 1) rfl rfl rfl (by simp only [List.length_set]; omega) rfl (zI 17 rfl (zO 0 (j3 - 1) (zG r j3) rfl (fun _ => rfl) rfl (by omega) rfl rfl rfl (by simp only [List.length_set]; omega) (zF [] rfl (by decide) (fun w' hw hS => zK ?_))))))
            exact ⟨z8 r j3 (j3 - 1), ⟨rfl, rfl, rfl, rfl, rfl, rfl, trivial⟩, ⟨rfl, haj, c7'⟩, hw⟩
           ·
            refine zP 12 rfl hw (zD (pV 0 rfl) 1 j3 rfl rfl rfl (by omega) rfl (zF [] rfl (by decide) (fun w' hw hS => zT 9 13 ?_ ?_)))
            ·
             refine zP 9 rfl hw (zN (pV 0 rfl) 1 (j3 - 1) 0 (fun _ => rfl) rfl rfl (by omega) rfl rfl (zI 13 rfl (zN (pV 0 rfl) 1 j3 0 (fun _ => rfl) rfl rfl (by omega) rfl rfl (zI 14 rfl (zD (pV 0 rfl) 1 j3 rfl rfl rfl (by omega) rfl (zI 15 rfl (zO 0 j3 (zG r (j3 - 1)) rfl (fun _ => rfl) rfl (by omega) rfl rfl rfl (by omega) (zI 16 rfl ?_))))))))
             refine zD (pV 0 rfl) 1 (j3 - 1) rfl rfl rfl (by simp only [List.length_set]; omega) rfl (zI 17 rfl (zO 0 (j3 - 1) (zG r j3) rfl (fun _ => rfl) rfl (by omega) rfl rfl rfl (by simp only [List.length_set]; omega) (zF [] rfl (by decide) (fun w' hw hS => zK ?_))))
             exact ⟨z8 r j3 (j3 - 1), ⟨rfl, rfl, rfl, rfl, rfl, rfl, trivial⟩, ⟨rfl, haj, c7'⟩, hw⟩
            ·
             refine zP 13 rfl hw (zN (pV 0 rfl) 1 j3 0 (fun _ => rfl) rfl rfl (by omega) rfl rfl (zI 9 rfl (zN (pV 0 rfl) 1 (j3 - 1) 0 (fun _ => rfl) rfl rfl (by omega) rfl rfl (zI 14 rfl (zD (pV 0 rfl) 1 j3 rfl rfl rfl (by omega) rfl (zI 15 rfl (zO 0 j3 (zG r (j3 - 1)) rfl (fun _ => rfl) rfl (by omega) rfl rfl rfl (by omega) (zI 16 rfl ?_))))))))
             refine zD (pV 0 rfl) 1 (j3 - 1) rfl rfl rfl (by simp only [List.length_set]; omega) rfl (zI 17 rfl (zO 0 (j3 - 1) (zG r j3) rfl (fun _ => rfl) rfl (by omega) rfl rfl rfl (by simp only [List.length_set]; omega) (zF [] rfl (by decide) (fun w' hw hS => zK ?_))))
             exact ⟨z8 r j3 (j3 - 1), ⟨rfl, rfl, rfl, rfl, rfl, rfl, trivial⟩, ⟨rfl, haj, c7'⟩, hw⟩
          ·
           refine zP 12 rfl hw (zD (pV 0 rfl) 1 j3 rfl rfl rfl (by omega) rfl (zF [] rfl (by decide) (fun w' hw hS => zT 8 13 ?_ ?_)))
           ·
            refine zP 8 rfl hw (zD (pV 0 rfl) 1 (j3 - 1) rfl rfl rfl (by omega) rfl (zF [] rfl (by decide) (fun w' hw hS => zT 9 13 ?_ ?_)))
            ·
             refine zP 9 rfl hw (zN (pV 0 rfl) 1 (j3 - 1) 0 (fun _ => rfl) rfl rfl (by omega) rfl rfl (zI 13 rfl (zN (pV 0 rfl) 1 j3 0 (fun _ => rfl) rfl rfl (by omega) rfl rfl (zI 14 rfl (zD (pV 0 rfl) 1 j3 rfl rfl rfl (by omega) rfl (zI 15 rfl (zO 0 j3 (zG r (j3 - 1)) rfl (fun _ => rfl) rfl (by omega) rfl rfl rfl (by omega) (zI 16 rfl ?_))))))))
             refine zD (pV 0 rfl) 1 (j3 - 1) rfl rfl rfl (by simp only [List.length_set]; omega) rfl (zI 17 rfl (zO 0 (j3 - 1) (zG r j3) rfl (fun _ => rfl) rfl (by omega) rfl rfl rfl (by simp only [List.length_set]; omega) (zF [] rfl (by decide) (fun w' hw hS => zK ?_))))
             exact ⟨z8 r j3 (j3 - 1), ⟨rfl, rfl, rfl, rfl, rfl, rfl, trivial⟩, ⟨rfl, haj, c7'⟩, hw⟩
            ·
             refine zP 13 rfl hw (zN (pV 0 rfl) 1 j3 0 (fun _ => rfl) rfl rfl (by omega) rfl rfl (zI 9 rfl (zN (pV 0 rfl) 1 (j3 - 1) 0 (fun _ => rfl) rfl rfl (by omega) rfl rfl (zI 14 rfl (zD (pV 0 rfl) 1 j3 rfl rfl rfl (by omega) rfl (zI 15 rfl (zO 0 j3 (zG r (j3 - 1)) rfl (fun _ => rfl) rfl (by omega) rfl rfl rfl (by omega) (zI 16 rfl ?_))))))))
             refine zD (pV 0 rfl) 1 (j3 - 1) rfl rfl rfl (by simp only [List.length_set]; omega) rfl (zI 17 rfl (zO 0 (j3 - 1) (zG r j3) rfl (fun _ => rfl) rfl (by omega) rfl rfl rfl (by simp only [List.length_set]; omega) (zF [] rfl (by decide) (fun w' hw hS => zK ?_))))
             exact ⟨z8 r j3 (j3 - 1), ⟨rfl, rfl, rfl, rfl, rfl, rfl, trivial⟩, ⟨rfl, haj, c7'⟩, hw⟩
           ·
            refine zP 13 rfl hw (zN (pV 0 rfl) 1 j3 0 (fun _ => rfl) rfl rfl (by omega) rfl rfl (zI 8 rfl (zD (pV 0 rfl) 1 (j3 - 1) rfl rfl rfl (by omega) rfl (zI 9 rfl (zN (pV 0 rfl) 1 (j3 - 1) 0 (fun _ => rfl) rfl rfl (by omega) rfl rfl (zI 14 rfl (zD (pV 0 rfl) 1 j3 rfl rfl rfl (by omega) rfl (zI 15 rfl ?_))))))))
            refine zO 0 j3 (zG r (j3 - 1)) rfl (fun _ => rfl) rfl (by omega) rfl rfl rfl (by omega) (zI 16 rfl (zD (pV 0 rfl) 1 (j3 - 1) rfl rfl rfl (by simp only [List.length_set]; omega) rfl (zI 17 rfl (zO 0 (j3 - 1) (zG r j3) rfl (fun _ => rfl) rfl (by omega) rfl rfl rfl (by simp only [List.length_set]; omega) (zF [] rfl (by decide) (fun w' hw hS => zK ?_))))))
            exact ⟨z8 r j3 (j3 - 1), ⟨rfl, rfl, rfl, rfl, rfl, rfl, trivial⟩, ⟨rfl, haj, c7'⟩, hw⟩
        have hm := hΦ.1
        have haj := hΦ.2.1
        have c7' := hΦ.2.2
        refine zg (zC rfl (z9 (c := ((j3 - 1 : Nat) : Int)) rfl rfl (xV (by omega) (by omega)) rfl (zH rfl ?_)))
        exact zf (fun w' hw => ⟨j3 - 1, m, ⟨rfl, rfl, rfl, rfl, rfl, rfl, trivial⟩, ⟨⟨by omega, by omega⟩, (by rw [hm]; exact hS3.then_swp ⟨by omega, by omega⟩ ⟨by omega, by omega⟩ hb), (by rw [hm]; exact hI3.step haj (by omega) (by omega) c7')⟩, hw, (by omega)⟩)
       ·
        exact yU rfl (fun w' hw => ⟨r, ⟨rfl, rfl, rfl, rfl, rfl, trivial⟩, ⟨hS3, (by have h := hI3.done (fun h => absurd h (by omega)); rwa [show i2 - 1 + 1 = i2 by omega] at h)⟩, hw⟩)
      ·
       exact xS (fun w' hw => ⟨n, ⟨rfl, rfl, rfl, rfl, rfl, trivial⟩, ⟨hSn, Up.one (by omega)⟩, hw⟩)
     have hSr := hΦ.1
     have hUr := hΦ.2
     have hrl := hSr.len
     refine zB (zC rfl (zC rfl (z9 (c := ((b - i2 : Nat) : Int)) rfl rfl (wsi (by omega) (by omega)) rfl (yY rfl rfl rfl (zA (zU rfl (fun c9 => ?_) (fun c9 => ?_)))))))
     ·
      refine zB (zC rfl (zw rfl rfl (zt (by omega)) rfl (zH rfl (zA (zS ?_)))))
      refine y4 (fun (j4 : Nat) (r : List Nat) => [(0, v), (1, Vj a), (2, Vj b), (7, Vj i2), (8, Vj j), (10, Vj j4)]) (fun (j4 : Nat) (r : List Nat) => (i2 + 1 ≤ j4 ∧ j4 ≤ b) ∧ Same a b l r ∧ Up a i2 r) (fun (j4 : Nat) (r : List Nat) => [Res.vec 28 1 v r.length (r.flatMap U1)]) (fun (j4 : Nat) (r : List Nat) => b - j4) (fun w' hw => ⟨i2 + 1, r, ⟨rfl, rfl, rfl, rfl, rfl, rfl, trivial⟩, ⟨⟨by omega, by omega⟩, hSr, hUr⟩, hw⟩) (fun j4 r g hΦ => ?_)
      have hj4 := hΦ.1
      have hS4 := hΦ.2.1
      have hU4 := hΦ.2.2
      have hl4 := hS4.len
      refine zM (zB (zC rfl (zC rfl (yO rfl rfl rfl (zA (zU rfl (fun c10 => ?_) (fun c10 => ?_)))))))
      ·
       refine zL (yJ (fun (m : List Nat) => [(0, v), (1, Vj a), (2, Vj b), (7, Vj i2), (8, Vj j), (10, Vj j4)]) (fun (m : List Nat) => m = z8 r j4 (j4 - 1)) (fun (m : List Nat) => [Res.vec 28 1 v m.length (m.flatMap U1)]) ?_ (fun m g hΦ => ?_))
       ·
        refine zS (zM (zM (zX [0] rfl (by decide) (by kernel_rfl) (fun w' hw hS => zE 0 rfl (zJ) hS (zE 1 rfl (zJ) hS (zE 2 rfl (z7 (pV 0 rfl) 1 j4 rfl rfl rfl (by omega)) hS (zE 3 rfl (yQ (pV 0 rfl) 1 j4 0 (fun _ => rfl) rfl rfl (by omega) rfl) hS (zE 4 rfl (zJ) hS (zE 5 rfl (zJ) hS (zE 6 rfl (kU (c := ((j4 - 1 : Nat) : Int)) rfl rfl (xV (by omega) (by omega))) hS (zE 7 rfl (z7 (pV 0 rfl) 1 (j4 - 1) rfl rfl rfl (by omega)) hS (zE 8 rfl (yQ (pV 0 rfl) 1 (j4 - 1) 0 (fun _ => rfl) rfl rfl (by omega) rfl) hS ?_))))))))))))
        refine zZ 9 rfl hw (zQ rfl rfl (fun w' hw => (xM (zG r j4) (zG r (j4 - 1)) w').mono ?_))
        rintro _ w1 ⟨rfl, hO⟩
        refine (?_ : CL _ _ _ _ _ _ (Own w S [Res.vec 28 1 v r.length (r.flatMap U1)])) w1 (hw.frame0 hO)
        refine zF [0] rfl (by decide) (fun w' hw hS => zE 10 rfl (kz (q := olt (zG r j4) (zG r (j4 - 1))) rfl) hS (zK ?_))
        refine (?_ : C _ _ _ _ _ _ _ (Own w S [Res.vec 28 1 v r.length (r.flatMap U1)])) _ hw
        refine zU rfl (fun c11 => ?_) (fun c11 => ?_)
        ·
         refine yA rfl (zg (zC rfl (zw rfl rfl (zt (by omega)) rfl (zH rfl ?_))))
         exact zf (fun w' hw => ⟨j + 1, i2, r, ⟨rfl, rfl, rfl, rfl, rfl, trivial⟩, ⟨⟨⟨by omega, by omega⟩, by omega⟩, hΦ.2⟩, hw, (by omega)⟩)
        ·
         refine zL (zX [] rfl (by decide) (by kernel_rfl) (fun w' hw hS => zE 0 rfl (zJ) hS (zE 1 rfl (zJ) hS (zE 2 rfl (zJ) hS (zE 3 rfl (zJ) hS (zE 4 rfl (kU (c := ((j4 - 1 : Nat) : Int)) rfl rfl (xV (by omega) (by omega))) hS (zE 5 rfl (zJ) hS (zE 6 rfl (zJ) hS (zE 7 rfl (kU (c := ((j4 - 1 : Nat) : Int)) rfl rfl (xV (by omega) (by omega))) hS (zE 10 rfl (zJ) hS (zE 11 rfl (zJ) hS (zT 8 12 ?_ ?_))))))))))))
         ·
          refine zP 8 rfl hw (zD (pV 0 rfl) 1 (j4 - 1) rfl rfl rfl (by omega) rfl (zF [] rfl (by decide) (fun w' hw hS => zT 9 12 ?_ ?_)))
          ·
           refine zP 9 rfl hw (zN (pV 0 rfl) 1 (j4 - 1) 0 (fun _ => rfl) rfl rfl (by omega) rfl rfl (zI 12 rfl (zD (pV 0 rfl) 1 j4 rfl rfl rfl (by omega) rfl (zI 13 rfl (zN (pV 0 rfl) 1 j4 0 (fun _ => rfl) rfl rfl (by omega) rfl rfl (zI 14 rfl (zD (pV 0 rfl) 1 j4 rfl rfl rfl (by omega) rfl (zI 15 rfl ?_))))))))
           refine zO 0 j4 (zG r (j4 - 1)) rfl (fun _ => rfl) rfl (by omega) rfl rfl rfl (by omega) (zI 16 rfl (zD (pV 0 rfl) 1 (j4 - 1) rfl rfl rfl (by simp only [List.length_set]; omega) rfl (zI 17 rfl (zO 0 (j4 - 1) (zG r j4) rfl (fun _ => rfl) rfl (by omega) rfl rfl rfl (by simp only [List.length_set]; omega) (zF [] rfl (by decide) (fun w' hw hS => zK ?_))))))
           exact ⟨z8 r j4 (j4 - 1), ⟨rfl, rfl, rfl, rfl, rfl, rfl, trivial⟩, rfl, hw⟩
          ·
           refine zP 12 rfl hw (zD (pV 0 rfl) 1 j4 rfl rfl rfl (by omega) rfl (zF [] rfl (by decide) (fun w' hw hS => zT 9 13 ?_ ?_)))
           ·
            refine zP 9 rfl hw (zN (pV 0 rfl) 1 (j4 - 1) 0 (fun _ => rfl) rfl rfl (by omega) rfl rfl (zI 13 rfl (zN (pV 0 rfl) 1 j4 0 (fun _ => rfl) rfl rfl (by omega) rfl rfl (zI 14 rfl (zD (pV 0 rfl) 1 j4 rfl rfl rfl (by omega) rfl (zI 15 rfl (zO 0 j4 (zG r (j4 - 1)) rfl (fun _ => rfl) rfl (by omega) rfl rfl rfl (by omega) (zI 16 rfl ?_))))))))
            refine zD (pV 0 rfl) 1 (j4 - 1) rfl rfl rfl (by simp only [List.length_set]; omega) rfl (zI 17 rfl (zO 0 (j4 - 1) (zG r j4) rfl (fun _ => rfl) rfl (by omega) rfl rfl rfl (by simp only [List.length_set]; omega) (zF [] rfl (by decide) (fun w' hw hS => zK ?_))))
            exact ⟨z8 r j4 (j4 - 1), ⟨rfl, rfl, rfl, rfl, rfl, rfl, trivial⟩, rfl, hw⟩
           ·
            refine zP 13 rfl hw (zN (pV 0 rfl) 1 j4 0 (fun _ => rfl) rfl rfl (by omega) rfl rfl (zI 9 rfl (zN (pV 0 rfl) 1 (j4 - 1) 0 (fun _ => rfl) rfl rfl (by omega) rfl rfl (zI 14 rfl (zD (pV 0 rfl) 1 j4 rfl rfl rfl (by omega) rfl (zI 15 rfl (zO 0 j4 (zG r (j4 - 1)) rfl (fun _ => rfl) rfl (by omega) rfl rfl rfl (by omega) (zI 16 rfl ?_))))))))
            refine zD (pV 0 rfl) 1 (j4 - 1) rfl rfl rfl (by simp only [List.length_set]; omega) rfl (zI 17 rfl (zO 0 (j4 - 1) (zG r j4) rfl (fun _ => rfl) rfl (by omega) rfl rfl rfl (by simp only [List.length_set]; omega) (zF [] rfl (by decide) (fun w' hw hS => zK ?_))))
            exact ⟨z8 r j4 (j4 - 1), ⟨rfl, rfl, rfl, rfl, rfl, rfl, trivial⟩, rfl, hw⟩
         ·
          refine zP 12 rfl hw (zD (pV 0 rfl) 1 j4 rfl rfl rfl (by omega) rfl (zF [] rfl (by decide) (fun w' hw hS => zT 8 13 ?_ ?_)))
          ·
           refine zP 8 rfl hw (zD (pV 0 rfl) 1 (j4 - 1) rfl rfl rfl (by omega) rfl (zF [] rfl (by decide) (fun w' hw hS => zT 9 13 ?_ ?_)))
           ·
            refine zP 9 rfl hw (zN (pV 0 rfl) 1 (j4 - 1) 0 (fun _ => rfl) rfl rfl (by omega) rfl rfl (zI 13 rfl (zN (pV 0 rfl) 1 j4 0 (fun _ => rfl) rfl rfl (by omega) rfl rfl (zI 14 rfl (zD (pV 0 rfl) 1 j4 rfl rfl rfl (by omega) rfl (zI 15 rfl (zO 0 j4 (zG r (j4 - 1)) rfl (fun _ => rfl) rfl (by omega) rfl rfl rfl (by omega) (zI 16 rfl ?_))))))))
            refine zD (pV 0 rfl) 1 (j4 - 1) rfl rfl rfl (by simp only [List.length_set]; omega) rfl (zI 17 rfl (zO 0 (j4 - 1) (zG r j4) rfl (fun _ => rfl) rfl (by omega) rfl rfl rfl (by simp only [List.length_set]; omega) (zF [] rfl (by decide) (fun w' hw hS => zK ?_))))
            exact ⟨z8 r j4 (j4 - 1), ⟨rfl, rfl, rfl, rfl, rfl, rfl, trivial⟩, rfl, hw⟩
           ·
            refine zP 13 rfl hw (zN (pV 0 rfl) 1 j4 0 (fun _ => rfl) rfl rfl (by omega) rfl rfl (zI 9 rfl (zN (pV 0 rfl) 1 (j4 - 1) 0 (fun _ => rfl) rfl rfl (by omega) rfl rfl (zI 14 rfl (zD (pV 0 rfl) 1 j4 rfl rfl rfl (by omega) rfl (zI 15 rfl (zO 0 j4 (zG r (j4 - 1)) rfl (fun _ => rfl) rfl (by omega) rfl rfl rfl (by omega) (zI 16 rfl ?_))))))))
            refine zD (pV 0 rfl) 1 (j4 - 1) rfl rfl rfl (by simp only [List.length_set]; omega) rfl (zI 17 rfl (zO 0 (j4 - 1) (zG r j4) rfl (fun _ => rfl) rfl (by omega) rfl rfl rfl (by simp only [List.length_set]; omega) (zF [] rfl (by decide) (fun w' hw hS => zK ?_))))
            exact ⟨z8 r j4 (j4 - 1), ⟨rfl, rfl, rfl, rfl, rfl, rfl, trivial⟩, rfl, hw⟩
          ·
           refine zP 13 rfl hw (zN (pV 0 rfl) 1 j4 0 (fun _ => rfl) rfl rfl (by omega) rfl rfl (zI 8 rfl (zD (pV 0 rfl) 1 (j4 - 1) rfl rfl rfl (by omega) rfl (zI 9 rfl (zN (pV 0 rfl) 1 (j4 - 1) 0 (fun _ => rfl) rfl rfl (by omega) rfl rfl (zI 14 rfl (zD (pV 0 rfl) 1 j4 rfl rfl rfl (by omega) rfl (zI 15 rfl ?_))))))))
           refine zO 0 j4 (zG r (j4 - 1)) rfl (fun _ => rfl) rfl (by omega) rfl rfl rfl (by omega) (zI 16 rfl (zD (pV 0 rfl) 1 (j4 - 1) rfl rfl rfl (by simp only [List.length_set]; omega) rfl (zI 17 rfl (zO 0 (j4 - 1) (zG r j4) rfl (fun _ => rfl) rfl (by omega) rfl rfl rfl (by simp only [List.length_set]; omega) (zF [] rfl (by decide) (fun w' hw hS => zK ?_))))))
           exact ⟨z8 r j4 (j4 - 1), ⟨rfl, rfl, rfl, rfl, rfl, rfl, trivial⟩, rfl, hw⟩
       have hm := hΦ
       refine zg (zC rfl (zw rfl rfl (zt (by omega)) rfl (zH rfl ?_)))
       exact zf (fun w' hw => ⟨j4 + 1, m, ⟨rfl, rfl, rfl, rfl, rfl, rfl, trivial⟩, ⟨⟨by omega, by omega⟩, (by rw [hm]; exact hS4.then_swp ⟨by omega, by omega⟩ ⟨by omega, by omega⟩ hb), (by rw [hm]; exact hU4.keep (Same.ex (a := i2) (b := b) ⟨by omega, by omega⟩ ⟨by omega, by omega⟩ (by omega)) (.inl (by omega)))⟩, hw, (by omega)⟩)
      ·
       refine yA rfl (zg (zC rfl (zw rfl rfl (zt (by omega)) rfl (zH rfl ?_))))
       exact zf (fun w' hw => ⟨j + 1, i2, r, ⟨rfl, rfl, rfl, rfl, rfl, trivial⟩, ⟨⟨⟨by omega, by omega⟩, by omega⟩, hΦ.2⟩, hw, (by omega)⟩)
     ·
      refine zL (zg (zC rfl (zw rfl rfl (zt (by omega)) rfl (zH rfl ?_))))
      exact zf (fun w' hw => ⟨j + 1, i2, r, ⟨rfl, rfl, rfl, rfl, rfl, trivial⟩, ⟨⟨⟨by omega, by omega⟩, by omega⟩, hSr, hUr⟩, hw, (by omega)⟩)
  ·
   refine yA rfl (zB (zH rfl (zA ?_)))
   exact zR (z3 (v := .bool false) rfl rfl (fun w' hw => ⟨q, false, rfl, hS1, (fun h => by cases h), hw⟩))
theorem zBO {S : List Nat} (v : Value) (l : List Nat) (a b n o : Nat) (w : World) (ha : a < l.length) (hb : b < l.length) (hl : zx l.length) (hn : n ≤ 100) (hin : Own w S [Res.row o 3 [Vj n]] w) (hv : Rd w S (Res.sl v l.length (l.flatMap U1))) : Rets Try.prog 87 #[v, Vj a, Vj b, .pointer (some ⟨o, 0, none⟩)] w fun u_ w' => ∃ (x y m : Nat), u_ = .tuple #[Vj x, Vj y] ∧ ((x = a ∧ y = b) ∨ (x = b ∧ y = a)) ∧ m ≤ n + 1 ∧ Own w S [Res.row o 3 [Vj m]] w' := by
  refine zh Try.func87 rfl Try.ntmps87 hin ?_
  refine zB (zH rfl (zH rfl (zA (zM (zM (zX [0] rfl (by decide) (by kernel_rfl) (fun w' hw hS => zE 0 rfl (zJ) hS (zE 1 rfl (zJ) hS (zE 2 rfl (z7 (pR hv) 1 b rfl rfl rfl (by omega)) hS (zE 3 rfl (yQ (pR hv) 1 b 0 (fun _ => rfl) rfl rfl (by omega) rfl) hS (zE 4 rfl (zJ) hS (zE 5 rfl (zJ) hS ?_))))))))))))
  refine zE 6 rfl (z7 (pR hv) 1 a rfl rfl rfl (by omega)) hS (zE 7 rfl (yQ (pR hv) 1 a 0 (fun _ => rfl) rfl rfl (by omega) rfl) hS (zZ 8 rfl hw (zQ rfl rfl (fun w' hw => (xM (zG l b) (zG l a) w').mono ?_))))
  rintro _ w1 ⟨rfl, hO⟩
  refine (?_ : CL _ _ _ _ _ _ (Own w S [Res.row o 3 [Vj n]])) w1 (hw.frame0 hO)
  refine zF [0] rfl (by decide) (fun w' hw hS => zK ?_)
  refine (?_ : C _ _ _ _ _ _ _ (Own w S [Res.row o 3 [Vj n]])) _ hw
  refine zU rfl (fun c1 => ?_) (fun c1 => ?_)
  ·
   refine zB (zC rfl (yB rfl rfl (zd 0 (v := Vj n) rfl rfl rfl rfl (zw rfl rfl (zt (by omega)) rfl (yB rfl rfl (zAb (cs := [Vj n]) 0 rfl rfl rfl rfl rfl (zA (zB (zC rfl (zC rfl (zH rfl (zH rfl ?_))))))))))))
   refine zA ?_
   exact zR (ya (v := Vj b) (v' := Vj a) rfl rfl rfl (fun w' hw => ⟨b, a, n + 1, rfl, (.inr ⟨rfl, rfl⟩), (Nat.le_refl _), hw⟩))
  ·
   refine zL (zB (zC rfl (zC rfl (zH rfl (zH rfl (zA ?_))))))
   exact zR (ya (v := Vj a) (v' := Vj b) rfl rfl rfl (fun w' hw => ⟨a, b, n, rfl, (.inl ⟨rfl, rfl⟩), (Nat.le_succ _), hw⟩))
theorem zA0 {S : List Nat} (v : Value) (l : List Nat) (a b c n o : Nat) (w : World) (ha : a < l.length) (hb : b < l.length) (hc : c < l.length) (hl : zx l.length) (hn : n ≤ 90) (hin : Own w S [Res.row o 3 [Vj n]] w) (hv : Rd w S (Res.sl v l.length (l.flatMap U1))) : Rets Try.prog 75 #[v, Vj a, Vj b, Vj c, .pointer (some ⟨o, 0, none⟩)] w fun u_ w' => ∃ (x m : Nat), u_ = Vj x ∧ (x = a ∨ x = b ∨ x = c) ∧ m ≤ n + 3 ∧ Own w S [Res.row o 3 [Vj m]] w' := by
  refine zh Try.func75 rfl Try.ntmps75 hin ?_
  refine zB (zH rfl (zA (zB (zC rfl (zC rfl (zC rfl (zC rfl (zQ rfl rfl (fun w' hw => (zBO v l a b n o w' (by first | omega | (simp <;> omega)) (by first | omega | (simp <;> omega)) (by first | assumption | omega | (simp <;> omega) | (constructor <;> (first | omega | (simp only [zx]; omega) | (simp <;> omega)))) (by first | omega | (simp <;> omega)) (hw.give [0] rfl (by decide)) (hw.rdTo hv [0] rfl)).mono ?_)))))))))
  rintro _ w1 ⟨x1_, y2_, m3_, rfl, hf1_4, hf1_4_1, hO⟩
  refine (?_ : CL _ _ _ _ _ _ (Own w S [Res.row o 3 [Vj m3_]])) w1 (hw.frameL [0] rfl hO)
  refine zC rfl (zl (vs := [Vj x1_, Vj y2_]) rfl rfl rfl (zl (vs := [Vj x1_, Vj y2_]) rfl rfl rfl (zH rfl (zH rfl (zA (zB (zC rfl (zC rfl (zC rfl (zC rfl (zQ rfl rfl (fun w' hw => (zBO v l y2_ c m3_ o w' (by first | omega | (simp <;> omega)) (by first | omega | (simp <;> omega)) (by first | assumption | omega | (simp <;> omega) | (constructor <;> (first | omega | (simp only [zx]; omega) | (simp <;> omega)))) (by first | omega | (simp <;> omega)) (hw.give [0] rfl (by decide)) (hw.rdTo hv [0] rfl)).mono ?_))))))))))))
  rintro _ w1 ⟨x4_, y5_, m6_, rfl, hf2_4, hf2_4_1, hO⟩
  refine (?_ : CL _ _ _ _ _ _ (Own w S [Res.row o 3 [Vj m6_]])) w1 (hw.frameL [0] rfl hO)
  refine zC rfl (zl (vs := [Vj x4_, Vj y5_]) rfl rfl rfl (zl (vs := [Vj x4_, Vj y5_]) rfl rfl rfl (zH rfl (zH rfl (zA (zB (zC rfl (zC rfl (zC rfl (zC rfl (zQ rfl rfl (fun w' hw => (zBO v l x1_ x4_ m6_ o w' (by first | omega | (simp <;> omega)) (by first | omega | (simp <;> omega)) (by first | assumption | omega | (simp <;> omega) | (constructor <;> (first | omega | (simp only [zx]; omega) | (simp <;> omega)))) (by first | omega | (simp <;> omega)) (hw.give [0] rfl (by decide)) (hw.rdTo hv [0] rfl)).mono ?_))))))))))))
  rintro _ w1 ⟨x7_, y8_, m9_, rfl, hf3_4, hf3_4_1, hO⟩
  refine (?_ : CL _ _ _ _ _ _ (Own w S [Res.row o 3 [Vj m9_]])) w1 (hw.frameL [0] rfl hO)
  refine zC rfl (zl (vs := [Vj x7_, Vj y8_]) rfl rfl rfl (zl (vs := [Vj x7_, Vj y8_]) rfl rfl rfl (zH rfl (zH rfl (zA (zB (zC rfl (zH rfl (zA ?_)))))))))
  exact zR (z3 (v := Vj y8_) rfl rfl (fun w' hw => ⟨y8_, m9_, rfl, (by omega), (by omega), hw⟩))
theorem k7 {S : List Nat} (v : Value) (l : List Nat) (a n o : Nat) (w : World) (ha : 1 ≤ a ∧ a + 1 < l.length) (hl : zx l.length) (hn : n ≤ 90) (hin : Own w S [Res.row o 3 [Vj n]] w) (hv : Rd w S (Res.sl v l.length (l.flatMap U1))) : Rets Try.prog 74 #[v, Vj a, .pointer (some ⟨o, 0, none⟩)] w fun u_ w' => ∃ (x m : Nat), u_ = Vj x ∧ (a ≤ x + 1 ∧ x ≤ a + 1) ∧ m ≤ n + 3 ∧ Own w S [Res.row o 3 [Vj m]] w' := by
  refine zh Try.func74 rfl Try.ntmps74 hin ?_
  refine zB (zH rfl (zA (zB (zC rfl (zC rfl (z9 (c := ((a - 1 : Nat) : Int)) rfl rfl (xV (by omega) (by omega)) rfl (zC rfl (zC rfl (zw rfl rfl (zt (by omega)) rfl (zC rfl (zQ rfl rfl (fun w' hw => (zA0 v l (a - 1) a (a + 1) n o w' (by first | omega | (simp <;> omega)) (by first | omega | (simp <;> omega)) (by first | omega | (simp <;> omega)) (by first | assumption | omega | (simp <;> omega) | (constructor <;> (first | omega | (simp only [zx]; omega) | (simp <;> omega)))) (by first | omega | (simp <;> omega)) (hw.give [0] rfl (by decide)) (hw.rdTo hv [0] rfl)).mono ?_))))))))))))
  rintro _ w1 ⟨x1_, m2_, rfl, hf1_7, hf1_7_1, hO⟩
  refine (?_ : CL _ _ _ _ _ _ (Own w S [Res.row o 3 [Vj m2_]])) w1 (hw.frameL [0] rfl hO)
  refine zH rfl (zA ?_)
  exact zR (z3 (v := Vj x1_) rfl rfl (fun w' hw => ⟨x1_, m2_, rfl, (by omega), (by omega), hw⟩))
theorem zHi (v : Value) (l : List Nat) (a b : Nat) (w : World) (hab : a + 12 < b) (hb : b ≤ l.length) (hl : zx l.length) (hv : Rd w [] (Res.sl v l.length (l.flatMap U1))) : Rets Try.prog 49 #[v, Vj a, Vj b] w fun u_ w' => ∃ (p : Nat) (h : Int), u_ = .tuple #[Vj p, Vi h] ∧ (a ≤ p ∧ p < b) ∧ Own w [] [] w' := by
  refine zh Try.func49 rfl Try.ntmps49 (Own.start w) ?_
  refine zB (zH rfl (zH rfl (zA (zB (zC rfl (zC rfl (z9 (c := ((b - a : Nat) : Int)) rfl rfl (wsi (by omega) (by omega)) rfl (zH rfl (zA (zB (yP (v := Vi 0) (by kernel_rfl) rfl (fun b9 => zA ?_))))))))))))
  refine zB (zC rfl (zC rfl (j0 (c := (((b - a) / 4 : Nat) : Int)) rfl rfl (by decide) (qui (b := 4) (by omega)) rfl (zBD rfl rfl (zt (by omega)) rfl (zw rfl rfl (zt (by omega)) rfl (zH rfl (zA (zB (zC rfl (zC rfl (j0 (c := (((b - a) / 4 : Nat) : Int)) rfl rfl (by decide) (qui (b := 4) (by omega)) rfl (zBD rfl rfl (zt (by omega)) rfl ?_))))))))))))
  refine zw rfl rfl (zt (by omega)) rfl (zH rfl (zA (zB (zC rfl (zC rfl (j0 (c := (((b - a) / 4 : Nat) : Int)) rfl rfl (by decide) (qui (b := 4) (by omega)) rfl (zBD rfl rfl (zt (by omega)) rfl (zw rfl rfl (zt (by omega)) rfl (zH rfl (zA (zM (zB ?_))))))))))))
  refine zC rfl (yY rfl rfl rfl (zA (zU rfl (fun c1 => ?_) (fun c1 => ?_))))
  ·
   refine zM (zB (zC rfl (yY rfl rfl rfl (zA (zU rfl (fun c2 => ?_) (fun c2 => ?_))))))
   ·
    refine zB (zC rfl (zC rfl (zQ rfl rfl (fun w' hw => (k7 v l (a + (((b - a) / 4) * 1)) 0 b9 w' (by first | omega | (simp <;> omega)) (by first | assumption | omega | (simp <;> omega) | (constructor <;> (first | omega | (simp only [zx]; omega) | (simp <;> omega)))) (by first | omega | (simp <;> omega)) (hw.give [0] rfl (by decide)) (hw.rdTo hv [0] rfl)).mono ?_))))
    rintro _ w1 ⟨x1_, m2_, rfl, hf8_2, hf8_2_1, hO⟩
    refine (?_ : CL _ _ _ _ _ _ (Own w [] [Res.row b9 3 [Vj m2_]])) w1 (hw.frameL [0] rfl hO)
    refine zH rfl (zA (zB (zC rfl (zC rfl (zQ rfl rfl (fun w' hw => (k7 v l (a + (((b - a) / 4) * 2)) m2_ b9 w' (by first | omega | (simp <;> omega)) (by first | assumption | omega | (simp <;> omega) | (constructor <;> (first | omega | (simp only [zx]; omega) | (simp <;> omega)))) (by first | omega | (simp <;> omega)) (hw.give [0] rfl (by decide)) (hw.rdTo hv [0] rfl)).mono ?_))))))
    rintro _ w1 ⟨x3_, m4_, rfl, hf9_2, hf9_2_1, hO⟩
    refine (?_ : CL _ _ _ _ _ _ (Own w [] [Res.row b9 3 [Vj m4_]])) w1 (hw.frameL [0] rfl hO)
    refine zH rfl (zA (zg (zC rfl (zC rfl (zQ rfl rfl (fun w' hw => (k7 v l (a + (((b - a) / 4) * 3)) m4_ b9 w' (by first | omega | (simp <;> omega)) (by first | assumption | omega | (simp <;> omega) | (constructor <;> (first | omega | (simp only [zx]; omega) | (simp <;> omega)))) (by first | omega | (simp <;> omega)) (hw.give [0] rfl (by decide)) (hw.rdTo hv [0] rfl)).mono ?_))))))
    rintro _ w1 ⟨x5_, m6_, rfl, hf10_2, hf10_2_1, hO⟩
    refine (?_ : CL _ _ _ _ _ _ (Own w [] [Res.row b9 3 [Vj m6_]])) w1 (hw.frameL [0] rfl hO)
    refine zH rfl (zA (zg (zC rfl (zC rfl (zC rfl (zC rfl (zQ rfl rfl (fun w' hw => (zA0 v l x1_ x3_ x5_ m6_ b9 w' (by first | omega | (simp <;> omega)) (by first | omega | (simp <;> omega)) (by first | omega | (simp <;> omega)) (by first | assumption | omega | (simp <;> omega) | (constructor <;> (first | omega | (simp only [zx]; omega) | (simp <;> omega)))) (by first | omega | (simp <;> omega)) (hw.give [0] rfl (by decide)) (hw.rdTo hv [0] rfl)).mono ?_))))))))
    rintro _ w1 ⟨x7_, m8_, rfl, hf11_4, hf11_4_1, hO⟩
    refine (?_ : CL _ _ _ _ _ _ (Own w [] [Res.row b9 3 [Vj m8_]])) w1 (hw.frameL [0] rfl hO)
    refine zH rfl (zA (zB (zd 0 (v := Vj m8_) rfl rfl rfl rfl (zA (zS (zB (yr rfl rfl rfl (zH rfl (zA (zU rfl (fun c3 => ?_) (fun c3 => ?_)))))))))))
    ·
     refine zB (zC rfl (zH rfl (zH rfl (zA ?_))))
     exact zR (ya (v := Vj x7_) (v' := Vi 1) rfl rfl rfl (fun w' hw => ⟨x7_, 1, rfl, ⟨by omega, by omega⟩, hw.drop⟩))
    ·
     refine zB (yr rfl rfl rfl (zH rfl (zA (zU rfl (fun c4 => ?_) (fun c4 => ?_)))))
     ·
      refine zB (zC rfl (zH rfl (zH rfl (zA ?_))))
      exact zR (ya (v := Vj x7_) (v' := Vi 2) rfl rfl rfl (fun w' hw => ⟨x7_, 2, rfl, ⟨by omega, by omega⟩, hw.drop⟩))
     ·
      refine zB (zC rfl (zH rfl (zH rfl (zA ?_))))
      exact zR (ya (v := Vj x7_) (v' := Vi 0) rfl rfl rfl (fun w' hw => ⟨x7_, 0, rfl, ⟨by omega, by omega⟩, hw.drop⟩))
   ·
    refine zL (zg (zC rfl (zC rfl (zC rfl (zC rfl (zQ rfl rfl (fun w' hw => (zA0 v l (a + (((b - a) / 4) * 1)) (a + (((b - a) / 4) * 2)) (a + (((b - a) / 4) * 3)) 0 b9 w' (by first | omega | (simp <;> omega)) (by first | omega | (simp <;> omega)) (by first | omega | (simp <;> omega)) (by first | assumption | omega | (simp <;> omega) | (constructor <;> (first | omega | (simp only [zx]; omega) | (simp <;> omega)))) (by first | omega | (simp <;> omega)) (hw.give [0] rfl (by decide)) (hw.rdTo hv [0] rfl)).mono ?_)))))))
    rintro _ w1 ⟨x9_, m10_, rfl, hf11_4, hf11_4_1, hO⟩
    refine (?_ : CL _ _ _ _ _ _ (Own w [] [Res.row b9 3 [Vj m10_]])) w1 (hw.frameL [0] rfl hO)
    refine zH rfl (zA (zB (zd 0 (v := Vj m10_) rfl rfl rfl rfl (zA (zS (zB (yr rfl rfl rfl (zH rfl (zA (zU rfl (fun c5 => ?_) (fun c5 => ?_)))))))))))
    ·
     refine zB (zC rfl (zH rfl (zH rfl (zA ?_))))
     exact zR (ya (v := Vj x9_) (v' := Vi 1) rfl rfl rfl (fun w' hw => ⟨x9_, 1, rfl, ⟨by omega, by omega⟩, hw.drop⟩))
    ·
     refine zB (yr rfl rfl rfl (zH rfl (zA (zU rfl (fun c6 => ?_) (fun c6 => ?_)))))
     ·
      refine zB (zC rfl (zH rfl (zH rfl (zA ?_))))
      exact zR (ya (v := Vj x9_) (v' := Vi 2) rfl rfl rfl (fun w' hw => ⟨x9_, 2, rfl, ⟨by omega, by omega⟩, hw.drop⟩))
     ·
      refine zB (zC rfl (zH rfl (zH rfl (zA ?_))))
      exact zR (ya (v := Vj x9_) (v' := Vi 0) rfl rfl rfl (fun w' hw => ⟨x9_, 0, rfl, ⟨by omega, by omega⟩, hw.drop⟩))
  ·
   refine zL (zB (zd 0 (v := Vi 0) rfl rfl rfl rfl (zA (zS (zB (yr rfl rfl rfl (zH rfl (zA (zU rfl (fun c7 => ?_) (fun c7 => ?_))))))))))
   ·
    refine zB (zC rfl (zH rfl (zH rfl (zA ?_))))
    exact zR (ya (v := Vj (a + (((b - a) / 4) * 2))) (v' := Vi 1) rfl rfl rfl (fun w' hw => ⟨a + (((b - a) / 4) * 2), 1, rfl, ⟨by omega, by omega⟩, hw.drop⟩))
   ·
    refine zB (yr rfl rfl rfl (zH rfl (zA (zU rfl (fun c8 => ?_) (fun c8 => ?_)))))
    ·
     refine zB (zC rfl (zH rfl (zH rfl (zA ?_))))
     exact zR (ya (v := Vj (a + (((b - a) / 4) * 2))) (v' := Vi 2) rfl rfl rfl (fun w' hw => ⟨a + (((b - a) / 4) * 2), 2, rfl, ⟨by omega, by omega⟩, hw.drop⟩))
    ·
     refine zB (zC rfl (zH rfl (zH rfl (zA ?_))))
     exact zR (ya (v := Vj (a + (((b - a) / 4) * 2))) (v' := Vi 0) rfl rfl rfl (fun w' hw => ⟨a + (((b - a) / 4) * 2), 0, rfl, ⟨by omega, by omega⟩, hw.drop⟩))
theorem zGq {S : List Nat} (v : Value) (l : List Nat) (a b : Nat) (w : World) (ha : a ≤ b) (hb : b ≤ l.length) (hl : zx l.length) (hin : Own w S [Res.vec 28 1 v l.length (l.flatMap U1)] w) : Rets Try.prog 48 #[v, Vj a, Vj b] w fun u_ w' => ∃ (l' : List Nat), u_ = .tuple #[] ∧ Same a b l l' ∧ Own w S [Res.vec 28 1 v l'.length (l'.flatMap U1)] w' := by
  refine zh Try.func48 rfl Try.ntmps48 hin ?_
  refine zB (zC rfl (zC rfl (z9 (c := ((b - a : Nat) : Int)) rfl rfl (wsi (by omega) (by omega)) rfl (zH rfl (zA (zB (zC rfl (yY rfl rfl rfl (zA (zU rfl (fun c1 => ?_) (fun c1 => ?_)))))))))))
  ·
   have hM := zJM (n := b - a) (by omega)
   have hM2 : 2 ^ zb (b - a) ≤ 4000000000000 := Nat.le_trans hM.1 (by omega)
   refine zB (zC rfl (xU (by kernel_rfl) rfl (zCq (by omega)) rfl ?_ (by kernel_rfl)))
   refine yP (v := Vn 0) (by kernel_rfl) rfl (fun b7 => zAb (cs := [Vn 0]) 1 rfl rfl rfl rfl rfl (zA (zB (zC rfl (zQ rfl rfl (fun w' hw => (zJg (b - a) w' (by first | omega | (simp <;> omega))).mono ?_))))))
   rintro _ w1 ⟨rfl, hO⟩
   refine (?_ : CL _ _ _ _ _ _ (Own w S [Res.vec 28 1 v l.length (l.flatMap U1), Res.row b7 140 [Vn (b - a)]])) w1 (hw.frame0 hO)
   refine zH rfl (zA (zB (zC rfl (zC rfl (j0 (c := (((b - a) / 4 : Nat) : Int)) rfl rfl (by decide) (qui (b := 4) (by omega)) rfl (zBD rfl rfl (zt (by omega)) rfl (zw rfl rfl (zt (by omega)) rfl (z9 (c := ((a + (b - a) / 4 * 2 - 1 : Nat) : Int)) rfl rfl (xV (a := a + (b - a) / 4 * 2) (by omega) (by omega)) rfl (zH rfl (zA (zS ?_)))))))))))
   refine kh (fun (i : Nat) (q : List Nat) (y : Int) => [(0, v), (1, Vj a), (6, Vj (b - a)), (7, .pointer (some ⟨b7, 0, none⟩)), (8, Vn (2 ^ zb (b - a))), (9, Vj i)]) (fun (i : Nat) (q : List Nat) (y : Int) => (a + (b - a) / 4 * 2 ≤ i + 1 ∧ i ≤ a + (b - a) / 4 * 2 + 2) ∧ Same a b l q) (fun (i : Nat) (q : List Nat) (y : Int) => [Res.vec 28 1 v q.length (q.flatMap U1), Res.row b7 140 [.int .u64 y]]) (fun (i : Nat) (q : List Nat) (y : Int) => a + (b - a) / 4 * 2 + 2 - i) (fun w' hw => ⟨a + (b - a) / 4 * 2 - 1, l, ((b - a : Nat) : Int), ⟨rfl, rfl, rfl, rfl, rfl, rfl, trivial⟩, ⟨⟨by omega, by omega⟩, Same.refl _ _ _⟩, hw⟩) (fun i q y g hΦ => ?_)
   have hi1 := hΦ.1
   have hS1 := hΦ.2
   have hq1 := hS1.len
   refine zM (zB (zC rfl (zC rfl (zC rfl (j0 (c := (((b - a) / 4 : Nat) : Int)) rfl rfl (by decide) (qui (b := 4) (by omega)) rfl (zBD rfl rfl (zt (by omega)) rfl (zw rfl rfl (zt (by omega)) rfl (zw rfl rfl (zt (by omega)) rfl (zAj rfl rfl rfl (zA (zU rfl (fun c2 => ?_) (fun c2 => ?_))))))))))))
   ·
    refine zL (zFZ (fun (n : List Nat) (y2 : Int) => [(0, v), (1, Vj a), (6, Vj (b - a)), (7, .pointer (some ⟨b7, 0, none⟩)), (8, Vn (2 ^ zb (b - a))), (9, Vj i)]) (fun (n : List Nat) (y2 : Int) => ∃ z, z < b - a ∧ n = z8 q i (a + z)) (fun (n : List Nat) (y2 : Int) => [Res.vec 28 1 v n.length (n.flatMap U1), Res.row b7 140 [.int .u64 y2]]) ?_ (fun n y2 g hΦ => ?_))
    ·
     refine zS (zB (zQ rfl rfl (fun w' hw => (zJW b7 y w' (hw.give [1] rfl (by decide))).mono ?_)))
     rintro _ w1 ⟨y1_, rfl, hO⟩
     have hz := zGG (y := y1_) hM.2 hM2
     have hz2 := Nat.lt_of_lt_of_le hz hM.1
     refine (?_ : CL _ _ _ _ _ _ (Own w S [Res.vec 28 1 v q.length (q.flatMap U1), Res.row b7 140 [.int .u64 y1_]])) w1 (hw.frameL [1] rfl hO)
     refine zC rfl (z9 (c := ((2 ^ zb (b - a) - 1 : Nat) : Int)) rfl rfl (ws (b := 1) hM.2 (Nat.lt_of_le_of_lt hM2 (by decide))) rfl (zJd (c := ((((y1_ % 18446744073709551616).toNat &&& (2 ^ zb (b - a) - 1)) : Nat) : Int)) rfl rfl (zGS hM.2 hM2) rfl (xU (by kernel_rfl) rfl (zt (by omega)) rfl ?_ (by kernel_rfl))))
     refine zH rfl (zA (yJ (fun (z : Nat) => [(0, v), (1, Vj a), (6, Vj (b - a)), (7, .pointer (some ⟨b7, 0, none⟩)), (8, Vn (2 ^ zb (b - a))), (9, Vj i), (10, Vj z)]) (fun (z : Nat) => z < b - a) (fun (z : Nat) => [Res.vec 28 1 v q.length (q.flatMap U1), Res.row b7 140 [.int .u64 y1_]]) ?_ (fun z g hΦ => ?_)))
     ·
      refine zB (zC rfl (zC rfl (yY rfl rfl rfl (zA (zU rfl (fun c3 => ?_) (fun c3 => ?_))))))
      ·
       refine zg (zC rfl (zC rfl (z9 (c := ((((y1_ % 18446744073709551616).toNat &&& (2 ^ zb (b - a) - 1)) - (b - a) : Nat) : Int)) rfl rfl (wsi (by omega) (by omega)) rfl (zH rfl ?_))))
       exact zf (fun w' hw => ⟨((y1_ % 18446744073709551616).toNat &&& (2 ^ zb (b - a) - 1)) - (b - a), ⟨rfl, rfl, rfl, rfl, rfl, rfl, rfl, trivial⟩, by omega, hw⟩)
      ·
       exact xS (fun w' hw => ⟨((y1_ % 18446744073709551616).toNat &&& (2 ^ zb (b - a) - 1)), ⟨rfl, rfl, rfl, rfl, rfl, rfl, rfl, trivial⟩, by omega, hw⟩)
     have hzz := hΦ
     refine zX [1] rfl (by decide) (by kernel_rfl) (fun w' hw hS => zE 0 rfl (zJ) hS (zE 1 rfl (zJ) hS (zE 2 rfl (zJ) hS (zE 3 rfl (zJ) hS (zE 4 rfl (zJ) hS (zE 5 rfl (xn rfl rfl (zt (by omega))) hS (zE 6 rfl (zJ) hS (zE 7 rfl (zJ) hS (zE 8 rfl (zJ) hS (zE 9 rfl (xn rfl rfl (zt (by omega))) hS (zE 12 rfl (zJ) hS (zE 13 rfl (zJ) hS ?_))))))))))))
     refine zT 10 14 ?_ ?_
     ·
      refine zP 10 rfl hw (zD (pV 0 rfl) 1 (a + z) rfl rfl rfl (by omega) rfl (zF [1] rfl (by decide) (fun w' hw hS => zT 11 14 ?_ ?_)))
      ·
       refine zP 11 rfl hw (zN (pV 0 rfl) 1 (a + z) 0 (fun _ => rfl) rfl rfl (by omega) rfl rfl (zF [1] rfl (by decide) (fun w' hw hS => zZ 14 rfl hw (zD (pV 0 rfl) 1 i rfl rfl rfl (by omega) rfl (zF [1] rfl (by decide) (fun w' hw hS => zZ 15 rfl hw (zN (pV 0 rfl) 1 i 0 (fun _ => rfl) rfl rfl (by omega) rfl rfl (zF [1] rfl (by decide) (fun w' hw hS => zZ 16 rfl hw (zD (pV 0 rfl) 1 i rfl rfl rfl (by omega) rfl (zF [1] rfl (by decide) (fun w' hw hS => zZ 17 rfl hw ?_))))))))))))
       refine zO 0 i (zG q (a + z)) rfl (fun _ => rfl) rfl (by omega) rfl rfl rfl (by omega) (zF [1] rfl (by decide) (fun w' hw hS => zZ 18 rfl hw (zD (pV 0 rfl) 1 (a + z) rfl rfl rfl (by simp only [List.length_set]; omega) rfl (zF [1] rfl (by decide) (fun w' hw hS => zZ 19 rfl hw (zO 0 (a + z) (zG q i) rfl (fun _ => rfl) rfl (by omega) rfl rfl rfl (by simp only [List.length_set]; omega) (zF [1] rfl (by decide) (fun w' hw hS => zK ?_))))))))
       exact ⟨z8 q i (a + z), y1_, ⟨rfl, rfl, rfl, rfl, rfl, rfl, trivial⟩, ⟨z, hzz, rfl⟩, hw⟩
      ·
       refine zP 14 rfl hw (zD (pV 0 rfl) 1 i rfl rfl rfl (by omega) rfl (zF [1] rfl (by decide) (fun w' hw hS => zT 11 15 ?_ ?_)))
       ·
        refine zP 11 rfl hw (zN (pV 0 rfl) 1 (a + z) 0 (fun _ => rfl) rfl rfl (by omega) rfl rfl (zF [1] rfl (by decide) (fun w' hw hS => zZ 15 rfl hw (zN (pV 0 rfl) 1 i 0 (fun _ => rfl) rfl rfl (by omega) rfl rfl (zF [1] rfl (by decide) (fun w' hw hS => zZ 16 rfl hw (zD (pV 0 rfl) 1 i rfl rfl rfl (by omega) rfl (zF [1] rfl (by decide) (fun w' hw hS => zZ 17 rfl hw (zO 0 i (zG q (a + z)) rfl (fun _ => rfl) rfl (by omega) rfl rfl rfl (by omega) (zF [1] rfl (by decide) (fun w' hw hS => zZ 18 rfl hw ?_))))))))))))
        refine zD (pV 0 rfl) 1 (a + z) rfl rfl rfl (by simp only [List.length_set]; omega) rfl (zF [1] rfl (by decide) (fun w' hw hS => zZ 19 rfl hw (zO 0 (a + z) (zG q i) rfl (fun _ => rfl) rfl (by omega) rfl rfl rfl (by simp only [List.length_set]; omega) (zF [1] rfl (by decide) (fun w' hw hS => zK ?_)))))
        exact ⟨z8 q i (a + z), y1_, ⟨rfl, rfl, rfl, rfl, rfl, rfl, trivial⟩, ⟨z, hzz, rfl⟩, hw⟩
       ·
        refine zP 15 rfl hw (zN (pV 0 rfl) 1 i 0 (fun _ => rfl) rfl rfl (by omega) rfl rfl (zF [1] rfl (by decide) (fun w' hw hS => zZ 11 rfl hw (zN (pV 0 rfl) 1 (a + z) 0 (fun _ => rfl) rfl rfl (by omega) rfl rfl (zF [1] rfl (by decide) (fun w' hw hS => zZ 16 rfl hw (zD (pV 0 rfl) 1 i rfl rfl rfl (by omega) rfl (zF [1] rfl (by decide) (fun w' hw hS => zZ 17 rfl hw (zO 0 i (zG q (a + z)) rfl (fun _ => rfl) rfl (by omega) rfl rfl rfl (by omega) (zF [1] rfl (by decide) (fun w' hw hS => zZ 18 rfl hw ?_))))))))))))
        refine zD (pV 0 rfl) 1 (a + z) rfl rfl rfl (by simp only [List.length_set]; omega) rfl (zF [1] rfl (by decide) (fun w' hw hS => zZ 19 rfl hw (zO 0 (a + z) (zG q i) rfl (fun _ => rfl) rfl (by omega) rfl rfl rfl (by simp only [List.length_set]; omega) (zF [1] rfl (by decide) (fun w' hw hS => zK ?_)))))
        exact ⟨z8 q i (a + z), y1_, ⟨rfl, rfl, rfl, rfl, rfl, rfl, trivial⟩, ⟨z, hzz, rfl⟩, hw⟩
     ·
      refine zP 14 rfl hw (zD (pV 0 rfl) 1 i rfl rfl rfl (by omega) rfl (zF [1] rfl (by decide) (fun w' hw hS => zT 10 15 ?_ ?_)))
      ·
       refine zP 10 rfl hw (zD (pV 0 rfl) 1 (a + z) rfl rfl rfl (by omega) rfl (zF [1] rfl (by decide) (fun w' hw hS => zT 11 15 ?_ ?_)))
       ·
        refine zP 11 rfl hw (zN (pV 0 rfl) 1 (a + z) 0 (fun _ => rfl) rfl rfl (by omega) rfl rfl (zF [1] rfl (by decide) (fun w' hw hS => zZ 15 rfl hw (zN (pV 0 rfl) 1 i 0 (fun _ => rfl) rfl rfl (by omega) rfl rfl (zF [1] rfl (by decide) (fun w' hw hS => zZ 16 rfl hw (zD (pV 0 rfl) 1 i rfl rfl rfl (by omega) rfl (zF [1] rfl (by decide) (fun w' hw hS => zZ 17 rfl hw (zO 0 i (zG q (a + z)) rfl (fun _ => rfl) rfl (by omega) rfl rfl rfl (by omega) (zF [1] rfl (by decide) (fun w' hw hS => zZ 18 rfl hw ?_))))))))))))
        refine zD (pV 0 rfl) 1 (a + z) rfl rfl rfl (by simp only [List.length_set]; omega) rfl (zF [1] rfl (by decide) (fun w' hw hS => zZ 19 rfl hw (zO 0 (a + z) (zG q i) rfl (fun _ => rfl) rfl (by omega) rfl rfl rfl (by simp only [List.length_set]; omega) (zF [1] rfl (by decide) (fun w' hw hS => zK ?_)))))
        exact ⟨z8 q i (a + z), y1_, ⟨rfl, rfl, rfl, rfl, rfl, rfl, trivial⟩, ⟨z, hzz, rfl⟩, hw⟩
       ·
        refine zP 15 rfl hw (zN (pV 0 rfl) 1 i 0 (fun _ => rfl) rfl rfl (by omega) rfl rfl (zF [1] rfl (by decide) (fun w' hw hS => zZ 11 rfl hw (zN (pV 0 rfl) 1 (a + z) 0 (fun _ => rfl) rfl rfl (by omega) rfl rfl (zF [1] rfl (by decide) (fun w' hw hS => zZ 16 rfl hw (zD (pV 0 rfl) 1 i rfl rfl rfl (by omega) rfl (zF [1] rfl (by decide) (fun w' hw hS => zZ 17 rfl hw (zO 0 i (zG q (a + z)) rfl (fun _ => rfl) rfl (by omega) rfl rfl rfl (by omega) (zF [1] rfl (by decide) (fun w' hw hS => zZ 18 rfl hw ?_))))))))))))
        refine zD (pV 0 rfl) 1 (a + z) rfl rfl rfl (by simp only [List.length_set]; omega) rfl (zF [1] rfl (by decide) (fun w' hw hS => zZ 19 rfl hw (zO 0 (a + z) (zG q i) rfl (fun _ => rfl) rfl (by omega) rfl rfl rfl (by simp only [List.length_set]; omega) (zF [1] rfl (by decide) (fun w' hw hS => zK ?_)))))
        exact ⟨z8 q i (a + z), y1_, ⟨rfl, rfl, rfl, rfl, rfl, rfl, trivial⟩, ⟨z, hzz, rfl⟩, hw⟩
      ·
       refine zP 15 rfl hw (zN (pV 0 rfl) 1 i 0 (fun _ => rfl) rfl rfl (by omega) rfl rfl (zF [1] rfl (by decide) (fun w' hw hS => zZ 10 rfl hw (zD (pV 0 rfl) 1 (a + z) rfl rfl rfl (by omega) rfl (zF [1] rfl (by decide) (fun w' hw hS => zZ 11 rfl hw (zN (pV 0 rfl) 1 (a + z) 0 (fun _ => rfl) rfl rfl (by omega) rfl rfl (zF [1] rfl (by decide) (fun w' hw hS => zZ 16 rfl hw (zD (pV 0 rfl) 1 i rfl rfl rfl (by omega) rfl (zF [1] rfl (by decide) (fun w' hw hS => zZ 17 rfl hw ?_))))))))))))
       refine zO 0 i (zG q (a + z)) rfl (fun _ => rfl) rfl (by omega) rfl rfl rfl (by omega) (zF [1] rfl (by decide) (fun w' hw hS => zZ 18 rfl hw (zD (pV 0 rfl) 1 (a + z) rfl rfl rfl (by simp only [List.length_set]; omega) rfl (zF [1] rfl (by decide) (fun w' hw hS => zZ 19 rfl hw (zO 0 (a + z) (zG q i) rfl (fun _ => rfl) rfl (by omega) rfl rfl rfl (by simp only [List.length_set]; omega) (zF [1] rfl (by decide) (fun w' hw hS => zK ?_))))))))
       exact ⟨z8 q i (a + z), y1_, ⟨rfl, rfl, rfl, rfl, rfl, rfl, trivial⟩, ⟨z, hzz, rfl⟩, hw⟩
    obtain ⟨z, hzz, hn⟩ := hΦ
    refine zg (zC rfl (zw rfl rfl (zt (by omega)) rfl (zH rfl ?_)))
    exact zf (fun w' hw => ⟨i + 1, n, y2, ⟨rfl, rfl, rfl, rfl, rfl, rfl, trivial⟩, ⟨⟨by omega, by omega⟩, by rw [hn]; exact hS1.then_swp ⟨by omega, by omega⟩ ⟨by omega, by omega⟩ hb⟩, hw, (by omega)⟩)
   ·
    exact yU rfl (ji rfl (fun w' hw => ⟨q, rfl, hS1, hw.sel [0] rfl (by decide)⟩))
  ·
   exact xS (ji rfl (fun w' hw => ⟨l, rfl, Same.refl _ _ _, hw⟩))
end Go.Proofs.Ytcdiehplbmkmeaa
