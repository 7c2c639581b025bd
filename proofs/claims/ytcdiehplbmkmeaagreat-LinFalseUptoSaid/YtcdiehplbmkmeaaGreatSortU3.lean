import Derived.Test.YtcdiehplbmkmeaaGreatSortU
set_option linter.unusedSectionVars false
set_option linter.unusedSimpArgs false
set_option linter.unusedVariables false
set_option maxRecDepth 10000
namespace Go.Proofs.YtcdiehplbmkmeaaGreat
open Go Go.Sc Go.Proofs
theorem zFP {S : List Nat} (v : Value) (l : List Nat) (a b : Nat) (w : World) (ha : a < b) (hb : b ≤ l.length) (hl : z6 l.length) (hpr : Pred a b l) (hin : Own w S [Res.vec 32 1 v l.length (l.flatMap U1)] w) : Rets Tryz.prog 83 #[v, Vj a, Vj b] w fun u_ w' => ∃ (l' : List Nat) (r : Bool), u_ = .bool r ∧ Same a b l l' ∧ (r = true → Up a b l') ∧ Own w S [Res.vec 32 1 v l'.length (l'.flatMap U1)] w' := by
  refine ze Tryz.func83 rfl Tryz.ntmps83 hin ?_
  refine zB (zH rfl (zA (zB (zC rfl (zn rfl rfl (zh (by omega)) rfl (zH rfl (zA (zL (zB (zH rfl (zA (zW ?_))))))))))))
  refine ji (fun (j i : Nat) (q : List Nat) => [(0, v), (1, Vj a), (2, Vj b), (7, Vj i), (8, Vj j)]) (fun (j i : Nat) (q : List Nat) => ((a + 1 ≤ i ∧ i ≤ b) ∧ j ≤ 5) ∧ Same a b l q ∧ Up a i q) (fun (j i : Nat) (q : List Nat) => [Res.vec 32 1 v q.length (q.flatMap U1)]) (fun (j i : Nat) (q : List Nat) => 5 - j) (fun w' hw => ⟨0, a + 1, l, ⟨rfl, rfl, rfl, rfl, rfl, trivial⟩, ⟨⟨⟨by omega, by omega⟩, by omega⟩, Same.refl _ _ _, Up.one (by omega)⟩, hw⟩) (fun j i q g hΦ => ?_)
  have hi1 := hΦ.1
  have hS1 := hΦ.2.1
  have hU1 := hΦ.2.2
  have hq1 := hS1.len
  refine zL (zB (zC rfl (z9 rfl rfl rfl (zA (zV rfl (fun c1 => ?_) (fun c1 => ?_))))))
  ·
   refine zJ (zL (zW (ye (fun (i2 : Nat) => [(0, v), (1, Vj a), (2, Vj b), (7, Vj i2), (8, Vj j)]) (fun (i2 : Nat) => (a + 1 ≤ i2 ∧ i2 ≤ b) ∧ Up a i2 q) (fun (i2 : Nat) => [Res.vec 32 1 v q.length (q.flatMap U1)]) ?_ (fun i2 g hΦ => ?_))))
   ·
    refine zW ?_
    refine xC (fun (i2 : Nat) => [(0, v), (1, Vj a), (2, Vj b), (7, Vj i2), (8, Vj j)]) (fun (i2 : Nat) => (a + 1 ≤ i2 ∧ i2 ≤ b) ∧ Up a i2 q) (fun (i2 : Nat) => [Res.vec 32 1 v q.length (q.flatMap U1)]) (fun (i2 : Nat) => b - i2) (fun w' hw => ⟨i, ⟨rfl, rfl, rfl, rfl, rfl, trivial⟩, ⟨⟨by omega, by omega⟩, hU1⟩, hw⟩) (fun i2 g hΦ => ?_)
    have hi2 := hΦ.1
    have hU2 := hΦ.2
    refine zL (zL (zZ [0] rfl (by decide) (by kernel_rfl) (fun w' hw hS => zD 0 rfl (zK) hS (zD 1 rfl (zK) hS (zD 2 rfl (zCR rfl rfl) hS (zD 3 rfl (zK) hS ?_))))))
    by_cases g5_3 : ((i2 : Nat) : Int) < ((b : Nat) : Int)
    ·
     refine zp 4 rfl rfl (gT g5_3) (zK) hS (zp 5 rfl rfl (gT g5_3) (zK) hS (zp 6 rfl rfl (gT g5_3) (z7 (pV 0 rfl) 1 i2 rfl rfl rfl (by omega)) hS (zp 7 rfl rfl (gT g5_3) (yT (pV 0 rfl) 1 i2 0 (fun _ => rfl) rfl rfl (by omega) rfl) hS (zp 8 rfl rfl (gT g5_3) (zK) hS (zp 9 rfl rfl (gT g5_3) (zK) hS (zp 10 rfl rfl (gT g5_3) (kp (c := ((i2 - 1 : Nat) : Int)) rfl rfl (xg (by omega) (by omega))) hS (zp 11 rfl rfl (gT g5_3) (z7 (pV 0 rfl) 1 (i2 - 1) rfl rfl rfl (by omega)) hS (zp 12 rfl rfl (gT g5_3) (yT (pV 0 rfl) 1 (i2 - 1) 0 (fun _ => rfl) rfl rfl (by omega) rfl) hS (zX 13 rfl hw (zR rfl (gT g5_3) (zQ rfl rfl (fun w' hw => (xZ (zG q i2) (zG q (i2 - 1)) w').mono ?_))))))))))))
     rintro _ w1 ⟨rfl, hO⟩
     refine (?_ : CL _ _ _ _ _ _ (Own w S [Res.vec 32 1 v q.length (q.flatMap U1)])) w1 (hw.frame0 hO)
     refine zE [0] rfl (by decide) (fun w' hw hS => zp 14 rfl rfl (gT g5_3) (jN (q := olt (zG q i2) (zG q (i2 - 1))) rfl) hS (zD 15 rfl (xq (gT g5_3)) hS (zM ?_)))
     refine (?_ : C _ _ _ _ _ _ _ (Own w S [Res.vec 32 1 v q.length (q.flatMap U1)])) _ hw
     refine zV rfl (fun c2 => ?_) (fun c2 => ?_)
     ·
      refine zJ (zW (zY (zC rfl (zn rfl rfl (zh (by omega)) rfl (zH rfl ?_)))))
      exact zd (fun w' hw => ⟨i2 + 1, ⟨rfl, rfl, rfl, rfl, rfl, trivial⟩, ⟨⟨by omega, by omega⟩, hU2.step c2⟩, hw, (by omega)⟩)
     ·
      exact yr rfl (fun w' hw => ⟨i2, ⟨rfl, rfl, rfl, rfl, rfl, trivial⟩, ⟨hi2, hU2⟩, hw⟩)
    ·
     refine zj 4 rfl rfl (gF g5_3) rfl hS (zj 5 rfl rfl (gF g5_3) rfl hS (zj 6 rfl rfl (gF g5_3) rfl hS (zj 7 rfl rfl (gF g5_3) rfl hS (zj 8 rfl rfl (gF g5_3) rfl hS (zj 9 rfl rfl (gF g5_3) rfl hS (zj 10 rfl rfl (gF g5_3) rfl hS (zj 11 rfl rfl (gF g5_3) rfl hS (zj 12 rfl rfl (gF g5_3) rfl hS (zj 13 rfl rfl (gF g5_3) rfl hS (zj 14 rfl rfl (gF g5_3) rfl hS (zD 15 rfl (xr (gF g5_3)) hS (zM ?_))))))))))))
     refine (?_ : C _ _ _ _ _ _ _ (Own w S [Res.vec 32 1 v q.length (q.flatMap U1)])) _ hw
     refine xt rfl ?_
     exact yr rfl (fun w' hw => ⟨i2, ⟨rfl, rfl, rfl, rfl, rfl, trivial⟩, ⟨hi2, hU2⟩, hw⟩)
   have hi3 := hΦ.1
   have hU3 := hΦ.2
   refine zL (zB (zC rfl (zC rfl (yV rfl rfl rfl (zA (zV rfl (fun c4 => ?_) (fun c4 => ?_)))))))
   ·
    refine zB (zH rfl (zA ?_))
    exact zN (z4 (v := .bool true) rfl rfl (fun w' hw => ⟨q, true, rfl, hS1, (fun _ => by rw [show b = i2 by omega]; exact hU3), hw⟩))
   ·
    refine zJ (zL (zB (zC rfl (zC rfl (yJ rfl rfl (zh (by omega)) rfl (z9 rfl rfl rfl (zA (zV rfl (fun c5 => ?_) (fun c5 => ?_)))))))))
    ·
     refine zB (zH rfl (zA ?_))
     exact zN (z4 (v := .bool false) rfl rfl (fun w' hw => ⟨q, false, rfl, hS1, (fun h => by cases h), hw⟩))
    ·
     refine zJ (ye (fun (n : List Nat) => [(0, v), (1, Vj a), (2, Vj b), (7, Vj i2), (8, Vj j)]) (fun (n : List Nat) => n = yL q i2 (i2 - 1)) (fun (n : List Nat) => [Res.vec 32 1 v n.length (n.flatMap U1)]) ?_ (fun n g hΦ => ?_))
     ·
      refine zZ [] rfl (by decide) (by kernel_rfl) (fun w' hw hS => zD 0 rfl (zK) hS (zD 1 rfl (zK) hS (zD 2 rfl (zK) hS (zD 3 rfl (zK) hS (zD 4 rfl (kp (c := ((i2 - 1 : Nat) : Int)) rfl rfl (xg (by omega) (by omega))) hS (zD 5 rfl (zK) hS (zD 6 rfl (zK) hS (zD 7 rfl (kp (c := ((i2 - 1 : Nat) : Int)) rfl rfl (xg (by omega) (by omega))) hS (zD 10 rfl (zK) hS (zD 11 rfl (zK) hS (za 8 12 ?_ ?_)))))))))))
      ·
       refine zT 8 rfl hw (zF (pV 0 rfl) 1 (i2 - 1) rfl rfl rfl (by omega) rfl (zE [] rfl (by decide) (fun w' hw hS => za 9 12 ?_ ?_)))
       ·
        refine zT 9 rfl hw (zP (pV 0 rfl) 1 (i2 - 1) 0 (fun _ => rfl) rfl rfl (by omega) rfl rfl (zI 12 rfl (zF (pV 0 rfl) 1 i2 rfl rfl rfl (by omega) rfl (zI 13 rfl (zP (pV 0 rfl) 1 i2 0 (fun _ => rfl) rfl rfl (by omega) rfl rfl (zI 14 rfl (zF (pV 0 rfl) 1 i2 rfl rfl rfl (by omega) rfl (zI 15 rfl ?_))))))))
        refine zS 0 i2 (zG q (i2 - 1)) rfl (fun _ => rfl) rfl (by omega) rfl rfl rfl (by omega) (zI 16 rfl (zF (pV 0 rfl) 1 (i2 - 1) rfl rfl rfl (by simp only [List.length_set]; omega) rfl (zI 17 rfl (zS 0 (i2 - 1) (zG q i2) rfl (fun _ => rfl) rfl (by omega) rfl rfl rfl (by simp only [List.length_set]; omega) (zE [] rfl (by decide) (fun w' hw hS => zM ?_))))))
        exact ⟨yL q i2 (i2 - 1), ⟨rfl, rfl, rfl, rfl, rfl, trivial⟩, rfl, hw⟩
       ·
        refine zT 12 rfl hw (zF (pV 0 rfl) 1 i2 rfl rfl rfl (by omega) rfl (zE [] rfl (by decide) (fun w' hw hS => za 9 13 ?_ ?_)))
        ·
         refine zT 9 rfl hw (zP (pV 0 rfl) 1 (i2 - 1) 0 (fun _ => rfl) rfl rfl (by omega) rfl rfl (zI 13 rfl (zP (pV 0 rfl) 1 i2 0 (fun _ => rfl) rfl rfl (by omega) rfl rfl (zI 14 rfl (zF (pV 0 rfl) 1 i2 rfl rfl rfl (by omega) rfl (zI 15 rfl (zS 0 i2 (zG q (i2 - 1)) rfl (fun _ => rfl) rfl (by omega) rfl rfl rfl (by omega) (zI 16 rfl ?_))))))))
         refine zF (pV 0 rfl) 1 (i2 - 1) rfl rfl rfl (by simp only [List.length_set]; omega) rfl (zI 17 rfl (zS 0 (i2 - 1) (zG q i2) rfl (fun _ => rfl) rfl (by omega) rfl rfl rfl (by simp only [List.length_set]; omega) (zE [] rfl (by decide) (fun w' hw hS => zM ?_))))
         exact ⟨yL q i2 (i2 - 1), ⟨rfl, rfl, rfl, rfl, rfl, trivial⟩, rfl, hw⟩
        ·
         refine zT 13 rfl hw (zP (pV 0 rfl) 1 i2 0 (fun _ => rfl) rfl rfl (by omega) rfl rfl (zI 9 rfl (zP (pV 0 rfl) 1 (i2 - 1) 0 (fun _ => rfl) rfl rfl (by omega) rfl rfl (zI 14 rfl (zF (pV 0 rfl) 1 i2 rfl rfl rfl (by omega) rfl (zI 15 rfl (zS 0 i2 (zG q (i2 - 1)) rfl (fun _ => rfl) rfl (by omega) rfl rfl rfl (by omega) (zI 16 rfl ?_))))))))
         refine zF (pV 0 rfl) 1 (i2 - 1) rfl rfl rfl (by simp only [List.length_set]; omega) rfl (zI 17 rfl (zS 0 (i2 - 1) (zG q i2) rfl (fun _ => rfl) rfl (by omega) rfl rfl rfl (by simp only [List.length_set]; omega) (zE [] rfl (by decide) (fun w' hw hS => zM ?_))))
         exact ⟨yL q i2 (i2 - 1), ⟨rfl, rfl, rfl, rfl, rfl, trivial⟩, rfl, hw⟩
      ·
       refine zT 12 rfl hw (zF (pV 0 rfl) 1 i2 rfl rfl rfl (by omega) rfl (zE [] rfl (by decide) (fun w' hw hS => za 8 13 ?_ ?_)))
       ·
        refine zT 8 rfl hw (zF (pV 0 rfl) 1 (i2 - 1) rfl rfl rfl (by omega) rfl (zE [] rfl (by decide) (fun w' hw hS => za 9 13 ?_ ?_)))
        ·
         refine zT 9 rfl hw (zP (pV 0 rfl) 1 (i2 - 1) 0 (fun _ => rfl) rfl rfl (by omega) rfl rfl (zI 13 rfl (zP (pV 0 rfl) 1 i2 0 (fun _ => rfl) rfl rfl (by omega) rfl rfl (zI 14 rfl (zF (pV 0 rfl) 1 i2 rfl rfl rfl (by omega) rfl (zI 15 rfl (zS 0 i2 (zG q (i2 - 1)) rfl (fun _ => rfl) rfl (by omega) rfl rfl rfl (by omega) (zI 16 rfl ?_))))))))
         refine zF (pV 0 rfl) 1 (i2 - 1) rfl rfl rfl (by simp only [List.length_set]; omega) rfl (zI 17 rfl (zS 0 (i2 - 1) (zG q i2) rfl (fun _ => rfl) rfl (by omega) rfl rfl rfl (by simp only [List.length_set]; omega) (zE [] rfl (by decide) (fun w' hw hS => zM ?_))))
         exact ⟨yL q i2 (i2 - 1), ⟨rfl, rfl, rfl, rfl, rfl, trivial⟩, rfl, hw⟩
        ·
         refine zT 13 rfl hw (zP (pV 0 rfl) 1 i2 0 (fun _ => rfl) rfl rfl (by omega) rfl rfl (zI 9 rfl (zP (pV 0 rfl) 1 (i2 - 1) 0 (fun _ => rfl) rfl rfl (by omega) rfl rfl (zI 14 rfl (zF (pV 0 rfl) 1 i2 rfl rfl rfl (by omega) rfl (zI 15 rfl (zS 0 i2 (zG q (i2 - 1)) rfl (fun _ => rfl) rfl (by omega) rfl rfl rfl (by omega) (zI 16 rfl ?_))))))))
         refine zF (pV 0 rfl) 1 (i2 - 1) rfl rfl rfl (by simp only [List.length_set]; omega) rfl (zI 17 rfl (zS 0 (i2 - 1) (zG q i2) rfl (fun _ => rfl) rfl (by omega) rfl rfl rfl (by simp only [List.length_set]; omega) (zE [] rfl (by decide) (fun w' hw hS => zM ?_))))
         exact ⟨yL q i2 (i2 - 1), ⟨rfl, rfl, rfl, rfl, rfl, trivial⟩, rfl, hw⟩
       ·
        refine zT 13 rfl hw (zP (pV 0 rfl) 1 i2 0 (fun _ => rfl) rfl rfl (by omega) rfl rfl (zI 8 rfl (zF (pV 0 rfl) 1 (i2 - 1) rfl rfl rfl (by omega) rfl (zI 9 rfl (zP (pV 0 rfl) 1 (i2 - 1) 0 (fun _ => rfl) rfl rfl (by omega) rfl rfl (zI 14 rfl (zF (pV 0 rfl) 1 i2 rfl rfl rfl (by omega) rfl (zI 15 rfl ?_))))))))
        refine zS 0 i2 (zG q (i2 - 1)) rfl (fun _ => rfl) rfl (by omega) rfl rfl rfl (by omega) (zI 16 rfl (zF (pV 0 rfl) 1 (i2 - 1) rfl rfl rfl (by simp only [List.length_set]; omega) rfl (zI 17 rfl (zS 0 (i2 - 1) (zG q i2) rfl (fun _ => rfl) rfl (by omega) rfl rfl rfl (by simp only [List.length_set]; omega) (zE [] rfl (by decide) (fun w' hw hS => zM ?_))))))
        exact ⟨yL q i2 (i2 - 1), ⟨rfl, rfl, rfl, rfl, rfl, trivial⟩, rfl, hw⟩
     have hn := hΦ
     have hSn : Same a b l n := by rw [hn]; exact hS1.then_swp ⟨by omega, by omega⟩ ⟨by omega, by omega⟩ hb
     have hnl := hSn.len
     have hUn : Up a (i2 - 1) n := by rw [hn]; exact (hU3.less (by omega)).keep (Same.ex (a := i2 - 1) (b := i2 + 1) ⟨by omega, by omega⟩ ⟨by omega, by omega⟩ (by omega)) (.inl (by omega))
     refine ye (fun (r : List Nat) => [(0, v), (1, Vj a), (2, Vj b), (7, Vj i2), (8, Vj j)]) (fun (r : List Nat) => Same a b l r ∧ Up a i2 r) (fun (r : List Nat) => [Res.vec 32 1 v r.length (r.flatMap U1)]) ?_ (fun r g hΦ => ?_)
     ·
      refine zB (zC rfl (zC rfl (yJ (c := ((i2 - a : Nat) : Int)) rfl rfl (wsi (by omega) (by omega)) rfl (yU rfl rfl rfl (zA (zV rfl (fun c6 => ?_) (fun c6 => ?_)))))))
      ·
       refine zB (zC rfl (yJ (c := ((i2 - 1 : Nat) : Int)) rfl rfl (xg (by omega) (by omega)) rfl (zH rfl (zA (zW ?_)))))
       refine xB (fun (j3 : Nat) (r : List Nat) => [(0, v), (1, Vj a), (2, Vj b), (7, Vj i2), (8, Vj j), (9, Vj j3)]) (fun (j3 : Nat) (r : List Nat) => (a ≤ j3 ∧ j3 ≤ i2 - 1) ∧ Same a b l r ∧ Ins a (i2 - 1) j3 r) (fun (j3 : Nat) (r : List Nat) => [Res.vec 32 1 v r.length (r.flatMap U1)]) (fun (j3 : Nat) (r : List Nat) => j3) (fun w' hw => ⟨i2 - 1, n, ⟨rfl, rfl, rfl, rfl, rfl, rfl, trivial⟩, ⟨⟨by omega, by omega⟩, hSn, Ins.start hUn⟩, hw⟩) (fun j3 r g hΦ => ?_)
       have hj3 := hΦ.1
       have hS3 := hΦ.2.1
       have hI3 := hΦ.2.2
       have hl3 := hS3.len
       have hp3 := hpr.keep hS3 hb
       refine zL (zB (zC rfl (yU rfl rfl rfl (zA (zV rfl (fun c7 => ?_) (fun c7 => ?_))))))
       ·
        refine zJ (ye (fun (m : List Nat) => [(0, v), (1, Vj a), (2, Vj b), (7, Vj i2), (8, Vj j), (9, Vj j3)]) (fun (m : List Nat) => m = yL r j3 (j3 - 1) ∧ a < j3 ∧ olt (zG r j3) (zG r (j3 - 1))) (fun (m : List Nat) => [Res.vec 32 1 v m.length (m.flatMap U1)]) ?_ (fun m g hΦ => ?_))
        ·
         refine zW (zL (zL (zZ [0] rfl (by decide) (by kernel_rfl) (fun w' hw hS => zD 0 rfl (zK) hS (zD 1 rfl (zK) hS (zD 2 rfl (z7 (pV 0 rfl) 1 j3 rfl rfl rfl (by omega)) hS (zD 3 rfl (yT (pV 0 rfl) 1 j3 0 (fun _ => rfl) rfl rfl (by omega) rfl) hS (zD 4 rfl (zK) hS (zD 5 rfl (zK) hS (zD 6 rfl (kp (c := ((j3 - 1 : Nat) : Int)) rfl rfl (xg (by omega) (by omega))) hS (zD 7 rfl (z7 (pV 0 rfl) 1 (j3 - 1) rfl rfl rfl (by omega)) hS (zD 8 rfl (yT (pV 0 rfl) 1 (j3 - 1) 0 (fun _ => rfl) rfl rfl (by omega) rfl) hS ?_))))))))))))
         refine zX 9 rfl hw (zQ rfl rfl (fun w' hw => (xZ (zG r j3) (zG r (j3 - 1)) w').mono ?_))
         rintro _ w1 ⟨rfl, hO⟩
         refine (?_ : CL _ _ _ _ _ _ (Own w S [Res.vec 32 1 v r.length (r.flatMap U1)])) w1 (hw.frame0 hO)
         refine zE [0] rfl (by decide) (fun w' hw hS => zD 10 rfl (jN (q := olt (zG r j3) (zG r (j3 - 1))) rfl) hS (zM ?_))
         refine (?_ : C _ _ _ _ _ _ _ (Own w S [Res.vec 32 1 v r.length (r.flatMap U1)])) _ hw
         refine zV rfl (fun c8 => ?_) (fun c8 => ?_)
         ·
          exact yr rfl (fun w' hw => ⟨r, ⟨rfl, rfl, rfl, rfl, rfl, trivial⟩, ⟨hS3, (by have h := hI3.done (fun _ => c8); rwa [show i2 - 1 + 1 = i2 by omega] at h)⟩, hw⟩)
         ·
          have c7' := Decidable.not_not.1 c8
          have haj : a < j3 := (by rcases Nat.lt_or_ge a j3 with h | h; exact h; rcases hp3 with h0 | h0; omega; have h1 := h0 j3 (by omega) (by omega); rw [show a - 1 = j3 - 1 by omega] at h1; exact absurd c7' h1)
          refine zJ (zZ [] rfl (by decide) (by kernel_rfl) (fun w' hw hS => zD 0 rfl (zK) hS (zD 1 rfl (zK) hS (zD 2 rfl (zK) hS (zD 3 rfl (zK) hS (zD 4 rfl (kp (c := ((j3 - 1 : Nat) : Int)) rfl rfl (xg (by omega) (by omega))) hS (zD 5 rfl (zK) hS (zD 6 rfl (zK) hS (zD 7 rfl (kp (c := ((j3 - 1 : Nat) : Int)) rfl rfl (xg (by omega) (by omega))) hS (zD 10 rfl (zK) hS (zD 11 rfl (zK) hS (za 8 12 ?_ ?_))))))))))))
          ·
           refine zT 8 rfl hw (zF (pV 0 rfl) 1 (j3 - 1) rfl rfl rfl (by omega) rfl (zE [] rfl (by decide) (fun w' hw hS => za 9 12 ?_ ?_)))
           ·
            refine zT 9 rfl hw (zP (pV 0 rfl) 1 (j3 - 1) 0 (fun _ => rfl) rfl rfl (by omega) rfl rfl (zI 12 rfl (zF (pV 0 rfl) 1 j3 rfl rfl rfl (by omega) rfl (zI 13 rfl (zP (pV 0 rfl) 1 j3 0 (fun _ => rfl) rfl rfl (by omega) rfl rfl (zI 14 rfl (zF (pV 0 rfl) 1 j3 rfl rfl rfl (by omega) rfl (zI 15 rfl ?_))))))))
            refine zS 0 j3 (zG r (j3 - 1)) rfl (fun _ => rfl) rfl (by omega) rfl rfl rfl (by omega) (zI 16 rfl (zF (pV 0 rfl) 1 (j3 - 1) rfl rfl rfl (by simp only [List.length_set]; omega) rfl (zI 17 rfl (zS 0 (j3 - 1) (zG r j3) rfl (fun _ => rfl) rfl (by omega) rfl rfl rfl (by simp only [List.length_set]; omega) (zE [] rfl (by decide) (fun w' hw hS => zM ?_))))))
            exact ⟨yL r j3 (j3 - 1), ⟨rfl, rfl, rfl, rfl, rfl, rfl, trivial⟩, ⟨rfl, haj, c7'⟩, hw⟩
           ·
            refine zT 12 rfl hw (zF (pV 0 rfl) 1 j3 rfl rfl rfl (by omega) rfl (zE [] rfl (by decide) (fun w' hw hS => za 9 13 ?_ ?_)))
            ·
             refine zT 9 rfl hw (zP (pV 0 rfl) 1 (j3 - 1) 0 (fun _ => rfl) rfl rfl (by omega) rfl rfl (zI 13 rfl (zP (pV 0 rfl) 1 j3 0 (fun _ => rfl) rfl rfl (by omega) rfl rfl (zI 14 rfl (zF (pV 0 rfl) 1 j3 rfl rfl rfl (by omega) rfl (zI 15 rfl (zS 0 j3 (zG r (j3 - 1)) rfl (fun _ => rfl) rfl (by omega) rfl rfl rfl (by omega) (zI 16 rfl ?_))))))))
             refine zF (pV 0 rfl) 1 (j3 - 1) rfl rfl rfl (by simp only [List.length_set]; omega) rfl (zI 17 rfl (zS 0 (j3 - 1) (zG r j3) rfl (fun _ => rfl) rfl (by omega) rfl rfl rfl (by simp only [List.length_set]; omega) (zE [] rfl (by decide) (fun w' hw hS => zM ?_))))
             exact ⟨yL r j3 (j3 - 1), ⟨rfl, rfl, rfl, rfl, rfl, rfl, trivial⟩, ⟨rfl, haj, c7'⟩, hw⟩
            ·
             refine zT 13 rfl hw (zP (pV 0 rfl) 1 j3 0 (fun _ => rfl) rfl rfl (by omega) rfl rfl (zI 9 rfl (zP (pV 0 rfl) 1 (j3 - 1) 0 (fun _ => rfl) rfl rfl (by omega) rfl rfl (zI 14 rfl (zF (pV 0 rfl) 1 j3 rfl rfl rfl (by omega) rfl (zI 15 rfl (zS 0 j3 (zG r (j3 - 1)) rfl (fun _ => rfl) rfl (by omega) rfl rfl rfl (by omega) (zI 16 rfl ?_))))))))
             refine zF (pV 0 rfl) 1 (j3 - 1) rfl rfl rfl (by simp only [List.length_set]; omega) rfl (zI 17 rfl (zS 0 (j3 - 1) (zG r j3) rfl (fun _ => rfl) rfl (by omega) rfl rfl rfl (by simp only [List.length_set]; omega) (zE [] rfl (by decide) (fun w' hw hS => zM ?_))))
             exact ⟨yL r j3 (j3 - 1), ⟨rfl, rfl, rfl, rfl, rfl, rfl, trivial⟩, ⟨rfl, haj, c7'⟩, hw⟩
          ·
           refine zT 12 rfl hw (zF (pV 0 rfl) 1 j3 rfl rfl rfl (by omega) rfl (zE [] rfl (by decide) (fun w' hw hS => za 8 13 ?_ ?_)))
           ·
            refine zT 8 rfl hw (zF (pV 0 rfl) 1 (j3 - 1) rfl rfl rfl (by omega) rfl (zE [] rfl (by decide) (fun w' hw hS => za 9 13 ?_ ?_)))
            ·
             refine zT 9 rfl hw (zP (pV 0 rfl) 1 (j3 - 1) 0 (fun _ => rfl) rfl rfl (by omega) rfl rfl (zI 13 rfl (zP (pV 0 rfl) 1 j3 0 (fun _ => rfl) rfl rfl (by omega) rfl rfl (zI 14 rfl (zF (pV 0 rfl) 1 j3 rfl rfl rfl (by omega) rfl (zI 15 rfl (zS 0 j3 (zG r (j3 - 1)) rfl (fun _ => rfl) rfl (by omega) rfl rfl rfl (by omega) (zI 16 rfl ?_))))))))
             refine zF (pV 0 rfl) 1 (j3 - 1) rfl rfl rfl (by simp only [List.length_set]; omega) rfl (zI 17 rfl (zS 0 (j3 - 1) (zG r j3) rfl (fun _ => rfl) rfl (by omega) rfl rfl rfl (by simp only [List.length_set]; omega) (zE [] rfl (by decide) (fun w' hw hS => zM ?_))))
             exact ⟨yL r j3 (j3 - 1), ⟨rfl, rfl, rfl, rfl, rfl, rfl, trivial⟩, ⟨rfl, haj, c7'⟩, hw⟩
            ·
             refine zT 13 rfl hw (zP (pV 0 rfl) 1 j3 0 (fun _ => rfl) rfl rfl (by omega) rfl rfl (zI 9 rfl (zP (pV 0 rfl) 1 (j3 - 1) 0 (fun _ => rfl) rfl rfl (by omega) rfl rfl (zI 14 rfl (zF (pV 0 rfl) 1 j3 rfl rfl rfl (by omega) rfl (zI 15 rfl (zS 0 j3 (zG r (j3 - 1)) rfl (fun _ => rfl) rfl (by omega) rfl rfl rfl (by omega) (zI 16 rfl ?_))))))))
             refine zF (pV 0 rfl) 1 (j3 - 1) rfl rfl rfl (by simp only [List.length_set]; omega) rfl (zI 17 rfl (zS 0 (j3 - 1) (zG r j3) rfl (fun _ => rfl) rfl (by omega) rfl rfl rfl (by simp only [List.length_set]; omega) (zE [] rfl (by decide) (fun w' hw hS => zM ?_))))
             exact ⟨yL r j3 (j3 - 1), ⟨rfl, rfl, rfl, rfl, rfl, rfl, trivial⟩, ⟨rfl, haj, c7'⟩, hw⟩
           ·
            refine zT 13 rfl hw (zP (pV 0 rfl) 1 j3 0 (fun _ => rfl) rfl rfl (by omega) rfl rfl (zI 8 rfl (zF (pV 0 rfl) 1 (j3 - 1) rfl rfl rfl (by omega) rfl (zI 9 rfl (zP (pV 0 rfl) 1 (j3 - 1) 0 (fun _ => rfl) rfl rfl (by omega) rfl rfl (zI 14 rfl (zF (pV 0 rfl) 1 j3 rfl rfl rfl (by omega) rfl (zI 15 rfl ?_))))))))
            refine zS 0 j3 (zG r (j3 - 1)) rfl (fun _ => rfl) rfl (by omega) rfl rfl rfl (by omega) (zI 16 rfl (zF (pV 0 rfl) 1 (j3 - 1) rfl rfl rfl (by simp only [List.length_set]; omega) rfl (zI 17 rfl (zS 0 (j3 - 1) (zG r j3) rfl (fun _ => rfl) rfl (by omega) rfl rfl rfl (by simp only [List.length_set]; omega) (zE [] rfl (by decide) (fun w' hw hS => zM ?_))))))
            exact ⟨yL r j3 (j3 - 1), ⟨rfl, rfl, rfl, rfl, rfl, rfl, trivial⟩, ⟨rfl, haj, c7'⟩, hw⟩
        have hm := hΦ.1
        have haj := hΦ.2.1
        have c7' := hΦ.2.2
        refine zY (zC rfl (yJ (c := ((j3 - 1 : Nat) : Int)) rfl rfl (xg (by omega) (by omega)) rfl (zH rfl ?_)))
        exact zd (fun w' hw => ⟨j3 - 1, m, ⟨rfl, rfl, rfl, rfl, rfl, rfl, trivial⟩, ⟨⟨by omega, by omega⟩, (by rw [hm]; exact hS3.then_swp ⟨by omega, by omega⟩ ⟨by omega, by omega⟩ hb), (by rw [hm]; exact hI3.step haj (by omega) (by omega) c7')⟩, hw, (by omega)⟩)
       ·
        exact yr rfl (fun w' hw => ⟨r, ⟨rfl, rfl, rfl, rfl, rfl, trivial⟩, ⟨hS3, (by have h := hI3.done (fun h => absurd h (by omega)); rwa [show i2 - 1 + 1 = i2 by omega] at h)⟩, hw⟩)
      ·
       exact xQ (fun w' hw => ⟨n, ⟨rfl, rfl, rfl, rfl, rfl, trivial⟩, ⟨hSn, Up.one (by omega)⟩, hw⟩)
     have hSr := hΦ.1
     have hUr := hΦ.2
     have hrl := hSr.len
     refine zB (zC rfl (zC rfl (yJ (c := ((b - i2 : Nat) : Int)) rfl rfl (wsi (by omega) (by omega)) rfl (yU rfl rfl rfl (zA (zV rfl (fun c9 => ?_) (fun c9 => ?_)))))))
     ·
      refine zB (zC rfl (zn rfl rfl (zh (by omega)) rfl (zH rfl (zA (zW ?_)))))
      refine xB (fun (j4 : Nat) (r : List Nat) => [(0, v), (1, Vj a), (2, Vj b), (7, Vj i2), (8, Vj j), (10, Vj j4)]) (fun (j4 : Nat) (r : List Nat) => (i2 + 1 ≤ j4 ∧ j4 ≤ b) ∧ Same a b l r ∧ Up a i2 r) (fun (j4 : Nat) (r : List Nat) => [Res.vec 32 1 v r.length (r.flatMap U1)]) (fun (j4 : Nat) (r : List Nat) => b - j4) (fun w' hw => ⟨i2 + 1, r, ⟨rfl, rfl, rfl, rfl, rfl, rfl, trivial⟩, ⟨⟨by omega, by omega⟩, hSr, hUr⟩, hw⟩) (fun j4 r g hΦ => ?_)
      have hj4 := hΦ.1
      have hS4 := hΦ.2.1
      have hU4 := hΦ.2.2
      have hl4 := hS4.len
      refine zL (zB (zC rfl (zC rfl (z9 rfl rfl rfl (zA (zV rfl (fun c10 => ?_) (fun c10 => ?_)))))))
      ·
       refine zJ (ye (fun (m : List Nat) => [(0, v), (1, Vj a), (2, Vj b), (7, Vj i2), (8, Vj j), (10, Vj j4)]) (fun (m : List Nat) => m = yL r j4 (j4 - 1)) (fun (m : List Nat) => [Res.vec 32 1 v m.length (m.flatMap U1)]) ?_ (fun m g hΦ => ?_))
       ·
        refine zW (zL (zL (zZ [0] rfl (by decide) (by kernel_rfl) (fun w' hw hS => zD 0 rfl (zK) hS (zD 1 rfl (zK) hS (zD 2 rfl (z7 (pV 0 rfl) 1 j4 rfl rfl rfl (by omega)) hS (zD 3 rfl (yT (pV 0 rfl) 1 j4 0 (fun _ => rfl) rfl rfl (by omega) rfl) hS (zD 4 rfl (zK) hS (zD 5 rfl (zK) hS (zD 6 rfl (kp (c := ((j4 - 1 : Nat) : Int)) rfl rfl (xg (by omega) (by omega))) hS (zD 7 rfl (z7 (pV 0 rfl) 1 (j4 - 1) rfl rfl rfl (by omega)) hS (zD 8 rfl (yT (pV 0 rfl) 1 (j4 - 1) 0 (fun _ => rfl) rfl rfl (by omega) rfl) hS ?_))))))))))))
        refine zX 9 rfl hw (zQ rfl rfl (fun w' hw => (xZ (zG r j4) (zG r (j4 - 1)) w').mono ?_))
        rintro _ w1 ⟨rfl, hO⟩
        refine (?_ : CL _ _ _ _ _ _ (Own w S [Res.vec 32 1 v r.length (r.flatMap U1)])) w1 (hw.frame0 hO)
        refine zE [0] rfl (by decide) (fun w' hw hS => zD 10 rfl (jN (q := olt (zG r j4) (zG r (j4 - 1))) rfl) hS (zM ?_))
        refine (?_ : C _ _ _ _ _ _ _ (Own w S [Res.vec 32 1 v r.length (r.flatMap U1)])) _ hw
        refine zV rfl (fun c11 => ?_) (fun c11 => ?_)
        ·
         refine yB rfl (zY (zC rfl (zn rfl rfl (zh (by omega)) rfl (zH rfl ?_))))
         exact zd (fun w' hw => ⟨j + 1, i2, r, ⟨rfl, rfl, rfl, rfl, rfl, trivial⟩, ⟨⟨⟨by omega, by omega⟩, by omega⟩, hΦ.2⟩, hw, (by omega)⟩)
        ·
         refine zJ (zZ [] rfl (by decide) (by kernel_rfl) (fun w' hw hS => zD 0 rfl (zK) hS (zD 1 rfl (zK) hS (zD 2 rfl (zK) hS (zD 3 rfl (zK) hS (zD 4 rfl (kp (c := ((j4 - 1 : Nat) : Int)) rfl rfl (xg (by omega) (by omega))) hS (zD 5 rfl (zK) hS (zD 6 rfl (zK) hS (zD 7 rfl (kp (c := ((j4 - 1 : Nat) : Int)) rfl rfl (xg (by omega) (by omega))) hS (zD 10 rfl (zK) hS (zD 11 rfl (zK) hS (za 8 12 ?_ ?_))))))))))))
         ·
          refine zT 8 rfl hw (zF (pV 0 rfl) 1 (j4 - 1) rfl rfl rfl (by omega) rfl (zE [] rfl (by decide) (fun w' hw hS => za 9 12 ?_ ?_)))
          ·
           refine zT 9 rfl hw (zP (pV 0 rfl) 1 (j4 - 1) 0 (fun _ => rfl) rfl rfl (by omega) rfl rfl (zI 12 rfl (zF (pV 0 rfl) 1 j4 rfl rfl rfl (by omega) rfl (zI 13 rfl (zP (pV 0 rfl) 1 j4 0 (fun _ => rfl) rfl rfl (by omega) rfl rfl (zI 14 rfl (zF (pV 0 rfl) 1 j4 rfl rfl rfl (by omega) rfl (zI 15 rfl ?_))))))))
           refine zS 0 j4 (zG r (j4 - 1)) rfl (fun _ => rfl) rfl (by omega) rfl rfl rfl (by omega) (zI 16 rfl (zF (pV 0 rfl) 1 (j4 - 1) rfl rfl rfl (by simp only [List.length_set]; omega) rfl (zI 17 rfl (zS 0 (j4 - 1) (zG r j4) rfl (fun _ => rfl) rfl (by omega) rfl rfl rfl (by simp only [List.length_set]; omega) (zE [] rfl (by decide) (fun w' hw hS => zM ?_))))))
           exact ⟨yL r j4 (j4 - 1), ⟨rfl, rfl, rfl, rfl, rfl, rfl, trivial⟩, rfl, hw⟩
          ·
           refine zT 12 rfl hw (zF (pV 0 rfl) 1 j4 rfl rfl rfl (by omega) rfl (zE [] rfl (by decide) (fun w' hw hS => za 9 13 ?_ ?_)))
           ·
            refine zT 9 rfl hw (zP (pV 0 rfl) 1 (j4 - 1) 0 (fun _ => rfl) rfl rfl (by omega) rfl rfl (zI 13 rfl (zP (pV 0 rfl) 1 j4 0 (fun _ => rfl) rfl rfl (by omega) rfl rfl (zI 14 rfl (zF (pV 0 rfl) 1 j4 rfl rfl rfl (by omega) rfl (zI 15 rfl (zS 0 j4 (zG r (j4 - 1)) rfl (fun _ => rfl) rfl (by omega) rfl rfl rfl (by omega) (zI 16 rfl ?_))))))))
            refine zF (pV 0 rfl) 1 (j4 - 1) rfl rfl rfl (by simp only [List.length_set]; omega) rfl (zI 17 rfl (zS 0 (j4 - 1) (zG r j4) rfl (fun _ => rfl) rfl (by omega) rfl rfl rfl (by simp only [List.length_set]; omega) (zE [] rfl (by decide) (fun w' hw hS => zM ?_))))
            exact ⟨yL r j4 (j4 - 1), ⟨rfl, rfl, rfl, rfl, rfl, rfl, trivial⟩, rfl, hw⟩
           ·
            refine zT 13 rfl hw (zP (pV 0 rfl) 1 j4 0 (fun _ => rfl) rfl rfl (by omega) rfl rfl (zI 9 rfl (zP (pV 0 rfl) 1 (j4 - 1) 0 (fun _ => rfl) rfl rfl (by omega) rfl rfl (zI 14 rfl (zF (pV 0 rfl) 1 j4 rfl rfl rfl (by omega) rfl (zI 15 rfl (zS 0 j4 (zG r (j4 - 1)) rfl (fun _ => rfl) rfl (by omega) rfl rfl rfl (by omega) (zI 16 rfl ?_))))))))
            refine zF (pV 0 rfl) 1 (j4 - 1) rfl rfl rfl (by simp only [List.length_set]; omega) rfl (zI 17 rfl (zS 0 (j4 - 1) (zG r j4) rfl (fun _ => rfl) rfl (by omega) rfl rfl rfl (by simp only [List.length_set]; omega) (zE [] rfl (by decide) (fun w' hw hS => zM ?_))))
            exact ⟨yL r j4 (j4 - 1), ⟨rfl, rfl, rfl, rfl, rfl, rfl, trivial⟩, rfl, hw⟩
         ·
          refine zT 12 rfl hw (zF (pV 0 rfl) 1 j4 rfl rfl rfl (by omega) rfl (zE [] rfl (by decide) (fun w' hw hS => za 8 13 ?_ ?_)))
          ·
           refine zT 8 rfl hw (zF (pV 0 rfl) 1 (j4 - 1) rfl rfl rfl (by omega) rfl (zE [] rfl (by decide) (fun w' hw hS => za 9 13 ?_ ?_)))
           ·
            refine zT 9 rfl hw (zP (pV 0 rfl) 1 (j4 - 1) 0 (fun _ => rfl) rfl rfl (by omega) rfl rfl (zI 13 rfl (zP (pV 0 rfl) 1 j4 0 (fun _ => rfl) rfl rfl (by omega) rfl rfl (zI 14 rfl (zF (pV 0 rfl) 1 j4 rfl rfl rfl (by omega) rfl (zI 15 rfl (zS 0 j4 (zG r (j4 - 1)) rfl (fun _ => rfl) rfl (by omega) rfl rfl rfl (by omega) (zI 16 rfl ?_))))))))
            refine zF (pV 0 rfl) 1 (j4 - 1) rfl rfl rfl (by simp only [List.length_set]; omega) rfl (zI 17 rfl (zS 0 (j4 - 1) (zG r j4) rfl (fun _ => rfl) rfl (by omega) rfl rfl rfl (by simp only [List.length_set]; omega) (zE [] rfl (by decide) (fun w' hw hS => zM ?_))))
            exact ⟨yL r j4 (j4 - 1), ⟨rfl, rfl, rfl, rfl, rfl, rfl, trivial⟩, rfl, hw⟩
           ·
            refine zT 13 rfl hw (zP (pV 0 rfl) 1 j4 0 (fun _ => rfl) rfl rfl (by omega) rfl rfl (zI 9 rfl (zP (pV 0 rfl) 1 (j4 - 1) 0 (fun _ => rfl) rfl rfl (by omega) rfl rfl (zI 14 rfl (zF (pV 0 rfl) 1 j4 rfl rfl rfl (by omega) rfl (zI 15 rfl (zS 0 j4 (zG r (j4 - 1)) rfl (fun _ => rfl) rfl (by omega) rfl rfl rfl (by omega) (zI 16 rfl ?_))))))))
            refine zF (pV 0 rfl) 1 (j4 - 1) rfl rfl rfl (by simp only [List.length_set]; omega) rfl (zI 17 rfl (zS 0 (j4 - 1) (zG r j4) rfl (fun _ => rfl) rfl (by omega) rfl rfl rfl (by simp only [List.length_set]; omega) (zE [] rfl (by decide) (fun w' hw hS => zM ?_))))
            exact ⟨yL r j4 (j4 - 1), ⟨rfl, rfl, rfl, rfl, rfl, rfl, trivial⟩, rfl, hw⟩
          ·
           refine zT 13 rfl hw (zP (pV 0 rfl) 1 j4 0 (fun _ => rfl) rfl rfl (by omega) rfl rfl (zI 8 rfl (zF (pV 0 rfl) 1 (j4 - 1) rfl rfl rfl (by omega) rfl (zI 9 rfl (zP (pV 0 rfl) 1 (j4 - 1) 0 (fun _ => rfl) rfl rfl (by omega) rfl rfl (zI 14 rfl (zF (pV 0 rfl) 1 j4 rfl rfl rfl (by omega) rfl (zI 15 rfl ?_))))))))
           refine zS 0 j4 (zG r (j4 - 1)) rfl (fun _ => rfl) rfl (by omega) rfl rfl rfl (by omega) (zI 16 rfl (zF (pV 0 rfl) 1 (j4 - 1) rfl rfl rfl (by simp only [List.length_set]; omega) rfl (zI 17 rfl (zS 0 (j4 - 1) (zG r j4) rfl (fun _ => rfl) rfl (by omega) rfl rfl rfl (by simp only [List.length_set]; omega) (zE [] rfl (by decide) (fun w' hw hS => zM ?_))))))
           exact ⟨yL r j4 (j4 - 1), ⟨rfl, rfl, rfl, rfl, rfl, rfl, trivial⟩, rfl, hw⟩
       have hm := hΦ
       refine zY (zC rfl (zn rfl rfl (zh (by omega)) rfl (zH rfl ?_)))
       exact zd (fun w' hw => ⟨j4 + 1, m, ⟨rfl, rfl, rfl, rfl, rfl, rfl, trivial⟩, ⟨⟨by omega, by omega⟩, (by rw [hm]; exact hS4.then_swp ⟨by omega, by omega⟩ ⟨by omega, by omega⟩ hb), (by rw [hm]; exact hU4.keep (Same.ex (a := i2) (b := b) ⟨by omega, by omega⟩ ⟨by omega, by omega⟩ (by omega)) (.inl (by omega)))⟩, hw, (by omega)⟩)
      ·
       refine yB rfl (zY (zC rfl (zn rfl rfl (zh (by omega)) rfl (zH rfl ?_))))
       exact zd (fun w' hw => ⟨j + 1, i2, r, ⟨rfl, rfl, rfl, rfl, rfl, trivial⟩, ⟨⟨⟨by omega, by omega⟩, by omega⟩, hΦ.2⟩, hw, (by omega)⟩)
     ·
      refine zJ (zY (zC rfl (zn rfl rfl (zh (by omega)) rfl (zH rfl ?_))))
      exact zd (fun w' hw => ⟨j + 1, i2, r, ⟨rfl, rfl, rfl, rfl, rfl, trivial⟩, ⟨⟨⟨by omega, by omega⟩, by omega⟩, hSr, hUr⟩, hw, (by omega)⟩)
  ·
   refine yB rfl (zB (zH rfl (zA ?_)))
   exact zN (z4 (v := .bool false) rfl rfl (fun w' hw => ⟨q, false, rfl, hS1, (fun h => by cases h), hw⟩))
theorem zBS {S : List Nat} (v : Value) (l : List Nat) (a b n o : Nat) (w : World) (ha : a < l.length) (hb : b < l.length) (hl : z6 l.length) (hn : n ≤ 100) (hin : Own w S [Res.row o 3 [Vj n]] w) (hv : Rd w S (Res.sl v l.length (l.flatMap U1))) : Rets Tryz.prog 111 #[v, Vj a, Vj b, .pointer (some ⟨o, 0, none⟩)] w fun u_ w' => ∃ (x y m : Nat), u_ = .tuple #[Vj x, Vj y] ∧ ((x = a ∧ y = b) ∨ (x = b ∧ y = a)) ∧ m ≤ n + 1 ∧ Own w S [Res.row o 3 [Vj m]] w' := by
  refine ze Tryz.func111 rfl Tryz.ntmps111 hin ?_
  refine zB (zH rfl (zH rfl (zA (zL (zL (zZ [0] rfl (by decide) (by kernel_rfl) (fun w' hw hS => zD 0 rfl (zK) hS (zD 1 rfl (zK) hS (zD 2 rfl (z7 (pR hv) 1 b rfl rfl rfl (by omega)) hS (zD 3 rfl (yT (pR hv) 1 b 0 (fun _ => rfl) rfl rfl (by omega) rfl) hS (zD 4 rfl (zK) hS (zD 5 rfl (zK) hS ?_))))))))))))
  refine zD 6 rfl (z7 (pR hv) 1 a rfl rfl rfl (by omega)) hS (zD 7 rfl (yT (pR hv) 1 a 0 (fun _ => rfl) rfl rfl (by omega) rfl) hS (zX 8 rfl hw (zQ rfl rfl (fun w' hw => (xZ (zG l b) (zG l a) w').mono ?_))))
  rintro _ w1 ⟨rfl, hO⟩
  refine (?_ : CL _ _ _ _ _ _ (Own w S [Res.row o 3 [Vj n]])) w1 (hw.frame0 hO)
  refine zE [0] rfl (by decide) (fun w' hw hS => zM ?_)
  refine (?_ : C _ _ _ _ _ _ _ (Own w S [Res.row o 3 [Vj n]])) _ hw
  refine zV rfl (fun c1 => ?_) (fun c1 => ?_)
  ·
   refine zB (zC rfl (zt rfl rfl (zU 0 (v := Vj n) rfl rfl rfl rfl (zn rfl rfl (zh (by omega)) rfl (zt rfl rfl (yn (cs := [Vj n]) 0 rfl rfl rfl rfl rfl (zA (zB (zC rfl (zC rfl (zH rfl (zH rfl ?_))))))))))))
   refine zA ?_
   exact zN (yo (v := Vj b) (v' := Vj a) rfl rfl rfl (fun w' hw => ⟨b, a, n + 1, rfl, (.inr ⟨rfl, rfl⟩), (Nat.le_refl _), hw⟩))
  ·
   refine zJ (zB (zC rfl (zC rfl (zH rfl (zH rfl (zA ?_))))))
   exact zN (yo (v := Vj a) (v' := Vj b) rfl rfl rfl (fun w' hw => ⟨a, b, n, rfl, (.inl ⟨rfl, rfl⟩), (Nat.le_succ _), hw⟩))
theorem zBk {S : List Nat} (v : Value) (l : List Nat) (a b c n o : Nat) (w : World) (ha : a < l.length) (hb : b < l.length) (hc : c < l.length) (hl : z6 l.length) (hn : n ≤ 90) (hin : Own w S [Res.row o 3 [Vj n]] w) (hv : Rd w S (Res.sl v l.length (l.flatMap U1))) : Rets Tryz.prog 103 #[v, Vj a, Vj b, Vj c, .pointer (some ⟨o, 0, none⟩)] w fun u_ w' => ∃ (x m : Nat), u_ = Vj x ∧ (x = a ∨ x = b ∨ x = c) ∧ m ≤ n + 3 ∧ Own w S [Res.row o 3 [Vj m]] w' := by
  refine ze Tryz.func103 rfl Tryz.ntmps103 hin ?_
  refine zB (zH rfl (zA (zB (zC rfl (zC rfl (zC rfl (zC rfl (zQ rfl rfl (fun w' hw => (zBS v l a b n o w' (by first | omega | (simp <;> omega)) (by first | omega | (simp <;> omega)) (by first | assumption | omega | (simp <;> omega) | (constructor <;> (first | omega | (simp only [z6]; omega) | (simp <;> omega)))) (by first | omega | (simp <;> omega)) (hw.give [0] rfl (by decide)) (hw.rdTo hv [0] rfl)).mono ?_)))))))))
  rintro _ w1 ⟨x1_, y2_, m3_, rfl, hf1_4, hf1_4_1, hO⟩
  refine (?_ : CL _ _ _ _ _ _ (Own w S [Res.row o 3 [Vj m3_]])) w1 (hw.frameL [0] rfl hO)
  refine zC rfl (zr (vs := [Vj x1_, Vj y2_]) rfl rfl rfl (zr (vs := [Vj x1_, Vj y2_]) rfl rfl rfl (zH rfl (zH rfl (zA (zB (zC rfl (zC rfl (zC rfl (zC rfl (zQ rfl rfl (fun w' hw => (zBS v l y2_ c m3_ o w' (by first | omega | (simp <;> omega)) (by first | omega | (simp <;> omega)) (by first | assumption | omega | (simp <;> omega) | (constructor <;> (first | omega | (simp only [z6]; omega) | (simp <;> omega)))) (by first | omega | (simp <;> omega)) (hw.give [0] rfl (by decide)) (hw.rdTo hv [0] rfl)).mono ?_))))))))))))
  rintro _ w1 ⟨x4_, y5_, m6_, rfl, hf2_4, hf2_4_1, hO⟩
  refine (?_ : CL _ _ _ _ _ _ (Own w S [Res.row o 3 [Vj m6_]])) w1 (hw.frameL [0] rfl hO)
  refine zC rfl (zr (vs := [Vj x4_, Vj y5_]) rfl rfl rfl (zr (vs := [Vj x4_, Vj y5_]) rfl rfl rfl (zH rfl (zH rfl (zA (zB (zC rfl (zC rfl (zC rfl (zC rfl (zQ rfl rfl (fun w' hw => (zBS v l x1_ x4_ m6_ o w' (by first | omega | (simp <;> omega)) (by first | omega | (simp <;> omega)) (by first | assumption | omega | (simp <;> omega) | (constructor <;> (first | omega | (simp only [z6]; omega) | (simp <;> omega)))) (by first | omega | (simp <;> omega)) (hw.give [0] rfl (by decide)) (hw.rdTo hv [0] rfl)).mono ?_))))))))))))
  rintro _ w1 ⟨x7_, y8_, m9_, rfl, hf3_4, hf3_4_1, hO⟩
  refine (?_ : CL _ _ _ _ _ _ (Own w S [Res.row o 3 [Vj m9_]])) w1 (hw.frameL [0] rfl hO)
  refine zC rfl (zr (vs := [Vj x7_, Vj y8_]) rfl rfl rfl (zr (vs := [Vj x7_, Vj y8_]) rfl rfl rfl (zH rfl (zH rfl (zA (zB (zC rfl (zH rfl (zA ?_)))))))))
  exact zN (z4 (v := Vj y8_) rfl rfl (fun w' hw => ⟨y8_, m9_, rfl, (by omega), (by omega), hw⟩))
theorem jV {S : List Nat} (v : Value) (l : List Nat) (a n o : Nat) (w : World) (ha : 1 ≤ a ∧ a + 1 < l.length) (hl : z6 l.length) (hn : n ≤ 90) (hin : Own w S [Res.row o 3 [Vj n]] w) (hv : Rd w S (Res.sl v l.length (l.flatMap U1))) : Rets Tryz.prog 102 #[v, Vj a, .pointer (some ⟨o, 0, none⟩)] w fun u_ w' => ∃ (x m : Nat), u_ = Vj x ∧ (a ≤ x + 1 ∧ x ≤ a + 1) ∧ m ≤ n + 3 ∧ Own w S [Res.row o 3 [Vj m]] w' := by
  refine ze Tryz.func102 rfl Tryz.ntmps102 hin ?_
  refine zB (zH rfl (zA (zB (zC rfl (zC rfl (yJ (c := ((a - 1 : Nat) : Int)) rfl rfl (xg (by omega) (by omega)) rfl (zC rfl (zC rfl (zn rfl rfl (zh (by omega)) rfl (zC rfl (zQ rfl rfl (fun w' hw => (zBk v l (a - 1) a (a + 1) n o w' (by first | omega | (simp <;> omega)) (by first | omega | (simp <;> omega)) (by first | omega | (simp <;> omega)) (by first | assumption | omega | (simp <;> omega) | (constructor <;> (first | omega | (simp only [z6]; omega) | (simp <;> omega)))) (by first | omega | (simp <;> omega)) (hw.give [0] rfl (by decide)) (hw.rdTo hv [0] rfl)).mono ?_))))))))))))
  rintro _ w1 ⟨x1_, m2_, rfl, hf1_7, hf1_7_1, hO⟩
  refine (?_ : CL _ _ _ _ _ _ (Own w S [Res.row o 3 [Vj m2_]])) w1 (hw.frameL [0] rfl hO)
  refine zH rfl (zA ?_)
  exact zN (z4 (v := Vj x1_) rfl rfl (fun w' hw => ⟨x1_, m2_, rfl, (by omega), (by omega), hw⟩))
theorem zI0 (v : Value) (l : List Nat) (a b : Nat) (w : World) (hab : a + 12 < b) (hb : b ≤ l.length) (hl : z6 l.length) (hv : Rd w [] (Res.sl v l.length (l.flatMap U1))) : Rets Tryz.prog 81 #[v, Vj a, Vj b] w fun u_ w' => ∃ (p : Nat) (h : Int), u_ = .tuple #[Vj p, Vi h] ∧ (a ≤ p ∧ p < b) ∧ Own w [] [] w' := by
  refine ze Tryz.func81 rfl Tryz.ntmps81 (Own.start w) ?_
  refine zB (zH rfl (zH rfl (zA (zB (zC rfl (zC rfl (yJ (c := ((b - a : Nat) : Int)) rfl rfl (wsi (by omega) (by omega)) rfl (zH rfl (zA (zB (yG (v := Vi 0) (by kernel_rfl) rfl (fun b9 => zA ?_))))))))))))
  refine zB (zC rfl (zC rfl (xi (c := (((b - a) / 4 : Nat) : Int)) rfl rfl (by decide) (qui (b := 4) (by omega)) rfl (zBY rfl rfl (zh (by omega)) rfl (zn rfl rfl (zh (by omega)) rfl (zH rfl (zA (zB (zC rfl (zC rfl (xi (c := (((b - a) / 4 : Nat) : Int)) rfl rfl (by decide) (qui (b := 4) (by omega)) rfl (zBY rfl rfl (zh (by omega)) rfl ?_))))))))))))
  refine zn rfl rfl (zh (by omega)) rfl (zH rfl (zA (zB (zC rfl (zC rfl (xi (c := (((b - a) / 4 : Nat) : Int)) rfl rfl (by decide) (qui (b := 4) (by omega)) rfl (zBY rfl rfl (zh (by omega)) rfl (zn rfl rfl (zh (by omega)) rfl (zH rfl (zA (zL (zB ?_))))))))))))
  refine zC rfl (yU rfl rfl rfl (zA (zV rfl (fun c1 => ?_) (fun c1 => ?_))))
  ·
   refine zL (zB (zC rfl (yU rfl rfl rfl (zA (zV rfl (fun c2 => ?_) (fun c2 => ?_))))))
   ·
    refine zB (zC rfl (zC rfl (zQ rfl rfl (fun w' hw => (jV v l (a + (((b - a) / 4) * 1)) 0 b9 w' (by first | omega | (simp <;> omega)) (by first | assumption | omega | (simp <;> omega) | (constructor <;> (first | omega | (simp only [z6]; omega) | (simp <;> omega)))) (by first | omega | (simp <;> omega)) (hw.give [0] rfl (by decide)) (hw.rdTo hv [0] rfl)).mono ?_))))
    rintro _ w1 ⟨x1_, m2_, rfl, hf8_2, hf8_2_1, hO⟩
    refine (?_ : CL _ _ _ _ _ _ (Own w [] [Res.row b9 3 [Vj m2_]])) w1 (hw.frameL [0] rfl hO)
    refine zH rfl (zA (zB (zC rfl (zC rfl (zQ rfl rfl (fun w' hw => (jV v l (a + (((b - a) / 4) * 2)) m2_ b9 w' (by first | omega | (simp <;> omega)) (by first | assumption | omega | (simp <;> omega) | (constructor <;> (first | omega | (simp only [z6]; omega) | (simp <;> omega)))) (by first | omega | (simp <;> omega)) (hw.give [0] rfl (by decide)) (hw.rdTo hv [0] rfl)).mono ?_))))))
    rintro _ w1 ⟨x3_, m4_, rfl, hf9_2, hf9_2_1, hO⟩
    refine (?_ : CL _ _ _ _ _ _ (Own w [] [Res.row b9 3 [Vj m4_]])) w1 (hw.frameL [0] rfl hO)
    refine zH rfl (zA (zY (zC rfl (zC rfl (zQ rfl rfl (fun w' hw => (jV v l (a + (((b - a) / 4) * 3)) m4_ b9 w' (by first | omega | (simp <;> omega)) (by first | assumption | omega | (simp <;> omega) | (constructor <;> (first | omega | (simp only [z6]; omega) | (simp <;> omega)))) (by first | omega | (simp <;> omega)) (hw.give [0] rfl (by decide)) (hw.rdTo hv [0] rfl)).mono ?_))))))
    rintro _ w1 ⟨x5_, m6_, rfl, hf10_2, hf10_2_1, hO⟩
    refine (?_ : CL _ _ _ _ _ _ (Own w [] [Res.row b9 3 [Vj m6_]])) w1 (hw.frameL [0] rfl hO)
    refine zH rfl (zA (zY (zC rfl (zC rfl (zC rfl (zC rfl (zQ rfl rfl (fun w' hw => (zBk v l x1_ x3_ x5_ m6_ b9 w' (by first | omega | (simp <;> omega)) (by first | omega | (simp <;> omega)) (by first | omega | (simp <;> omega)) (by first | assumption | omega | (simp <;> omega) | (constructor <;> (first | omega | (simp only [z6]; omega) | (simp <;> omega)))) (by first | omega | (simp <;> omega)) (hw.give [0] rfl (by decide)) (hw.rdTo hv [0] rfl)).mono ?_))))))))
    rintro _ w1 ⟨x7_, m8_, rfl, hf11_4, hf11_4_1, hO⟩
    refine (?_ : CL _ _ _ _ _ _ (Own w [] [Res.row b9 3 [Vj m8_]])) w1 (hw.frameL [0] rfl hO)
    refine zH rfl (zA (zB (zU 0 (v := Vj m8_) rfl rfl rfl rfl (zA (zW (zB (yV rfl rfl rfl (zH rfl (zA (zV rfl (fun c3 => ?_) (fun c3 => ?_)))))))))))
    ·
     refine zB (zC rfl (zH rfl (zH rfl (zA ?_))))
     exact zN (yo (v := Vj x7_) (v' := Vi 1) rfl rfl rfl (fun w' hw => ⟨x7_, 1, rfl, ⟨by omega, by omega⟩, hw.drop⟩))
    ·
     refine zB (yV rfl rfl rfl (zH rfl (zA (zV rfl (fun c4 => ?_) (fun c4 => ?_)))))
     ·
      refine zB (zC rfl (zH rfl (zH rfl (zA ?_))))
      exact zN (yo (v := Vj x7_) (v' := Vi 2) rfl rfl rfl (fun w' hw => ⟨x7_, 2, rfl, ⟨by omega, by omega⟩, hw.drop⟩))
     ·
      refine zB (zC rfl (zH rfl (zH rfl (zA ?_))))
      exact zN (yo (v := Vj x7_) (v' := Vi 0) rfl rfl rfl (fun w' hw => ⟨x7_, 0, rfl, ⟨by omega, by omega⟩, hw.drop⟩))
   ·
    refine zJ (zY (zC rfl (zC rfl (zC rfl (zC rfl (zQ rfl rfl (fun w' hw => (zBk v l (a + (((b - a) / 4) * 1)) (a + (((b - a) / 4) * 2)) (a + (((b - a) / 4) * 3)) 0 b9 w' (by first | omega | (simp <;> omega)) (by first | omega | (simp <;> omega)) (by first | omega | (simp <;> omega)) (by first | assumption | omega | (simp <;> omega) | (constructor <;> (first | omega | (simp only [z6]; omega) | (simp <;> omega)))) (by first | omega | (simp <;> omega)) (hw.give [0] rfl (by decide)) (hw.rdTo hv [0] rfl)).mono ?_)))))))
    rintro _ w1 ⟨x9_, m10_, rfl, hf11_4, hf11_4_1, hO⟩
    refine (?_ : CL _ _ _ _ _ _ (Own w [] [Res.row b9 3 [Vj m10_]])) w1 (hw.frameL [0] rfl hO)
    refine zH rfl (zA (zB (zU 0 (v := Vj m10_) rfl rfl rfl rfl (zA (zW (zB (yV rfl rfl rfl (zH rfl (zA (zV rfl (fun c5 => ?_) (fun c5 => ?_)))))))))))
    ·
     refine zB (zC rfl (zH rfl (zH rfl (zA ?_))))
     exact zN (yo (v := Vj x9_) (v' := Vi 1) rfl rfl rfl (fun w' hw => ⟨x9_, 1, rfl, ⟨by omega, by omega⟩, hw.drop⟩))
    ·
     refine zB (yV rfl rfl rfl (zH rfl (zA (zV rfl (fun c6 => ?_) (fun c6 => ?_)))))
     ·
      refine zB (zC rfl (zH rfl (zH rfl (zA ?_))))
      exact zN (yo (v := Vj x9_) (v' := Vi 2) rfl rfl rfl (fun w' hw => ⟨x9_, 2, rfl, ⟨by omega, by omega⟩, hw.drop⟩))
     ·
      refine zB (zC rfl (zH rfl (zH rfl (zA ?_))))
      exact zN (yo (v := Vj x9_) (v' := Vi 0) rfl rfl rfl (fun w' hw => ⟨x9_, 0, rfl, ⟨by omega, by omega⟩, hw.drop⟩))
  ·
   refine zJ (zB (zU 0 (v := Vi 0) rfl rfl rfl rfl (zA (zW (zB (yV rfl rfl rfl (zH rfl (zA (zV rfl (fun c7 => ?_) (fun c7 => ?_))))))))))
   ·
    refine zB (zC rfl (zH rfl (zH rfl (zA ?_))))
    exact zN (yo (v := Vj (a + (((b - a) / 4) * 2))) (v' := Vi 1) rfl rfl rfl (fun w' hw => ⟨a + (((b - a) / 4) * 2), 1, rfl, ⟨by omega, by omega⟩, hw.drop⟩))
   ·
    refine zB (yV rfl rfl rfl (zH rfl (zA (zV rfl (fun c8 => ?_) (fun c8 => ?_)))))
    ·
     refine zB (zC rfl (zH rfl (zH rfl (zA ?_))))
     exact zN (yo (v := Vj (a + (((b - a) / 4) * 2))) (v' := Vi 2) rfl rfl rfl (fun w' hw => ⟨a + (((b - a) / 4) * 2), 2, rfl, ⟨by omega, by omega⟩, hw.drop⟩))
    ·
     refine zB (zC rfl (zH rfl (zH rfl (zA ?_))))
     exact zN (yo (v := Vj (a + (((b - a) / 4) * 2))) (v' := Vi 0) rfl rfl rfl (fun w' hw => ⟨a + (((b - a) / 4) * 2), 0, rfl, ⟨by omega, by omega⟩, hw.drop⟩))
theorem zHn {S : List Nat} (v : Value) (l : List Nat) (a b : Nat) (w : World) (ha : a ≤ b) (hb : b ≤ l.length) (hl : z6 l.length) (hin : Own w S [Res.vec 32 1 v l.length (l.flatMap U1)] w) : Rets Tryz.prog 80 #[v, Vj a, Vj b] w fun u_ w' => ∃ (l' : List Nat), u_ = .tuple #[] ∧ Same a b l l' ∧ Own w S [Res.vec 32 1 v l'.length (l'.flatMap U1)] w' := by
  refine ze Tryz.func80 rfl Tryz.ntmps80 hin ?_
  refine zB (zC rfl (zC rfl (yJ (c := ((b - a : Nat) : Int)) rfl rfl (wsi (by omega) (by omega)) rfl (zH rfl (zA (zB (zC rfl (yU rfl rfl rfl (zA (zV rfl (fun c1 => ?_) (fun c1 => ?_)))))))))))
  ·
   have hM := zKY (n := b - a) (by omega)
   have hM2 : 2 ^ zi (b - a) ≤ 4000000000000 := Nat.le_trans hM.1 (by omega)
   refine zB (zC rfl (yp (by kernel_rfl) rfl (zAt (by omega)) rfl ?_ (by kernel_rfl)))
   refine yG (v := Vn 0) (by kernel_rfl) rfl (fun b7 => yn (cs := [Vn 0]) 1 rfl rfl rfl rfl rfl (zA (zB (zC rfl (zQ rfl rfl (fun w' hw => (zLL (b - a) w' (by first | omega | (simp <;> omega))).mono ?_))))))
   rintro _ w1 ⟨rfl, hO⟩
   refine (?_ : CL _ _ _ _ _ _ (Own w S [Res.vec 32 1 v l.length (l.flatMap U1), Res.row b7 175 [Vn (b - a)]])) w1 (hw.frame0 hO)
   refine zH rfl (zA (zB (zC rfl (zC rfl (xi (c := (((b - a) / 4 : Nat) : Int)) rfl rfl (by decide) (qui (b := 4) (by omega)) rfl (zBY rfl rfl (zh (by omega)) rfl (zn rfl rfl (zh (by omega)) rfl (yJ (c := ((a + (b - a) / 4 * 2 - 1 : Nat) : Int)) rfl rfl (xg (a := a + (b - a) / 4 * 2) (by omega) (by omega)) rfl (zH rfl (zA (zW ?_)))))))))))
   refine ji (fun (i : Nat) (q : List Nat) (y : Int) => [(0, v), (1, Vj a), (6, Vj (b - a)), (7, .pointer (some ⟨b7, 0, none⟩)), (8, Vn (2 ^ zi (b - a))), (9, Vj i)]) (fun (i : Nat) (q : List Nat) (y : Int) => (a + (b - a) / 4 * 2 ≤ i + 1 ∧ i ≤ a + (b - a) / 4 * 2 + 2) ∧ Same a b l q) (fun (i : Nat) (q : List Nat) (y : Int) => [Res.vec 32 1 v q.length (q.flatMap U1), Res.row b7 175 [.int .u64 y]]) (fun (i : Nat) (q : List Nat) (y : Int) => a + (b - a) / 4 * 2 + 2 - i) (fun w' hw => ⟨a + (b - a) / 4 * 2 - 1, l, ((b - a : Nat) : Int), ⟨rfl, rfl, rfl, rfl, rfl, rfl, trivial⟩, ⟨⟨by omega, by omega⟩, Same.refl _ _ _⟩, hw⟩) (fun i q y g hΦ => ?_)
   have hi1 := hΦ.1
   have hS1 := hΦ.2
   have hq1 := hS1.len
   refine zL (zB (zC rfl (zC rfl (zC rfl (xi (c := (((b - a) / 4 : Nat) : Int)) rfl rfl (by decide) (qui (b := 4) (by omega)) rfl (zBY rfl rfl (zh (by omega)) rfl (zn rfl rfl (zh (by omega)) rfl (zn rfl rfl (zh (by omega)) rfl (x5 rfl rfl rfl (zA (zV rfl (fun c2 => ?_) (fun c2 => ?_))))))))))))
   ·
    refine zJ (zF8 (fun (n : List Nat) (y2 : Int) => [(0, v), (1, Vj a), (6, Vj (b - a)), (7, .pointer (some ⟨b7, 0, none⟩)), (8, Vn (2 ^ zi (b - a))), (9, Vj i)]) (fun (n : List Nat) (y2 : Int) => ∃ z, z < b - a ∧ n = yL q i (a + z)) (fun (n : List Nat) (y2 : Int) => [Res.vec 32 1 v n.length (n.flatMap U1), Res.row b7 175 [.int .u64 y2]]) ?_ (fun n y2 g hΦ => ?_))
    ·
     refine zW (zB (zQ rfl rfl (fun w' hw => (zKe b7 y w' (hw.give [1] rfl (by decide))).mono ?_)))
     rintro _ w1 ⟨y1_, rfl, hO⟩
     have hz := zGU (y := y1_) hM.2 hM2
     have hz2 := Nat.lt_of_lt_of_le hz hM.1
     refine (?_ : CL _ _ _ _ _ _ (Own w S [Res.vec 32 1 v q.length (q.flatMap U1), Res.row b7 175 [.int .u64 y1_]])) w1 (hw.frameL [1] rfl hO)
     refine zC rfl (yJ (c := ((2 ^ zi (b - a) - 1 : Nat) : Int)) rfl rfl (ws (b := 1) hM.2 (Nat.lt_of_le_of_lt hM2 (by decide))) rfl (zK7 (c := ((((y1_ % 18446744073709551616).toNat &&& (2 ^ zi (b - a) - 1)) : Nat) : Int)) rfl rfl (zGz hM.2 hM2) rfl (yp (by kernel_rfl) rfl (zh (by omega)) rfl ?_ (by kernel_rfl))))
     refine zH rfl (zA (ye (fun (z : Nat) => [(0, v), (1, Vj a), (6, Vj (b - a)), (7, .pointer (some ⟨b7, 0, none⟩)), (8, Vn (2 ^ zi (b - a))), (9, Vj i), (10, Vj z)]) (fun (z : Nat) => z < b - a) (fun (z : Nat) => [Res.vec 32 1 v q.length (q.flatMap U1), Res.row b7 175 [.int .u64 y1_]]) ?_ (fun z g hΦ => ?_)))
     ·
      refine zB (zC rfl (zC rfl (yU rfl rfl rfl (zA (zV rfl (fun c3 => ?_) (fun c3 => ?_))))))
      ·
       refine zY (zC rfl (zC rfl (yJ (c := ((((y1_ % 18446744073709551616).toNat &&& (2 ^ zi (b - a) - 1)) - (b - a) : Nat) : Int)) rfl rfl (wsi (by omega) (by omega)) rfl (zH rfl ?_))))
       exact zd (fun w' hw => ⟨((y1_ % 18446744073709551616).toNat &&& (2 ^ zi (b - a) - 1)) - (b - a), ⟨rfl, rfl, rfl, rfl, rfl, rfl, rfl, trivial⟩, by omega, hw⟩)
      ·
       exact xQ (fun w' hw => ⟨((y1_ % 18446744073709551616).toNat &&& (2 ^ zi (b - a) - 1)), ⟨rfl, rfl, rfl, rfl, rfl, rfl, rfl, trivial⟩, by omega, hw⟩)
     have hzz := hΦ
     refine zZ [1] rfl (by decide) (by kernel_rfl) (fun w' hw hS => zD 0 rfl (zK) hS (zD 1 rfl (zK) hS (zD 2 rfl (zK) hS (zD 3 rfl (zK) hS (zD 4 rfl (zK) hS (zD 5 rfl (yz rfl rfl (zh (by omega))) hS (zD 6 rfl (zK) hS (zD 7 rfl (zK) hS (zD 8 rfl (zK) hS (zD 9 rfl (yz rfl rfl (zh (by omega))) hS (zD 12 rfl (zK) hS (zD 13 rfl (zK) hS ?_))))))))))))
     refine za 10 14 ?_ ?_
     ·
      refine zT 10 rfl hw (zF (pV 0 rfl) 1 (a + z) rfl rfl rfl (by omega) rfl (zE [1] rfl (by decide) (fun w' hw hS => za 11 14 ?_ ?_)))
      ·
       refine zT 11 rfl hw (zP (pV 0 rfl) 1 (a + z) 0 (fun _ => rfl) rfl rfl (by omega) rfl rfl (zE [1] rfl (by decide) (fun w' hw hS => zX 14 rfl hw (zF (pV 0 rfl) 1 i rfl rfl rfl (by omega) rfl (zE [1] rfl (by decide) (fun w' hw hS => zX 15 rfl hw (zP (pV 0 rfl) 1 i 0 (fun _ => rfl) rfl rfl (by omega) rfl rfl (zE [1] rfl (by decide) (fun w' hw hS => zX 16 rfl hw (zF (pV 0 rfl) 1 i rfl rfl rfl (by omega) rfl (zE [1] rfl (by decide) (fun w' hw hS => zX 17 rfl hw ?_))))))))))))
       refine zS 0 i (zG q (a + z)) rfl (fun _ => rfl) rfl (by omega) rfl rfl rfl (by omega) (zE [1] rfl (by decide) (fun w' hw hS => zX 18 rfl hw (zF (pV 0 rfl) 1 (a + z) rfl rfl rfl (by simp only [List.length_set]; omega) rfl (zE [1] rfl (by decide) (fun w' hw hS => zX 19 rfl hw (zS 0 (a + z) (zG q i) rfl (fun _ => rfl) rfl (by omega) rfl rfl rfl (by simp only [List.length_set]; omega) (zE [1] rfl (by decide) (fun w' hw hS => zM ?_))))))))
       exact ⟨yL q i (a + z), y1_, ⟨rfl, rfl, rfl, rfl, rfl, rfl, trivial⟩, ⟨z, hzz, rfl⟩, hw⟩
      ·
       refine zT 14 rfl hw (zF (pV 0 rfl) 1 i rfl rfl rfl (by omega) rfl (zE [1] rfl (by decide) (fun w' hw hS => za 11 15 ?_ ?_)))
       ·
        refine zT 11 rfl hw (zP (pV 0 rfl) 1 (a + z) 0 (fun _ => rfl) rfl rfl (by omega) rfl rfl (zE [1] rfl (by decide) (fun w' hw hS => zX 15 rfl hw (zP (pV 0 rfl) 1 i 0 (fun _ => rfl) rfl rfl (by omega) rfl rfl (zE [1] rfl (by decide) (fun w' hw hS => zX 16 rfl hw (zF (pV 0 rfl) 1 i rfl rfl rfl (by omega) rfl (zE [1] rfl (by decide) (fun w' hw hS => zX 17 rfl hw (zS 0 i (zG q (a + z)) rfl (fun _ => rfl) rfl (by omega) rfl rfl rfl (by omega) (zE [1] rfl (by decide) (fun w' hw hS => zX 18 rfl hw ?_))))))))))))
        refine zF (pV 0 rfl) 1 (a + z) rfl rfl rfl (by simp only [List.length_set]; omega) rfl (zE [1] rfl (by decide) (fun w' hw hS => zX 19 rfl hw (zS 0 (a + z) (zG q i) rfl (fun _ => rfl) rfl (by omega) rfl rfl rfl (by simp only [List.length_set]; omega) (zE [1] rfl (by decide) (fun w' hw hS => zM ?_)))))
        exact ⟨yL q i (a + z), y1_, ⟨rfl, rfl, rfl, rfl, rfl, rfl, trivial⟩, ⟨z, hzz, rfl⟩, hw⟩
       ·
        refine zT 15 rfl hw (zP (pV 0 rfl) 1 i 0 (fun _ => rfl) rfl rfl (by omega) rfl rfl (zE [1] rfl (by decide) (fun w' hw hS => zX 11 rfl hw (zP (pV 0 rfl) 1 (a + z) 0 (fun _ => rfl) rfl rfl (by omega) rfl rfl (zE [1] rfl (by decide) (fun w' hw hS => zX 16 rfl hw (zF (pV 0 rfl) 1 i rfl rfl rfl (by omega) rfl (zE [1] rfl (by decide) (fun w' hw hS => zX 17 rfl hw (zS 0 i (zG q (a + z)) rfl (fun _ => rfl) rfl (by omega) rfl rfl rfl (by omega) (zE [1] rfl (by decide) (fun w' hw hS => zX 18 rfl hw ?_))))))))))))
        refine zF (pV 0 rfl) 1 (a + z) rfl rfl rfl (by simp only [List.length_set]; omega) rfl (zE [1] rfl (by decide) (fun w' hw hS => zX 19 rfl hw (zS 0 (a + z) (zG q i) rfl (fun _ => rfl) rfl (by omega) rfl rfl rfl (by simp only [List.length_set]; omega) (zE [1] rfl (by decide) (fun w' hw hS => zM ?_)))))
        exact ⟨yL q i (a + z), y1_, ⟨rfl, rfl, rfl, rfl, rfl, rfl, trivial⟩, ⟨z, hzz, rfl⟩, hw⟩
     ·
      refine zT 14 rfl hw (zF (pV 0 rfl) 1 i rfl rfl rfl (by omega) rfl (zE [1] rfl (by decide) (fun w' hw hS => za 10 15 ?_ ?_)))
      ·
       refine zT 10 rfl hw (zF (pV 0 rfl) 1 (a + z) rfl rfl rfl (by omega) rfl (zE [1] rfl (by decide) (fun w' hw hS => za 11 15 ?_ ?_)))
       ·
        refine zT 11 rfl hw (zP (pV 0 rfl) 1 (a + z) 0 (fun _ => rfl) rfl rfl (by omega) rfl rfl (zE [1] rfl (by decide) (fun w' hw hS => zX 15 rfl hw (zP (pV 0 rfl) 1 i 0 (fun _ => rfl) rfl rfl (by omega) rfl rfl (zE [1] rfl (by decide) (fun w' hw hS => zX 16 rfl hw (zF (pV 0 rfl) 1 i rfl rfl rfl (by omega) rfl (zE [1] rfl (by decide) (fun w' hw hS => zX 17 rfl hw (zS 0 i (zG q (a + z)) rfl (fun _ => rfl) rfl (by omega) rfl rfl rfl (by omega) (zE [1] rfl (by decide) (fun w' hw hS => zX 18 rfl hw ?_))))))))))))
        refine zF (pV 0 rfl) 1 (a + z) rfl rfl rfl (by simp only [List.length_set]; omega) rfl (zE [1] rfl (by decide) (fun w' hw hS => zX 19 rfl hw (zS 0 (a + z) (zG q i) rfl (fun _ => rfl) rfl (by omega) rfl rfl rfl (by simp only [List.length_set]; omega) (zE [1] rfl (by decide) (fun w' hw hS => zM ?_)))))
        exact ⟨yL q i (a + z), y1_, ⟨rfl, rfl, rfl, rfl, rfl, rfl, trivial⟩, ⟨z, hzz, rfl⟩, hw⟩
       ·
        refine zT 15 rfl hw (zP (pV 0 rfl) 1 i 0 (fun _ => rfl) rfl rfl (by omega) rfl rfl (zE [1] rfl (by decide) (fun w' hw hS => zX 11 rfl hw (zP (pV 0 rfl) 1 (a + z) 0 (fun _ => rfl) rfl rfl (by omega) rfl rfl (zE [1] rfl (by decide) (fun w' hw hS => zX 16 rfl hw (zF (pV 0 rfl) 1 i rfl rfl rfl (by omega) rfl (zE [1] rfl (by decide) (fun w' hw hS => zX 17 rfl hw (zS 0 i (zG q (a + z)) rfl (fun _ => rfl) rfl (by omega) rfl rfl rfl (by omega) (zE [1] rfl (by decide) (fun w' hw hS => zX 18 rfl hw ?_))))))))))))
        refine zF (pV 0 rfl) 1 (a + z) rfl rfl rfl (by simp only [List.length_set]; omega) rfl (zE [1] rfl (by decide) (fun w' hw hS => zX 19 rfl hw (zS 0 (a + z) (zG q i) rfl (fun _ => rfl) rfl (by omega) rfl rfl rfl (by simp only [List.length_set]; omega) (zE [1] rfl (by decide) (fun w' hw hS => zM ?_)))))
        exact ⟨yL q i (a + z), y1_, ⟨rfl, rfl, rfl, rfl, rfl, rfl, trivial⟩, ⟨z, hzz, rfl⟩, hw⟩
      ·
       refine zT 15 rfl hw (zP (pV 0 rfl) 1 i 0 (fun _ => rfl) rfl rfl (by omega) rfl rfl (zE [1] rfl (by decide) (fun w' hw hS => zX 10 rfl hw (zF (pV 0 rfl) 1 (a + z) rfl rfl rfl (by omega) rfl (zE [1] rfl (by decide) (fun w' hw hS => zX 11 rfl hw (zP (pV 0 rfl) 1 (a + z) 0 (fun _ => rfl) rfl rfl (by omega) rfl rfl (zE [1] rfl (by decide) (fun w' hw hS => zX 16 rfl hw (zF (pV 0 rfl) 1 i rfl rfl rfl (by omega) rfl (zE [1] rfl (by decide) (fun w' hw hS => zX 17 rfl hw ?_))))))))))))
       refine zS 0 i (zG q (a + z)) rfl (fun _ => rfl) rfl (by omega) rfl rfl rfl (by omega) (zE [1] rfl (by decide) (fun w' hw hS => zX 18 rfl hw (zF (pV 0 rfl) 1 (a + z) rfl rfl rfl (by simp only [List.length_set]; omega) rfl (zE [1] rfl (by decide) (fun w' hw hS => zX 19 rfl hw (zS 0 (a + z) (zG q i) rfl (fun _ => rfl) rfl (by omega) rfl rfl rfl (by simp only [List.length_set]; omega) (zE [1] rfl (by decide) (fun w' hw hS => zM ?_))))))))
       exact ⟨yL q i (a + z), y1_, ⟨rfl, rfl, rfl, rfl, rfl, rfl, trivial⟩, ⟨z, hzz, rfl⟩, hw⟩
    obtain ⟨z, hzz, hn⟩ := hΦ
    refine zY (zC rfl (zn rfl rfl (zh (by omega)) rfl (zH rfl ?_)))
    exact zd (fun w' hw => ⟨i + 1, n, y2, ⟨rfl, rfl, rfl, rfl, rfl, rfl, trivial⟩, ⟨⟨by omega, by omega⟩, by rw [hn]; exact hS1.then_swp ⟨by omega, by omega⟩ ⟨by omega, by omega⟩ hb⟩, hw, (by omega)⟩)
   ·
    exact yr rfl (j8 rfl (fun w' hw => ⟨q, rfl, hS1, hw.sel [0] rfl (by decide)⟩))
  ·
   exact xQ (j8 rfl (fun w' hw => ⟨l, rfl, Same.refl _ _ _, hw⟩))
end Go.Proofs.YtcdiehplbmkmeaaGreat
