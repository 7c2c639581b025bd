import Derived.Test.YthincafbmpialaaGreatSortU
set_option linter.unusedSectionVars false
set_option linter.unusedSimpArgs false
set_option linter.unusedVariables false
set_option maxRecDepth 10000
namespace Go.Proofs.YthincafbmpialaaGreat
open Go Go.Sc Go.Proofs
theorem zHR {S : List Nat} (v : Value) (l : List Nat) (a b : Nat) (w : World) (ha : a < b) (hb : b ≤ l.length) (hl : zb l.length) (hpr : Pred a b l) (hin : Own w S [Res.vec 28 1 v l.length (l.flatMap U1)] w) : Rets Tryz.prog 146 #[v, Vj a, Vj b] w fun u_ w' => ∃ (l' : List Nat) (r : Bool), u_ = .bool r ∧ Same a b l l' ∧ (r = true → Up a b l') ∧ Own w S [Res.vec 28 1 v l'.length (l'.flatMap U1)] w' := by
  refine zW Tryz.func146 rfl Tryz.ntmps146 hin ?_
  refine zB (zD rfl (zA (zB (zC rfl (zt rfl rfl (zr (by omega)) rfl (zD rfl (zA (zL (zB (zD rfl (zA (zT ?_))))))))))))
  refine xS (fun (j i : Nat) (q : List Nat) => [(0, v), (1, Vj a), (2, Vj b), (7, Vj i), (8, Vj j)]) (fun (j i : Nat) (q : List Nat) => ((a + 1 ≤ i ∧ i ≤ b) ∧ j ≤ 5) ∧ Same a b l q ∧ Up a i q) (fun (j i : Nat) (q : List Nat) => [Res.vec 28 1 v q.length (q.flatMap U1)]) (fun (j i : Nat) (q : List Nat) => 5 - j) (fun w' hw => ⟨0, a + 1, l, ⟨rfl, rfl, rfl, rfl, rfl, trivial⟩, ⟨⟨⟨by omega, by omega⟩, by omega⟩, Same.refl _ _ _, Up.one (by omega)⟩, hw⟩) (fun j i q g hΦ => ?_)
  have hi1 := hΦ.1
  have hS1 := hΦ.2.1
  have hU1 := hΦ.2.2
  have hq1 := hS1.len
  refine zL (zB (zC rfl (yI rfl rfl rfl (zA (zU rfl (fun c1 => ?_) (fun c1 => ?_))))))
  ·
   refine zK (zL (zT (xB (fun (i2 : Nat) => [(0, v), (1, Vj a), (2, Vj b), (7, Vj i2), (8, Vj j)]) (fun (i2 : Nat) => (a + 1 ≤ i2 ∧ i2 ≤ b) ∧ Up a i2 q) (fun (i2 : Nat) => [Res.vec 28 1 v q.length (q.flatMap U1)]) ?_ (fun i2 g hΦ => ?_))))
   ·
    refine zT ?_
    refine xG (fun (i2 : Nat) => [(0, v), (1, Vj a), (2, Vj b), (7, Vj i2), (8, Vj j)]) (fun (i2 : Nat) => (a + 1 ≤ i2 ∧ i2 ≤ b) ∧ Up a i2 q) (fun (i2 : Nat) => [Res.vec 28 1 v q.length (q.flatMap U1)]) (fun (i2 : Nat) => b - i2) (fun w' hw => ⟨i, ⟨rfl, rfl, rfl, rfl, rfl, trivial⟩, ⟨⟨by omega, by omega⟩, hU1⟩, hw⟩) (fun i2 g hΦ => ?_)
    have hi2 := hΦ.1
    have hU2 := hΦ.2
    refine zL (zL (zg [0] rfl (by decide) (by kernel_rfl) (fun w' hw hS => zF 0 rfl (zQ) hS (zF 1 rfl (zQ) hS (zF 2 rfl (zEU rfl rfl) hS (zF 3 rfl (zQ) hS ?_))))))
    by_cases g5_3 : ((i2 : Nat) : Int) < ((b : Nat) : Int)
    ·
     refine zl 4 rfl rfl (gT g5_3) (zQ) hS (zl 5 rfl rfl (gT g5_3) (zQ) hS (zl 6 rfl rfl (gT g5_3) (yR (pV 0 rfl) 1 i2 rfl rfl rfl (by omega)) hS (zl 7 rfl rfl (gT g5_3) (yq (pV 0 rfl) 1 i2 0 (fun _ => rfl) rfl rfl (by omega) rfl) hS (zl 8 rfl rfl (gT g5_3) (zQ) hS (zl 9 rfl rfl (gT g5_3) (zQ) hS (zl 10 rfl rfl (gT g5_3) (kc (c := ((i2 - 1 : Nat) : Int)) rfl rfl (kO (by omega) (by omega))) hS (zl 11 rfl rfl (gT g5_3) (yR (pV 0 rfl) 1 (i2 - 1) rfl rfl rfl (by omega)) hS (zl 12 rfl rfl (gT g5_3) (yq (pV 0 rfl) 1 (i2 - 1) 0 (fun _ => rfl) rfl rfl (by omega) rfl) hS (zY 13 rfl hw (zO rfl (gT g5_3) (zJ rfl rfl (fun w' hw => (kJ (zI q i2) (zI q (i2 - 1)) w').mono ?_))))))))))))
     rintro _ w1 ⟨rfl, hO⟩
     refine (?_ : CL _ _ _ _ _ _ (Own w S [Res.vec 28 1 v q.length (q.flatMap U1)])) w1 (hw.frame0 hO)
     refine zG [0] rfl (by decide) (fun w' hw hS => zl 14 rfl rfl (gT g5_3) (jN (q := olt (zI q i2) (zI q (i2 - 1))) rfl) hS (zF 15 rfl (y5 (gT g5_3)) hS (zR ?_)))
     refine (?_ : C _ _ _ _ _ _ _ (Own w S [Res.vec 28 1 v q.length (q.flatMap U1)])) _ hw
     refine zU rfl (fun c2 => ?_) (fun c2 => ?_)
     ·
      refine zK (zT (zd (zC rfl (zt rfl rfl (zr (by omega)) rfl (zD rfl ?_)))))
      exact zj (fun w' hw => ⟨i2 + 1, ⟨rfl, rfl, rfl, rfl, rfl, trivial⟩, ⟨⟨by omega, by omega⟩, hU2.step c2⟩, hw, (by omega)⟩)
     ·
      exact xA rfl (fun w' hw => ⟨i2, ⟨rfl, rfl, rfl, rfl, rfl, trivial⟩, ⟨hi2, hU2⟩, hw⟩)
    ·
     refine zc 4 rfl rfl (gF g5_3) rfl hS (zc 5 rfl rfl (gF g5_3) rfl hS (zc 6 rfl rfl (gF g5_3) rfl hS (zc 7 rfl rfl (gF g5_3) rfl hS (zc 8 rfl rfl (gF g5_3) rfl hS (zc 9 rfl rfl (gF g5_3) rfl hS (zc 10 rfl rfl (gF g5_3) rfl hS (zc 11 rfl rfl (gF g5_3) rfl hS (zc 12 rfl rfl (gF g5_3) rfl hS (zc 13 rfl rfl (gF g5_3) rfl hS (zc 14 rfl rfl (gF g5_3) rfl hS (zF 15 rfl (yz (gF g5_3)) hS (zR ?_))))))))))))
     refine (?_ : C _ _ _ _ _ _ _ (Own w S [Res.vec 28 1 v q.length (q.flatMap U1)])) _ hw
     refine xQ rfl ?_
     exact xA rfl (fun w' hw => ⟨i2, ⟨rfl, rfl, rfl, rfl, rfl, trivial⟩, ⟨hi2, hU2⟩, hw⟩)
   have hi3 := hΦ.1
   have hU3 := hΦ.2
   refine zL (zB (zC rfl (zC rfl (yo rfl rfl rfl (zA (zU rfl (fun c4 => ?_) (fun c4 => ?_)))))))
   ·
    refine zB (zD rfl (zA ?_))
    exact zM (z6 (v := .bool true) rfl rfl (fun w' hw => ⟨q, true, rfl, hS1, (fun _ => by rw [show b = i2 by omega]; exact hU3), hw⟩))
   ·
    refine zK (zL (zB (zC rfl (zC rfl (yX rfl rfl (zr (by omega)) rfl (yI rfl rfl rfl (zA (zU rfl (fun c5 => ?_) (fun c5 => ?_)))))))))
    ·
     refine zB (zD rfl (zA ?_))
     exact zM (z6 (v := .bool false) rfl rfl (fun w' hw => ⟨q, false, rfl, hS1, (fun h => by cases h), hw⟩))
    ·
     refine zK (xB (fun (n : List Nat) => [(0, v), (1, Vj a), (2, Vj b), (7, Vj i2), (8, Vj j)]) (fun (n : List Nat) => n = yp q i2 (i2 - 1)) (fun (n : List Nat) => [Res.vec 28 1 v n.length (n.flatMap U1)]) ?_ (fun n g hΦ => ?_))
     ·
      refine zg [] rfl (by decide) (by kernel_rfl) (fun w' hw hS => zF 0 rfl (zQ) hS (zF 1 rfl (zQ) hS (zF 2 rfl (zQ) hS (zF 3 rfl (zQ) hS (zF 4 rfl (kc (c := ((i2 - 1 : Nat) : Int)) rfl rfl (kO (by omega) (by omega))) hS (zF 5 rfl (zQ) hS (zF 6 rfl (zQ) hS (zF 7 rfl (kc (c := ((i2 - 1 : Nat) : Int)) rfl rfl (kO (by omega) (by omega))) hS (zF 10 rfl (zQ) hS (zF 11 rfl (zQ) hS (zk 8 12 ?_ ?_)))))))))))
      ·
       refine zX 8 rfl hw (zH (pV 0 rfl) 1 (i2 - 1) rfl rfl rfl (by omega) rfl (zG [] rfl (by decide) (fun w' hw hS => zk 9 12 ?_ ?_)))
       ·
        refine zX 9 rfl hw (zV (pV 0 rfl) 1 (i2 - 1) 0 (fun _ => rfl) rfl rfl (by omega) rfl rfl (zN 12 rfl (zH (pV 0 rfl) 1 i2 rfl rfl rfl (by omega) rfl (zN 13 rfl (zV (pV 0 rfl) 1 i2 0 (fun _ => rfl) rfl rfl (by omega) rfl rfl (zN 14 rfl (zH (pV 0 rfl) 1 i2 rfl rfl rfl (by omega) rfl (zN 15 rfl ?_))))))))
        refine za 0 i2 (zI q (i2 - 1)) rfl (fun _ => rfl) rfl (by omega) rfl rfl rfl (by omega) (zN 16 rfl (zH (pV 0 rfl) 1 (i2 - 1) rfl rfl rfl (by simp only [List.length_set]; omega) rfl (zN 17 rfl (za 0 (i2 - 1) (zI q i2) rfl (fun _ => rfl) rfl (by omega) rfl rfl rfl (by simp only [List.length_set]; omega) (zG [] rfl (by decide) (fun w' hw hS => zR ?_))))))
        exact ⟨yp q i2 (i2 - 1), ⟨rfl, rfl, rfl, rfl, rfl, trivial⟩, rfl, hw⟩
       ·
        refine zX 12 rfl hw (zH (pV 0 rfl) 1 i2 rfl rfl rfl (by omega) rfl (zG [] rfl (by decide) (fun w' hw hS => zk 9 13 ?_ ?_)))
        ·
         refine zX 9 rfl hw (zV (pV 0 rfl) 1 (i2 - 1) 0 (fun _ => rfl) rfl rfl (by omega) rfl rfl (zN 13 rfl (zV (pV 0 rfl) 1 i2 0 (fun _ => rfl) rfl rfl (by omega) rfl rfl (zN 14 rfl (zH (pV 0 rfl) 1 i2 rfl rfl rfl (by omega) rfl (zN 15 rfl (za 0 i2 (zI q (i2 - 1)) rfl (fun _ => rfl) rfl (by omega) rfl rfl rfl (by omega) (zN 16 rfl ?_))))))))
         refine zH (pV 0 rfl) 1 (i2 - 1) rfl rfl rfl (by simp only [List.length_set]; omega) rfl (zN 17 rfl (za 0 (i2 - 1) (zI q i2) rfl (fun _ => rfl) rfl (by omega) rfl rfl rfl (by simp only [List.length_set]; omega) (zG [] rfl (by decide) (fun w' hw hS => zR ?_))))
         exact ⟨yp q i2 (i2 - 1), ⟨rfl, rfl, rfl, rfl, rfl, trivial⟩, rfl, hw⟩
        ·
         refine zX 13 rfl hw (zV (pV 0 rfl) 1 i2 0 (fun _ => rfl) rfl rfl (by omega) rfl rfl (zN 9 rfl (zV (pV 0 rfl) 1 (i2 - 1) 0 (fun _ => rfl) rfl rfl (by omega) rfl rfl (zN 14 rfl (zH (pV 0 rfl) 1 i2 rfl rfl rfl (by omega) rfl (zN 15 rfl (za 0 i2 (zI q (i2 - 1)) rfl (fun _ => rfl) rfl (by omega) rfl rfl rfl (by omega) (zN 16 rfl ?_))))))))
         refine zH (pV 0 rfl) 1 (i2 - 1) rfl rfl rfl (by simp only [List.length_set]; omega) rfl (zN 17 rfl (za 0 (i2 - 1) (zI q i2) rfl (fun _ => rfl) rfl (by omega) rfl rfl rfl (by simp only [List.length_set]; omega) (zG [] rfl (by decide) (fun w' hw hS => zR ?_))))
         exact ⟨yp q i2 (i2 - 1), ⟨rfl, rfl, rfl, rfl, rfl, trivial⟩, rfl, hw⟩
      ·
       refine zX 12 rfl hw (zH (pV 0 rfl) 1 i2 rfl rfl rfl (by omega) rfl (zG [] rfl (by decide) (fun w' hw hS => zk 8 13 ?_ ?_)))
       ·
        refine zX 8 rfl hw (zH (pV 0 rfl) 1 (i2 - 1) rfl rfl rfl (by omega) rfl (zG [] rfl (by decide) (fun w' hw hS => zk 9 13 ?_ ?_)))
        ·
         refine zX 9 rfl hw (zV (pV 0 rfl) 1 (i2 - 1) 0 (fun _ => rfl) rfl rfl (by omega) rfl rfl (zN 13 rfl (zV (pV 0 rfl) 1 i2 0 (fun _ => rfl) rfl rfl (by omega) rfl rfl (zN 14 rfl (zH (pV 0 rfl) 1 i2 rfl rfl rfl (by omega) rfl (zN 15 rfl (za 0 i2 (zI q (i2 - 1)) rfl (fun _ => rfl) rfl (by omega) rfl rfl rfl (by omega) (zN 16 rfl ?_))))))))
         refine zH (pV 0 rfl) 1 (i2 - 1) rfl rfl rfl (by simp only [List.length_set]; omega) rfl (zN 17 rfl (za 0 (i2 - 1) (zI q i2) rfl (fun _ => rfl) rfl (by omega) rfl rfl rfl (by simp only [List.length_set]; omega) (zG [] rfl (by decide) (fun w' hw hS => zR ?_))))
         exact ⟨yp q i2 (i2 - 1), ⟨rfl, rfl, rfl, rfl, rfl, trivial⟩, rfl, hw⟩
        ·
         refine zX 13 rfl hw (zV (pV 0 rfl) 1 i2 0 (fun _ => rfl) rfl rfl (by omega) rfl rfl (zN 9 rfl (zV (pV 0 rfl) 1 (i2 - 1) 0 (fun _ => rfl) rfl rfl (by omega) rfl rfl (zN 14 rfl (zH (pV 0 rfl) 1 i2 rfl rfl rfl (by omega) rfl (zN 15 rfl (za 0 i2 (zI q (i2 - 1)) rfl (fun _ => rfl) rfl (by omega) rfl rfl rfl (by omega) (zN 16 rfl ?_))))))))
         refine zH (pV 0 rfl) 1 (i2 - 1) rfl rfl rfl (by simp only [List.length_set]; omega) rfl (zN 17 rfl (za 0 (i2 - 1) (zI q i2) rfl (fun _ => rfl) rfl (by omega) rfl rfl rfl (by simp only [List.length_set]; omega) (zG [] rfl (by decide) (fun w' hw hS => zR ?_))))
         exact ⟨yp q i2 (i2 - 1), ⟨rfl, rfl, rfl, rfl, rfl, trivial⟩, rfl, hw⟩
       ·
        refine zX 13 rfl hw (zV (pV 0 rfl) 1 i2 0 (fun _ => rfl) rfl rfl (by omega) rfl rfl (zN 8 rfl (zH (pV 0 rfl) 1 (i2 - 1) rfl rfl rfl (by omega) rfl (zN 9 rfl (zV (pV 0 rfl) 1 (i2 - 1) 0 (fun _ => rfl) rfl rfl (by omega) rfl rfl (zN 14 rfl (zH (pV 0 rfl) 1 i2 rfl rfl rfl (by omega) rfl (zN 15 rfl ?_))))))))
        refine za 0 i2 (zI q (i2 - 1)) rfl (fun _ => rfl) rfl (by omega) rfl rfl rfl (by omega) (zN 16 rfl (zH (pV 0 rfl) 1 (i2 - 1) rfl rfl rfl (by simp only [List.length_set]; omega) rfl (zN 17 rfl (za 0 (i2 - 1) (zI q i2) rfl (fun _ => rfl) rfl (by omega) rfl rfl rfl (by simp only [List.length_set]; omega) (zG [] rfl (by decide) (fun w' hw hS => zR ?_))))))
        exact ⟨yp q i2 (i2 - 1), ⟨rfl, rfl, rfl, rfl, rfl, trivial⟩, rfl, hw⟩
     have hn := hΦ
     have hSn : Same a b l n := by rw [hn]; exact hS1.then_swp ⟨by omega, by omega⟩ ⟨by omega, by omega⟩ hb
     have hnl := hSn.len
     have hUn : Up a (i2 - 1) n := by rw [hn]; exact (hU3.less (by omega)).keep (Same.ex (a := i2 - 1) (b := i2 + 1) ⟨by omega, by omega⟩ ⟨by omega, by omega⟩ (by omega)) (.inl (by omega))
     refine xB (fun (r : List Nat) => [(0, v), (1, Vj a), (2, Vj b), (7, Vj i2), (8, Vj j)]) (fun (r : List Nat) => Same a b l r ∧ Up a i2 r) (fun (r : List Nat) => [Res.vec 28 1 v r.length (r.flatMap U1)]) ?_ (fun r g hΦ => ?_)
     ·
      refine zB (zC rfl (zC rfl (yX (c := ((i2 - a : Nat) : Int)) rfl rfl (wsi (by omega) (by omega)) rfl (xC rfl rfl rfl (zA (zU rfl (fun c6 => ?_) (fun c6 => ?_)))))))
      ·
       refine zB (zC rfl (yX (c := ((i2 - 1 : Nat) : Int)) rfl rfl (kO (by omega) (by omega)) rfl (zD rfl (zA (zT ?_)))))
       refine xT (fun (j3 : Nat) (r : List Nat) => [(0, v), (1, Vj a), (2, Vj b), (7, Vj i2), (8, Vj j), (9, Vj j3)]) (fun (j3 : Nat) (r : List Nat) => (a ≤ j3 ∧ j3 ≤ i2 - 1) ∧ Same a b l r ∧ Ins a (i2 - 1) j3 r) (fun (j3 : Nat) (r : List Nat) => [Res.vec 28 1 v r.length (r.flatMap U1)]) (fun (j3 : Nat) (r : List Nat) => j3) (fun w' hw => ⟨i2 - 1, n, ⟨rfl, rfl, rfl, rfl, rfl, rfl, trivial⟩, ⟨⟨by omega, by omega⟩, hSn, Ins.start hUn⟩, hw⟩) (fun j3 r g hΦ => ?_)
       have hj3 := hΦ.1
       have hS3 := hΦ.2.1
       have hI3 := hΦ.2.2
       have hl3 := hS3.len
       have hp3 := hpr.keep hS3 hb
       refine zL (zB (zC rfl (xC rfl rfl rfl (zA (zU rfl (fun c7 => ?_) (fun c7 => ?_))))))
       ·
        refine zK (xB (fun (m : List Nat) => [(0, v), (1, Vj a), (2, Vj b), (7, Vj i2), (8, Vj j), (9, Vj j3)]) (fun (m : List Nat) => m = yp r j3 (j3 - 1) ∧ a < j3 ∧ olt (zI r j3) (zI r (j3 - 1))) (fun (m : List Nat) => [Res.vec 28 1 v m.length (m.flatMap U1)]) ?_ (fun m g hΦ => ?_))
        ·
         refine zT (zL (zL (zg [0] rfl (by decide) (by kernel_rfl) (fun w' hw hS => zF 0 rfl (zQ) hS (zF 1 rfl (zQ) hS (zF 2 rfl (yR (pV 0 rfl) 1 j3 rfl rfl rfl (by omega)) hS (zF 3 rfl (yq (pV 0 rfl) 1 j3 0 (fun _ => rfl) rfl rfl (by omega) rfl) hS (zF 4 rfl (zQ) hS (zF 5 rfl (zQ) hS (zF 6 rfl (kc (c := ((j3 - 1 : Nat) : Int)) rfl rfl (kO (by omega) (by omega))) hS (zF 7 rfl (yR (pV 0 rfl) 1 (j3 - 1) rfl rfl rfl (by omega)) hS (zF 8 rfl (yq (pV 0 rfl) 1 (j3 - 1) 0 (fun _ => rfl) rfl rfl (by omega) rfl) hS ?_))))))))))))
         refine zY 9 rfl hw (zJ rfl rfl (fun w' hw => (kJ (zI r j3) (zI r (j3 - 1)) w').mono ?_))
         rintro _ w1 ⟨rfl, hO⟩
         refine (?_ : CL _ _ _ _ _ _ (Own w S [Res.vec 28 1 v r.length (r.flatMap U1)])) w1 (hw.frame0 hO)
         refine zG [0] rfl (by decide) (fun w' hw hS => zF 10 rfl (jN (q := olt (zI r j3) (zI r (j3 - 1))) rfl) hS (zR ?_))
         refine (?_ : C _ _ _ _ _ _ _ (Own w S [Res.vec 28 1 v r.length (r.flatMap U1)])) _ hw
         refine zU rfl (fun c8 => ?_) (fun c8 => ?_)
         ·
          exact xA rfl (fun w' hw => ⟨r, ⟨rfl, rfl, rfl, rfl, rfl, trivial⟩, ⟨hS3, (by have h := hI3.done (fun _ => c8); rwa [show i2 - 1 + 1 = i2 by omega] at h)⟩, hw⟩)
         ·
          have c7' := Decidable.not_not.1 c8
          have haj : a < j3 := (by rcases Nat.lt_or_ge a j3 with h | h; exact h; rcases hp3 with h0 | h0; omega; have h1 := h0 j3 (by omega) (by omega); rw [show a - 1 = j3 - 1 by omega] at h1; exact absurd c7' h1)
          refine zK (zg [] rfl (by decide) (by kernel_rfl) (fun w' hw hS => zF 0 rfl (zQ) hS (zF 1 rfl (zQ) hS (zF 2 rfl (zQ) hS (zF 3 rfl (zQ) hS (zF 4 rfl (kc (c := ((j3 - 1 : Nat) : Int)) rfl rfl (kO (by omega) (by omega))) hS (zF 5 rfl (zQ) hS (zF 6 rfl (zQ) hS (zF 7 rfl (kc (c := ((j3 - 1 : Nat) : Int)) rfl rfl (kO (by omega) (by omega))) hS (zF 10 rfl (zQ) hS (zF 11 rfl (zQ) hS (zk 8 12 ?_ ?_))))))))))))
          ·
           refine zX 8 rfl hw (zH (pV 0 rfl) 1 (j3 - 1) rfl rfl rfl (by omega) rfl (zG [] rfl (by decide) (fun w' hw hS => zk 9 12 ?_ ?_)))
           ·
            refine zX 9 rfl hw (zV (pV 0 rfl) 1 (j3 - 1) 0 (fun _ => rfl) rfl rfl (by omega) rfl rfl (zN 12 rfl (zH (pV 0 rfl) 1 j3 rfl rfl rfl (by omega) rfl (zN 13 rfl (zV (pV 0 rfl) 1 j3 0 (fun _ => rfl) rfl rfl (by omega) rfl rfl (zN 14 rfl (zH (pV 0 rfl) 1 j3 rfl rfl rfl (by omega) rfl (zN 15 rfl ?_))))))))
            refine za 0 j3 (zI r (j3 - 1)) rfl (fun _ => rfl) rfl (by omega) rfl rfl rfl (by omega) (zN 16 rfl (zH (pV 0 rfl) 1 (j3 - 1) rfl rfl rfl (by simp only [List.length_set]; omega) rfl (zN 17 rfl (za 0 (j3 - 1) (zI r j3) rfl (fun _ => rfl) rfl (by omega) rfl rfl rfl (by simp only [List.length_set]; omega) (zG [] rfl (by decide) (fun w' hw hS => zR ?_))))))
            exact ⟨yp r j3 (j3 - 1), ⟨rfl, rfl, rfl, rfl, rfl, rfl, trivial⟩, ⟨rfl, haj, c7'⟩, hw⟩
           ·
            refine zX 12 rfl hw (zH (pV 0 rfl) 1 j3 rfl rfl rfl (by omega) rfl (zG [] rfl (by decide) (fun w' hw hS => zk 9 13 ?_ ?_)))
            ·
             refine zX 9 rfl hw (zV (pV 0 rfl) 1 (j3 - 1) 0 (fun _ => rfl) rfl rfl (by omega) rfl rfl (zN 13 rfl (zV (pV 0 rfl) 1 j3 0 (fun _ => rfl) rfl rfl (by omega) rfl rfl (zN 14 rfl (zH (pV 0 rfl) 1 j3 rfl rfl rfl (by omega) rfl (zN 15 rfl (za 0 j3 (zI r (j3 - 1)) rfl (fun _ => rfl) rfl (by omega) rfl rfl rfl (by omega) (zN 16 rfl ?_))))))))
             refine zH (pV 0 rfl) 1 (j3 - 1) rfl rfl rfl (by simp only [List.length_set]; omega) rfl (zN 17 rfl (za 0 (j3 - 1) (zI r j3) rfl (fun _ => rfl) rfl (by omega) rfl rfl rfl (by simp only [List.length_set]; omega) (zG [] rfl (by decide) (fun w' hw hS => zR ?_))))
             exact ⟨yp r j3 (j3 - 1), ⟨rfl, rfl, rfl, rfl, rfl, rfl, trivial⟩, ⟨rfl, haj, c7'⟩, hw⟩
            ·
             refine zX 13 rfl hw (zV (pV 0 rfl) 1 j3 0 (fun _ => rfl) rfl rfl (by omega) rfl rfl (zN 9 rfl (zV (pV 0 rfl) 1 (j3 - 1) 0 (fun _ => rfl) rfl rfl (by omega) rfl rfl (zN 14 rfl (zH (pV 0 rfl) 1 j3 rfl rfl rfl (by omega) rfl (zN 15 rfl (za 0 j3 (zI r (j3 - 1)) rfl (fun _ => rfl) rfl (by omega) rfl rfl rfl (by omega) (zN 16 rfl ?_))))))))
             refine zH (pV 0 rfl) 1 (j3 - 1) rfl rfl rfl (by simp only [List.length_set]; omega) rfl (zN 17 rfl (za 0 (j3 - 1) (zI r j3) rfl (fun _ => rfl) rfl (by omega) rfl rfl rfl (by simp only [List.length_set]; omega) (zG [] rfl (by decide) (fun w' hw hS => zR ?_))))
             exact ⟨yp r j3 (j3 - 1), ⟨rfl, rfl, rfl, rfl, rfl, rfl, trivial⟩, ⟨rfl, haj, c7'⟩, hw⟩
          ·
           refine zX 12 rfl hw (zH (pV 0 rfl) 1 j3 rfl rfl rfl (by omega) rfl (zG [] rfl (by decide) (fun w' hw hS => zk 8 13 ?_ ?_)))
           ·
            refine zX 8 rfl hw (zH (pV 0 rfl) 1 (j3 - 1) rfl rfl rfl (by omega) rfl (zG [] rfl (by decide) (fun w' hw hS => zk 9 13 ?_ ?_)))
            ·
             refine zX 9 rfl hw (zV (pV 0 rfl) 1 (j3 - 1) 0 (fun _ => rfl) rfl rfl (by omega) rfl rfl (zN 13 rfl (zV (pV 0 rfl) 1 j3 0 (fun _ => rfl) rfl rfl (by omega) rfl rfl (zN 14 rfl (zH (pV 0 rfl) 1 j3 rfl rfl rfl (by omega) rfl (zN 15 rfl (za 0 j3 (zI r (j3 - 1)) rfl (fun _ => rfl) rfl (by omega) rfl rfl rfl (by omega) (zN 16 rfl ?_))))))))
             refine zH (pV 0 rfl) 1 (j3 - 1) rfl rfl rfl (by simp only [List.length_set]; omega) rfl (zN 17 rfl (za 0 (j3 - 1) (zI r j3) rfl (fun _ => rfl) rfl (by omega) rfl rfl rfl (by simp only [List.length_set]; omega) (zG [] rfl (by decide) (fun w' hw hS => zR ?_))))
             exact ⟨yp r j3 (j3 - 1), ⟨rfl, rfl, rfl, rfl, rfl, rfl, trivial⟩, ⟨rfl, haj, c7'⟩, hw⟩
            ·
             refine zX 13 rfl hw (zV (pV 0 rfl) 1 j3 0 (fun _ => rfl) rfl rfl (by omega) rfl rfl (zN 9 rfl (zV (pV 0 rfl) 1 (j3 - 1) 0 (fun _ => rfl) rfl rfl (by omega) rfl rfl (zN 14 rfl (zH (pV 0 rfl) 1 j3 rfl rfl rfl (by omega) rfl (zN 15 rfl (za 0 j3 (zI r (j3 - 1)) rfl (fun _ => rfl) rfl (by omega) rfl rfl rfl (by omega) (zN 16 rfl ?_))))))))
             refine zH (pV 0 rfl) 1 (j3 - 1) rfl rfl rfl (by simp only [List.length_set]; omega) rfl (zN 17 rfl (za 0 (j3 - 1) (zI r j3) rfl (fun _ => rfl) rfl (by omega) rfl rfl rfl (by simp only [List.length_set]; omega) (zG [] rfl (by decide) (fun w' hw hS => zR ?_))))
             exact ⟨yp r j3 (j3 - 1), ⟨rfl, rfl, rfl, rfl, rfl, rfl, trivial⟩, ⟨rfl, haj, c7'⟩, hw⟩
           ·
            refine zX 13 rfl hw (zV (pV 0 rfl) 1 j3 0 (fun _ => rfl) rfl rfl (by omega) rfl rfl (zN 8 rfl (zH (pV 0 rfl) 1 (j3 - 1) rfl rfl rfl (by omega) rfl (zN 9 rfl (zV (pV 0 rfl) 1 (j3 - 1) 0 (fun _ => rfl) rfl rfl (by omega) rfl rfl (zN 14 rfl (zH (pV 0 rfl) 1 j3 rfl rfl rfl (by omega) rfl (zN 15 rfl ?_))))))))
            refine za 0 j3 (zI r (j3 - 1)) rfl (fun _ => rfl) rfl (by omega) rfl rfl rfl (by omega) (zN 16 rfl (zH (pV 0 rfl) 1 (j3 - 1) rfl rfl rfl (by simp only [List.length_set]; omega) rfl (zN 17 rfl (za 0 (j3 - 1) (zI r j3) rfl (fun _ => rfl) rfl (by omega) rfl rfl rfl (by simp only [List.length_set]; omega) (zG [] rfl (by decide) (fun w' hw hS => zR ?_))))))
            exact ⟨yp r j3 (j3 - 1), ⟨rfl, rfl, rfl, rfl, rfl, rfl, trivial⟩, ⟨rfl, haj, c7'⟩, hw⟩
        have hm := hΦ.1
        have haj := hΦ.2.1
        have c7' := hΦ.2.2
        refine zd (zC rfl (yX (c := ((j3 - 1 : Nat) : Int)) rfl rfl (kO (by omega) (by omega)) rfl (zD rfl ?_)))
        exact zj (fun w' hw => ⟨j3 - 1, m, ⟨rfl, rfl, rfl, rfl, rfl, rfl, trivial⟩, ⟨⟨by omega, by omega⟩, (by rw [hm]; exact hS3.then_swp ⟨by omega, by omega⟩ ⟨by omega, by omega⟩ hb), (by rw [hm]; exact hI3.step haj (by omega) (by omega) c7')⟩, hw, (by omega)⟩)
       ·
        exact xA rfl (fun w' hw => ⟨r, ⟨rfl, rfl, rfl, rfl, rfl, trivial⟩, ⟨hS3, (by have h := hI3.done (fun h => absurd h (by omega)); rwa [show i2 - 1 + 1 = i2 by omega] at h)⟩, hw⟩)
      ·
       exact xj (fun w' hw => ⟨n, ⟨rfl, rfl, rfl, rfl, rfl, trivial⟩, ⟨hSn, Up.one (by omega)⟩, hw⟩)
     have hSr := hΦ.1
     have hUr := hΦ.2
     have hrl := hSr.len
     refine zB (zC rfl (zC rfl (yX (c := ((b - i2 : Nat) : Int)) rfl rfl (wsi (by omega) (by omega)) rfl (xC rfl rfl rfl (zA (zU rfl (fun c9 => ?_) (fun c9 => ?_)))))))
     ·
      refine zB (zC rfl (zt rfl rfl (zr (by omega)) rfl (zD rfl (zA (zT ?_)))))
      refine xT (fun (j4 : Nat) (r : List Nat) => [(0, v), (1, Vj a), (2, Vj b), (7, Vj i2), (8, Vj j), (10, Vj j4)]) (fun (j4 : Nat) (r : List Nat) => (i2 + 1 ≤ j4 ∧ j4 ≤ b) ∧ Same a b l r ∧ Up a i2 r) (fun (j4 : Nat) (r : List Nat) => [Res.vec 28 1 v r.length (r.flatMap U1)]) (fun (j4 : Nat) (r : List Nat) => b - j4) (fun w' hw => ⟨i2 + 1, r, ⟨rfl, rfl, rfl, rfl, rfl, rfl, trivial⟩, ⟨⟨by omega, by omega⟩, hSr, hUr⟩, hw⟩) (fun j4 r g hΦ => ?_)
      have hj4 := hΦ.1
      have hS4 := hΦ.2.1
      have hU4 := hΦ.2.2
      have hl4 := hS4.len
      refine zL (zB (zC rfl (zC rfl (yI rfl rfl rfl (zA (zU rfl (fun c10 => ?_) (fun c10 => ?_)))))))
      ·
       refine zK (xB (fun (m : List Nat) => [(0, v), (1, Vj a), (2, Vj b), (7, Vj i2), (8, Vj j), (10, Vj j4)]) (fun (m : List Nat) => m = yp r j4 (j4 - 1)) (fun (m : List Nat) => [Res.vec 28 1 v m.length (m.flatMap U1)]) ?_ (fun m g hΦ => ?_))
       ·
        refine zT (zL (zL (zg [0] rfl (by decide) (by kernel_rfl) (fun w' hw hS => zF 0 rfl (zQ) hS (zF 1 rfl (zQ) hS (zF 2 rfl (yR (pV 0 rfl) 1 j4 rfl rfl rfl (by omega)) hS (zF 3 rfl (yq (pV 0 rfl) 1 j4 0 (fun _ => rfl) rfl rfl (by omega) rfl) hS (zF 4 rfl (zQ) hS (zF 5 rfl (zQ) hS (zF 6 rfl (kc (c := ((j4 - 1 : Nat) : Int)) rfl rfl (kO (by omega) (by omega))) hS (zF 7 rfl (yR (pV 0 rfl) 1 (j4 - 1) rfl rfl rfl (by omega)) hS (zF 8 rfl (yq (pV 0 rfl) 1 (j4 - 1) 0 (fun _ => rfl) rfl rfl (by omega) rfl) hS ?_))))))))))))
        refine zY 9 rfl hw (zJ rfl rfl (fun w' hw => (kJ (zI r j4) (zI r (j4 - 1)) w').mono ?_))
        rintro _ w1 ⟨rfl, hO⟩
        refine (?_ : CL _ _ _ _ _ _ (Own w S [Res.vec 28 1 v r.length (r.flatMap U1)])) w1 (hw.frame0 hO)
        refine zG [0] rfl (by decide) (fun w' hw hS => zF 10 rfl (jN (q := olt (zI r j4) (zI r (j4 - 1))) rfl) hS (zR ?_))
        refine (?_ : C _ _ _ _ _ _ _ (Own w S [Res.vec 28 1 v r.length (r.flatMap U1)])) _ hw
        refine zU rfl (fun c11 => ?_) (fun c11 => ?_)
        ·
         refine yG rfl (zd (zC rfl (zt rfl rfl (zr (by omega)) rfl (zD rfl ?_))))
         exact zj (fun w' hw => ⟨j + 1, i2, r, ⟨rfl, rfl, rfl, rfl, rfl, trivial⟩, ⟨⟨⟨by omega, by omega⟩, by omega⟩, hΦ.2⟩, hw, (by omega)⟩)
        ·
         refine zK (zg [] rfl (by decide) (by kernel_rfl) (fun w' hw hS => zF 0 rfl (zQ) hS (zF 1 rfl (zQ) hS (zF 2 rfl (zQ) hS (zF 3 rfl (zQ) hS (zF 4 rfl (kc (c := ((j4 - 1 : Nat) : Int)) rfl rfl (kO (by omega) (by omega))) hS (zF 5 rfl (zQ) hS (zF 6 rfl (zQ) hS (zF 7 rfl (kc (c := ((j4 - 1 : Nat) : Int)) rfl rfl (kO (by omega) (by omega))) hS (zF 10 rfl (zQ) hS (zF 11 rfl (zQ) hS (zk 8 12 ?_ ?_))))))))))))
         ·
          refine zX 8 rfl hw (zH (pV 0 rfl) 1 (j4 - 1) rfl rfl rfl (by omega) rfl (zG [] rfl (by decide) (fun w' hw hS => zk 9 12 ?_ ?_)))
          ·
           refine zX 9 rfl hw (zV (pV 0 rfl) 1 (j4 - 1) 0 (fun _ => rfl) rfl rfl (by omega) rfl rfl (zN 12 rfl (zH (pV 0 rfl) 1 j4 rfl rfl rfl (by omega) rfl (zN 13 rfl (zV (pV 0 rfl) 1 j4 0 (fun _ => rfl) rfl rfl (by omega) rfl rfl (zN 14 rfl (zH (pV 0 rfl) 1 j4 rfl rfl rfl (by omega) rfl (zN 15 rfl ?_))))))))
           refine za 0 j4 (zI r (j4 - 1)) rfl (fun _ => rfl) rfl (by omega) rfl rfl rfl (by omega) (zN 16 rfl (zH (pV 0 rfl) 1 (j4 - 1) rfl rfl rfl (by simp only [List.length_set]; omega) rfl (zN 17 rfl (za 0 (j4 - 1) (zI r j4) rfl (fun _ => rfl) rfl (by omega) rfl rfl rfl (by simp only [List.length_set]; omega) (zG [] rfl (by decide) (fun w' hw hS => zR ?_))))))
           exact ⟨yp r j4 (j4 - 1), ⟨rfl, rfl, rfl, rfl, rfl, rfl, trivial⟩, rfl, hw⟩
          ·
           refine zX 12 rfl hw (zH (pV 0 rfl) 1 j4 rfl rfl rfl (by omega) rfl (zG [] rfl (by decide) (fun w' hw hS => zk 9 13 ?_ ?_)))
           ·
            refine zX 9 rfl hw (zV (pV 0 rfl) 1 (j4 - 1) 0 (fun _ => rfl) rfl rfl (by omega) rfl rfl (zN 13 rfl (zV (pV 0 rfl) 1 j4 0 (fun _ => rfl) rfl rfl (by omega) rfl rfl (zN 14 rfl (zH (pV 0 rfl) 1 j4 rfl rfl rfl (by omega) rfl (zN 15 rfl (za 0 j4 (zI r (j4 - 1)) rfl (fun _ => rfl) rfl (by omega) rfl rfl rfl (by omega) (zN 16 rfl ?_))))))))
            refine zH (pV 0 rfl) 1 (j4 - 1) rfl rfl rfl (by simp only [List.length_set]; omega) rfl (zN 17 rfl (za 0 (j4 - 1) (zI r j4) rfl (fun _ => rfl) rfl (by omega) rfl rfl rfl (by simp only [List.length_set]; omega) (zG [] rfl (by decide) (fun w' hw hS => zR ?_))))
            exact ⟨yp r j4 (j4 - 1), ⟨rfl, rfl, rfl, rfl, rfl, rfl, trivial⟩, rfl, hw⟩
           ·
            refine zX 13 rfl hw (zV (pV 0 rfl) 1 j4 0 (fun _ => rfl) rfl rfl (by omega) rfl rfl (zN 9 rfl (zV (pV 0 rfl) 1 (j4 - 1) 0 (fun _ => rfl) rfl rfl (by omega) rfl rfl (zN 14 rfl (zH (pV 0 rfl) 1 j4 rfl rfl rfl (by omega) rfl (zN 15 rfl (za 0 j4 (zI r (j4 - 1)) rfl (fun _ => rfl) rfl (by omega) rfl rfl rfl (by omega) (zN 16 rfl ?_))))))))
            refine zH (pV 0 rfl) 1 (j4 - 1) rfl rfl rfl (by simp only [List.length_set]; omega) rfl (zN 17 rfl (za 0 (j4 - 1) (zI r j4) rfl (fun _ => rfl) rfl (by omega) rfl rfl rfl (by simp only [List.length_set]; omega) (zG [] rfl (by decide) (fun w' hw hS => zR ?_))))
            exact ⟨yp r j4 (j4 - 1), ⟨rfl, rfl, rfl, rfl, rfl, rfl, trivial⟩, rfl, hw⟩
         ·
          refine zX 12 rfl hw (zH (pV 0 rfl) 1 j4 rfl rfl rfl (by omega) rfl (zG [] rfl (by decide) (fun w' hw hS => zk 8 13 ?_ ?_)))
          ·
           refine zX 8 rfl hw (zH (pV 0 rfl) 1 (j4 - 1) rfl rfl rfl (by omega) rfl (zG [] rfl (by decide) (fun w' hw hS => zk 9 13 ?_ ?_)))
           ·
            refine zX 9 rfl hw (zV (pV 0 rfl) 1 (j4 - 1) 0 (fun _ => rfl) rfl rfl (by omega) rfl rfl (zN 13 rfl (zV (pV 0 rfl) 1 j4 0 (fun _ => rfl) rfl rfl (by omega) rfl rfl (zN 14 rfl (zH (pV 0 rfl) 1 j4 rfl rfl rfl (by omega) rfl (zN 15 rfl (za 0 j4 (zI r (j4 - 1)) rfl (fun _ => rfl) rfl (by omega) rfl rfl rfl (by omega) (zN 16 rfl ?_))))))))
            refine zH (pV 0 rfl) 1 (j4 - 1) rfl rfl rfl (by simp only [List.length_set]; omega) rfl (zN 17 rfl (za 0 (j4 - 1) (zI r j4) rfl (fun _ => rfl) rfl (by omega) rfl rfl rfl (by simp only [List.length_set]; omega) (zG [] rfl (by decide) (fun w' hw hS => zR ?_))))
            exact ⟨yp r j4 (j4 - 1), ⟨rfl, rfl, rfl, rfl, rfl, rfl, trivial⟩, rfl, hw⟩
           ·
            refine zX 13 rfl hw (zV (pV 0 rfl) 1 j4 0 (fun _ => rfl) rfl rfl (by omega) rfl rfl (zN 9 rfl (zV (pV 0 rfl) 1 (j4 - 1) 0 (fun _ => rfl) rfl rfl (by omega) rfl rfl (zN 14 rfl (zH (pV 0 rfl) 1 j4 rfl rfl rfl (by omega) rfl (zN 15 rfl (za 0 j4 (zI r (j4 - 1)) rfl (fun _ => rfl) rfl (by omega) rfl rfl rfl (by omega) (zN 16 rfl ?_))))))))
            refine zH (pV 0 rfl) 1 (j4 - 1) rfl rfl rfl (by simp only [List.length_set]; omega) rfl (zN 17 rfl (za 0 (j4 - 1) (zI r j4) rfl (fun _ => rfl) rfl (by omega) rfl rfl rfl (by simp only [List.length_set]; omega) (zG [] rfl (by decide) (fun w' hw hS => zR ?_))))
            exact ⟨yp r j4 (j4 - 1), ⟨rfl, rfl, rfl, rfl, rfl, rfl, trivial⟩, rfl, hw⟩
          ·
           refine zX 13 rfl hw (zV (pV 0 rfl) 1 j4 0 (fun _ => rfl) rfl rfl (by omega) rfl rfl (zN 8 rfl (zH (pV 0 rfl) 1 (j4 - 1) rfl rfl rfl (by omega) rfl (zN 9 rfl (zV (pV 0 rfl) 1 (j4 - 1) 0 (fun _ => rfl) rfl rfl (by omega) rfl rfl (zN 14 rfl (zH (pV 0 rfl) 1 j4 rfl rfl rfl (by omega) rfl (zN 15 rfl ?_))))))))
           refine za 0 j4 (zI r (j4 - 1)) rfl (fun _ => rfl) rfl (by omega) rfl rfl rfl (by omega) (zN 16 rfl (zH (pV 0 rfl) 1 (j4 - 1) rfl rfl rfl (by simp only [List.length_set]; omega) rfl (zN 17 rfl (za 0 (j4 - 1) (zI r j4) rfl (fun _ => rfl) rfl (by omega) rfl rfl rfl (by simp only [List.length_set]; omega) (zG [] rfl (by decide) (fun w' hw hS => zR ?_))))))
           exact ⟨yp r j4 (j4 - 1), ⟨rfl, rfl, rfl, rfl, rfl, rfl, trivial⟩, rfl, hw⟩
       have hm := hΦ
       refine zd (zC rfl (zt rfl rfl (zr (by omega)) rfl (zD rfl ?_)))
       exact zj (fun w' hw => ⟨j4 + 1, m, ⟨rfl, rfl, rfl, rfl, rfl, rfl, trivial⟩, ⟨⟨by omega, by omega⟩, (by rw [hm]; exact hS4.then_swp ⟨by omega, by omega⟩ ⟨by omega, by omega⟩ hb), (by rw [hm]; exact hU4.keep (Same.ex (a := i2) (b := b) ⟨by omega, by omega⟩ ⟨by omega, by omega⟩ (by omega)) (.inl (by omega)))⟩, hw, (by omega)⟩)
      ·
       refine yG rfl (zd (zC rfl (zt rfl rfl (zr (by omega)) rfl (zD rfl ?_))))
       exact zj (fun w' hw => ⟨j + 1, i2, r, ⟨rfl, rfl, rfl, rfl, rfl, trivial⟩, ⟨⟨⟨by omega, by omega⟩, by omega⟩, hΦ.2⟩, hw, (by omega)⟩)
     ·
      refine zK (zd (zC rfl (zt rfl rfl (zr (by omega)) rfl (zD rfl ?_))))
      exact zj (fun w' hw => ⟨j + 1, i2, r, ⟨rfl, rfl, rfl, rfl, rfl, trivial⟩, ⟨⟨⟨by omega, by omega⟩, by omega⟩, hSr, hUr⟩, hw, (by omega)⟩)
  ·
   refine yG rfl (zB (zD rfl (zA ?_)))
   exact zM (z6 (v := .bool false) rfl rfl (fun w' hw => ⟨q, false, rfl, hS1, (fun h => by cases h), hw⟩))
theorem zCj {S : List Nat} (v : Value) (l : List Nat) (a b n o : Nat) (w : World) (ha : a < l.length) (hb : b < l.length) (hl : zb l.length) (hn : n ≤ 100) (hin : Own w S [Res.row o 3 [Vj n]] w) (hv : Rd w S (Res.sl v l.length (l.flatMap U1))) : Rets Tryz.prog 197 #[v, Vj a, Vj b, .pointer (some ⟨o, 0, none⟩)] w fun u_ w' => ∃ (x y m : Nat), u_ = .tuple #[Vj x, Vj y] ∧ ((x = a ∧ y = b) ∨ (x = b ∧ y = a)) ∧ m ≤ n + 1 ∧ Own w S [Res.row o 3 [Vj m]] w' := by
  refine zW Tryz.func197 rfl Tryz.ntmps197 hin ?_
  refine zB (zD rfl (zD rfl (zA (zL (zL (zg [0] rfl (by decide) (by kernel_rfl) (fun w' hw hS => zF 0 rfl (zQ) hS (zF 1 rfl (zQ) hS (zF 2 rfl (yR (pR hv) 1 b rfl rfl rfl (by omega)) hS (zF 3 rfl (yq (pR hv) 1 b 0 (fun _ => rfl) rfl rfl (by omega) rfl) hS (zF 4 rfl (zQ) hS (zF 5 rfl (zQ) hS ?_))))))))))))
  refine zF 6 rfl (yR (pR hv) 1 a rfl rfl rfl (by omega)) hS (zF 7 rfl (yq (pR hv) 1 a 0 (fun _ => rfl) rfl rfl (by omega) rfl) hS (zY 8 rfl hw (zJ rfl rfl (fun w' hw => (kJ (zI l b) (zI l a) w').mono ?_))))
  rintro _ w1 ⟨rfl, hO⟩
  refine (?_ : CL _ _ _ _ _ _ (Own w S [Res.row o 3 [Vj n]])) w1 (hw.frame0 hO)
  refine zG [0] rfl (by decide) (fun w' hw hS => zR ?_)
  refine (?_ : C _ _ _ _ _ _ _ (Own w S [Res.row o 3 [Vj n]])) _ hw
  refine zU rfl (fun c1 => ?_) (fun c1 => ?_)
  ·
   refine zB (zC rfl (zm rfl rfl (zS 0 (v := Vj n) rfl rfl rfl rfl (zt rfl rfl (zr (by omega)) rfl (zm rfl rfl (yi (cs := [Vj n]) 0 rfl rfl rfl rfl rfl (zA (zB (zC rfl (zC rfl (zD rfl (zD rfl ?_))))))))))))
   refine zA ?_
   exact zM (xK (v := Vj b) (v' := Vj a) rfl rfl rfl (fun w' hw => ⟨b, a, n + 1, rfl, (.inr ⟨rfl, rfl⟩), (Nat.le_refl _), hw⟩))
  ·
   refine zK (zB (zC rfl (zC rfl (zD rfl (zD rfl (zA ?_))))))
   exact zM (xK (v := Vj a) (v' := Vj b) rfl rfl rfl (fun w' hw => ⟨a, b, n, rfl, (.inl ⟨rfl, rfl⟩), (Nat.le_succ _), hw⟩))
theorem zCO {S : List Nat} (v : Value) (l : List Nat) (a b c n o : Nat) (w : World) (ha : a < l.length) (hb : b < l.length) (hc : c < l.length) (hl : zb l.length) (hn : n ≤ 90) (hin : Own w S [Res.row o 3 [Vj n]] w) (hv : Rd w S (Res.sl v l.length (l.flatMap U1))) : Rets Tryz.prog 186 #[v, Vj a, Vj b, Vj c, .pointer (some ⟨o, 0, none⟩)] w fun u_ w' => ∃ (x m : Nat), u_ = Vj x ∧ (x = a ∨ x = b ∨ x = c) ∧ m ≤ n + 3 ∧ Own w S [Res.row o 3 [Vj m]] w' := by
  refine zW Tryz.func186 rfl Tryz.ntmps186 hin ?_
  refine zB (zD rfl (zA (zB (zC rfl (zC rfl (zC rfl (zC rfl (zJ rfl rfl (fun w' hw => (zCj v l a b n o w' (by first | omega | (simp <;> omega)) (by first | omega | (simp <;> omega)) (by first | assumption | omega | (simp <;> omega) | (constructor <;> (first | omega | (simp only [zb]; omega) | (simp <;> omega)))) (by first | omega | (simp <;> omega)) (hw.give [0] rfl (by decide)) (hw.rdTo hv [0] rfl)).mono ?_)))))))))
  rintro _ w1 ⟨x1_, y2_, m3_, rfl, hf1_4, hf1_4_1, hO⟩
  refine (?_ : CL _ _ _ _ _ _ (Own w S [Res.row o 3 [Vj m3_]])) w1 (hw.frameL [0] rfl hO)
  refine zC rfl (zp (vs := [Vj x1_, Vj y2_]) rfl rfl rfl (zp (vs := [Vj x1_, Vj y2_]) rfl rfl rfl (zD rfl (zD rfl (zA (zB (zC rfl (zC rfl (zC rfl (zC rfl (zJ rfl rfl (fun w' hw => (zCj v l y2_ c m3_ o w' (by first | omega | (simp <;> omega)) (by first | omega | (simp <;> omega)) (by first | assumption | omega | (simp <;> omega) | (constructor <;> (first | omega | (simp only [zb]; omega) | (simp <;> omega)))) (by first | omega | (simp <;> omega)) (hw.give [0] rfl (by decide)) (hw.rdTo hv [0] rfl)).mono ?_))))))))))))
  rintro _ w1 ⟨x4_, y5_, m6_, rfl, hf2_4, hf2_4_1, hO⟩
  refine (?_ : CL _ _ _ _ _ _ (Own w S [Res.row o 3 [Vj m6_]])) w1 (hw.frameL [0] rfl hO)
  refine zC rfl (zp (vs := [Vj x4_, Vj y5_]) rfl rfl rfl (zp (vs := [Vj x4_, Vj y5_]) rfl rfl rfl (zD rfl (zD rfl (zA (zB (zC rfl (zC rfl (zC rfl (zC rfl (zJ rfl rfl (fun w' hw => (zCj v l x1_ x4_ m6_ o w' (by first | omega | (simp <;> omega)) (by first | omega | (simp <;> omega)) (by first | assumption | omega | (simp <;> omega) | (constructor <;> (first | omega | (simp only [zb]; omega) | (simp <;> omega)))) (by first | omega | (simp <;> omega)) (hw.give [0] rfl (by decide)) (hw.rdTo hv [0] rfl)).mono ?_))))))))))))
  rintro _ w1 ⟨x7_, y8_, m9_, rfl, hf3_4, hf3_4_1, hO⟩
  refine (?_ : CL _ _ _ _ _ _ (Own w S [Res.row o 3 [Vj m9_]])) w1 (hw.frameL [0] rfl hO)
  refine zC rfl (zp (vs := [Vj x7_, Vj y8_]) rfl rfl rfl (zp (vs := [Vj x7_, Vj y8_]) rfl rfl rfl (zD rfl (zD rfl (zA (zB (zC rfl (zD rfl (zA ?_)))))))))
  exact zM (z6 (v := Vj y8_) rfl rfl (fun w' hw => ⟨y8_, m9_, rfl, (by omega), (by omega), hw⟩))
theorem zAS {S : List Nat} (v : Value) (l : List Nat) (a n o : Nat) (w : World) (ha : 1 ≤ a ∧ a + 1 < l.length) (hl : zb l.length) (hn : n ≤ 90) (hin : Own w S [Res.row o 3 [Vj n]] w) (hv : Rd w S (Res.sl v l.length (l.flatMap U1))) : Rets Tryz.prog 185 #[v, Vj a, .pointer (some ⟨o, 0, none⟩)] w fun u_ w' => ∃ (x m : Nat), u_ = Vj x ∧ (a ≤ x + 1 ∧ x ≤ a + 1) ∧ m ≤ n + 3 ∧ Own w S [Res.row o 3 [Vj m]] w' := by
  refine zW Tryz.func185 rfl Tryz.ntmps185 hin ?_
  refine zB (zD rfl (zA (zB (zC rfl (zC rfl (yX (c := ((a - 1 : Nat) : Int)) rfl rfl (kO (by omega) (by omega)) rfl (zC rfl (zC rfl (zt rfl rfl (zr (by omega)) rfl (zC rfl (zJ rfl rfl (fun w' hw => (zCO v l (a - 1) a (a + 1) n o w' (by first | omega | (simp <;> omega)) (by first | omega | (simp <;> omega)) (by first | omega | (simp <;> omega)) (by first | assumption | omega | (simp <;> omega) | (constructor <;> (first | omega | (simp only [zb]; omega) | (simp <;> omega)))) (by first | omega | (simp <;> omega)) (hw.give [0] rfl (by decide)) (hw.rdTo hv [0] rfl)).mono ?_))))))))))))
  rintro _ w1 ⟨x1_, m2_, rfl, hf1_7, hf1_7_1, hO⟩
  refine (?_ : CL _ _ _ _ _ _ (Own w S [Res.row o 3 [Vj m2_]])) w1 (hw.frameL [0] rfl hO)
  refine zD rfl (zA ?_)
  exact zM (z6 (v := Vj x1_) rfl rfl (fun w' hw => ⟨x1_, m2_, rfl, (by omega), (by omega), hw⟩))
theorem zJz (v : Value) (l : List Nat) (a b : Nat) (w : World) (hab : a + 12 < b) (hb : b ≤ l.length) (hl : zb l.length) (hv : Rd w [] (Res.sl v l.length (l.flatMap U1))) : Rets Tryz.prog 144 #[v, Vj a, Vj b] w fun u_ w' => ∃ (p : Nat) (h : Int), u_ = .tuple #[Vj p, Vi h] ∧ (a ≤ p ∧ p < b) ∧ Own w [] [] w' := by
  refine zW Tryz.func144 rfl Tryz.ntmps144 (Own.start w) ?_
  refine zB (zD rfl (zD rfl (zA (zB (zC rfl (zC rfl (yX (c := ((b - a : Nat) : Int)) rfl rfl (wsi (by omega) (by omega)) rfl (zD rfl (zA (zB (yF (v := Vi 0) (by kernel_rfl) rfl (fun b9 => zA ?_))))))))))))
  refine zB (zC rfl (zC rfl (zBV (c := (((b - a) / 4 : Nat) : Int)) rfl rfl (by decide) (qui (b := 4) (by omega)) rfl (zBm rfl rfl (zr (by omega)) rfl (zt rfl rfl (zr (by omega)) rfl (zD rfl (zA (zB (zC rfl (zC rfl (zBV (c := (((b - a) / 4 : Nat) : Int)) rfl rfl (by decide) (qui (b := 4) (by omega)) rfl (zBm rfl rfl (zr (by omega)) rfl ?_))))))))))))
  refine zt rfl rfl (zr (by omega)) rfl (zD rfl (zA (zB (zC rfl (zC rfl (zBV (c := (((b - a) / 4 : Nat) : Int)) rfl rfl (by decide) (qui (b := 4) (by omega)) rfl (zBm rfl rfl (zr (by omega)) rfl (zt rfl rfl (zr (by omega)) rfl (zD rfl (zA (zL (zB ?_))))))))))))
  refine zC rfl (xC rfl rfl rfl (zA (zU rfl (fun c1 => ?_) (fun c1 => ?_))))
  ·
   refine zL (zB (zC rfl (xC rfl rfl rfl (zA (zU rfl (fun c2 => ?_) (fun c2 => ?_))))))
   ·
    refine zB (zC rfl (zC rfl (zJ rfl rfl (fun w' hw => (zAS v l (a + (((b - a) / 4) * 1)) 0 b9 w' (by first | omega | (simp <;> omega)) (by first | assumption | omega | (simp <;> omega) | (constructor <;> (first | omega | (simp only [zb]; omega) | (simp <;> omega)))) (by first | omega | (simp <;> omega)) (hw.give [0] rfl (by decide)) (hw.rdTo hv [0] rfl)).mono ?_))))
    rintro _ w1 ⟨x1_, m2_, rfl, hf8_2, hf8_2_1, hO⟩
    refine (?_ : CL _ _ _ _ _ _ (Own w [] [Res.row b9 3 [Vj m2_]])) w1 (hw.frameL [0] rfl hO)
    refine zD rfl (zA (zB (zC rfl (zC rfl (zJ rfl rfl (fun w' hw => (zAS v l (a + (((b - a) / 4) * 2)) m2_ b9 w' (by first | omega | (simp <;> omega)) (by first | assumption | omega | (simp <;> omega) | (constructor <;> (first | omega | (simp only [zb]; omega) | (simp <;> omega)))) (by first | omega | (simp <;> omega)) (hw.give [0] rfl (by decide)) (hw.rdTo hv [0] rfl)).mono ?_))))))
    rintro _ w1 ⟨x3_, m4_, rfl, hf9_2, hf9_2_1, hO⟩
    refine (?_ : CL _ _ _ _ _ _ (Own w [] [Res.row b9 3 [Vj m4_]])) w1 (hw.frameL [0] rfl hO)
    refine zD rfl (zA (zd (zC rfl (zC rfl (zJ rfl rfl (fun w' hw => (zAS v l (a + (((b - a) / 4) * 3)) m4_ b9 w' (by first | omega | (simp <;> omega)) (by first | assumption | omega | (simp <;> omega) | (constructor <;> (first | omega | (simp only [zb]; omega) | (simp <;> omega)))) (by first | omega | (simp <;> omega)) (hw.give [0] rfl (by decide)) (hw.rdTo hv [0] rfl)).mono ?_))))))
    rintro _ w1 ⟨x5_, m6_, rfl, hf10_2, hf10_2_1, hO⟩
    refine (?_ : CL _ _ _ _ _ _ (Own w [] [Res.row b9 3 [Vj m6_]])) w1 (hw.frameL [0] rfl hO)
    refine zD rfl (zA (zd (zC rfl (zC rfl (zC rfl (zC rfl (zJ rfl rfl (fun w' hw => (zCO v l x1_ x3_ x5_ m6_ b9 w' (by first | omega | (simp <;> omega)) (by first | omega | (simp <;> omega)) (by first | omega | (simp <;> omega)) (by first | assumption | omega | (simp <;> omega) | (constructor <;> (first | omega | (simp only [zb]; omega) | (simp <;> omega)))) (by first | omega | (simp <;> omega)) (hw.give [0] rfl (by decide)) (hw.rdTo hv [0] rfl)).mono ?_))))))))
    rintro _ w1 ⟨x7_, m8_, rfl, hf11_4, hf11_4_1, hO⟩
    refine (?_ : CL _ _ _ _ _ _ (Own w [] [Res.row b9 3 [Vj m8_]])) w1 (hw.frameL [0] rfl hO)
    refine zD rfl (zA (zB (zS 0 (v := Vj m8_) rfl rfl rfl rfl (zA (zT (zB (yo rfl rfl rfl (zD rfl (zA (zU rfl (fun c3 => ?_) (fun c3 => ?_)))))))))))
    ·
     refine zB (zC rfl (zD rfl (zD rfl (zA ?_))))
     exact zM (xK (v := Vj x7_) (v' := Vi 1) rfl rfl rfl (fun w' hw => ⟨x7_, 1, rfl, ⟨by omega, by omega⟩, hw.drop⟩))
    ·
     refine zB (yo rfl rfl rfl (zD rfl (zA (zU rfl (fun c4 => ?_) (fun c4 => ?_)))))
     ·
      refine zB (zC rfl (zD rfl (zD rfl (zA ?_))))
      exact zM (xK (v := Vj x7_) (v' := Vi 2) rfl rfl rfl (fun w' hw => ⟨x7_, 2, rfl, ⟨by omega, by omega⟩, hw.drop⟩))
     ·
      refine zB (zC rfl (zD rfl (zD rfl (zA ?_))))
      exact zM (xK (v := Vj x7_) (v' := Vi 0) rfl rfl rfl (fun w' hw => ⟨x7_, 0, rfl, ⟨by omega, by omega⟩, hw.drop⟩))
   ·
    refine zK (zd (zC rfl (zC rfl (zC rfl (zC rfl (zJ rfl rfl (fun w' hw => (zCO v l (a + (((b - a) / 4) * 1)) (a + (((b - a) / 4) * 2)) (a + (((b - a) / 4) * 3)) 0 b9 w' (by first | omega | (simp <;> omega)) (by first | omega | (simp <;> omega)) (by first | omega | (simp <;> omega)) (by first | assumption | omega | (simp <;> omega) | (constructor <;> (first | omega | (simp only [zb]; omega) | (simp <;> omega)))) (by first | omega | (simp <;> omega)) (hw.give [0] rfl (by decide)) (hw.rdTo hv [0] rfl)).mono ?_)))))))
    rintro _ w1 ⟨x9_, m10_, rfl, hf11_4, hf11_4_1, hO⟩
    refine (?_ : CL _ _ _ _ _ _ (Own w [] [Res.row b9 3 [Vj m10_]])) w1 (hw.frameL [0] rfl hO)
    refine zD rfl (zA (zB (zS 0 (v := Vj m10_) rfl rfl rfl rfl (zA (zT (zB (yo rfl rfl rfl (zD rfl (zA (zU rfl (fun c5 => ?_) (fun c5 => ?_)))))))))))
    ·
     refine zB (zC rfl (zD rfl (zD rfl (zA ?_))))
     exact zM (xK (v := Vj x9_) (v' := Vi 1) rfl rfl rfl (fun w' hw => ⟨x9_, 1, rfl, ⟨by omega, by omega⟩, hw.drop⟩))
    ·
     refine zB (yo rfl rfl rfl (zD rfl (zA (zU rfl (fun c6 => ?_) (fun c6 => ?_)))))
     ·
      refine zB (zC rfl (zD rfl (zD rfl (zA ?_))))
      exact zM (xK (v := Vj x9_) (v' := Vi 2) rfl rfl rfl (fun w' hw => ⟨x9_, 2, rfl, ⟨by omega, by omega⟩, hw.drop⟩))
     ·
      refine zB (zC rfl (zD rfl (zD rfl (zA ?_))))
      exact zM (xK (v := Vj x9_) (v' := Vi 0) rfl rfl rfl (fun w' hw => ⟨x9_, 0, rfl, ⟨by omega, by omega⟩, hw.drop⟩))
  ·
   refine zK (zB (zS 0 (v := Vi 0) rfl rfl rfl rfl (zA (zT (zB (yo rfl rfl rfl (zD rfl (zA (zU rfl (fun c7 => ?_) (fun c7 => ?_))))))))))
   ·
    refine zB (zC rfl (zD rfl (zD rfl (zA ?_))))
    exact zM (xK (v := Vj (a + (((b - a) / 4) * 2))) (v' := Vi 1) rfl rfl rfl (fun w' hw => ⟨a + (((b - a) / 4) * 2), 1, rfl, ⟨by omega, by omega⟩, hw.drop⟩))
   ·
    refine zB (yo rfl rfl rfl (zD rfl (zA (zU rfl (fun c8 => ?_) (fun c8 => ?_)))))
    ·
     refine zB (zC rfl (zD rfl (zD rfl (zA ?_))))
     exact zM (xK (v := Vj (a + (((b - a) / 4) * 2))) (v' := Vi 2) rfl rfl rfl (fun w' hw => ⟨a + (((b - a) / 4) * 2), 2, rfl, ⟨by omega, by omega⟩, hw.drop⟩))
    ·
     refine zB (zC rfl (zD rfl (zD rfl (zA ?_))))
     exact zM (xK (v := Vj (a + (((b - a) / 4) * 2))) (v' := Vi 0) rfl rfl rfl (fun w' hw => ⟨a + (((b - a) / 4) * 2), 0, rfl, ⟨by omega, by omega⟩, hw.drop⟩))
theorem zI7 {S : List Nat} (v : Value) (l : List Nat) (a b : Nat) (w : World) (ha : a ≤ b) (hb : b ≤ l.length) (hl : zb l.length) (hin : Own w S [Res.vec 28 1 v l.length (l.flatMap U1)] w) : Rets Tryz.prog 143 #[v, Vj a, Vj b] w fun u_ w' => ∃ (l' : List Nat), u_ = .tuple #[] ∧ Same a b l l' ∧ Own w S [Res.vec 28 1 v l'.length (l'.flatMap U1)] w' := by
  refine zW Tryz.func143 rfl Tryz.ntmps143 hin ?_
  refine zB (zC rfl (zC rfl (yX (c := ((b - a : Nat) : Int)) rfl rfl (wsi (by omega) (by omega)) rfl (zD rfl (zA (zB (zC rfl (xC rfl rfl rfl (zA (zU rfl (fun c1 => ?_) (fun c1 => ?_)))))))))))
  ·
   have hM := zLn (n := b - a) (by omega)
   have hM2 : 2 ^ zw (b - a) ≤ 4000000000000 := Nat.le_trans hM.1 (by omega)
   refine zB (zC rfl (yw (by kernel_rfl) rfl (kS (by omega)) rfl ?_ (by kernel_rfl)))
   refine yF (v := Vn 0) (by kernel_rfl) rfl (fun b7 => yi (cs := [Vn 0]) 1 rfl rfl rfl rfl rfl (zA (zB (zC rfl (zJ rfl rfl (fun w' hw => (zNQ (b - a) w' (by first | omega | (simp <;> omega))).mono ?_))))))
   rintro _ w1 ⟨rfl, hO⟩
   refine (?_ : CL _ _ _ _ _ _ (Own w S [Res.vec 28 1 v l.length (l.flatMap U1), Res.row b7 237 [Vn (b - a)]])) w1 (hw.frame0 hO)
   refine zD rfl (zA (zB (zC rfl (zC rfl (zBV (c := (((b - a) / 4 : Nat) : Int)) rfl rfl (by decide) (qui (b := 4) (by omega)) rfl (zBm rfl rfl (zr (by omega)) rfl (zt rfl rfl (zr (by omega)) rfl (yX (c := ((a + (b - a) / 4 * 2 - 1 : Nat) : Int)) rfl rfl (kO (a := a + (b - a) / 4 * 2) (by omega) (by omega)) rfl (zD rfl (zA (zT ?_)))))))))))
   refine xS (fun (i : Nat) (q : List Nat) (y : Int) => [(0, v), (1, Vj a), (6, Vj (b - a)), (7, .pointer (some ⟨b7, 0, none⟩)), (8, Vn (2 ^ zw (b - a))), (9, Vj i)]) (fun (i : Nat) (q : List Nat) (y : Int) => (a + (b - a) / 4 * 2 ≤ i + 1 ∧ i ≤ a + (b - a) / 4 * 2 + 2) ∧ Same a b l q) (fun (i : Nat) (q : List Nat) (y : Int) => [Res.vec 28 1 v q.length (q.flatMap U1), Res.row b7 237 [.int .u64 y]]) (fun (i : Nat) (q : List Nat) (y : Int) => a + (b - a) / 4 * 2 + 2 - i) (fun w' hw => ⟨a + (b - a) / 4 * 2 - 1, l, ((b - a : Nat) : Int), ⟨rfl, rfl, rfl, rfl, rfl, rfl, trivial⟩, ⟨⟨by omega, by omega⟩, Same.refl _ _ _⟩, hw⟩) (fun i q y g hΦ => ?_)
   have hi1 := hΦ.1
   have hS1 := hΦ.2
   have hq1 := hS1.len
   refine zL (zB (zC rfl (zC rfl (zC rfl (zBV (c := (((b - a) / 4 : Nat) : Int)) rfl rfl (by decide) (qui (b := 4) (by omega)) rfl (zBm rfl rfl (zr (by omega)) rfl (zt rfl rfl (zr (by omega)) rfl (zt rfl rfl (zr (by omega)) rfl (ka rfl rfl rfl (zA (zU rfl (fun c2 => ?_) (fun c2 => ?_))))))))))))
   ·
    refine zK (zJE (fun (n : List Nat) (y2 : Int) => [(0, v), (1, Vj a), (6, Vj (b - a)), (7, .pointer (some ⟨b7, 0, none⟩)), (8, Vn (2 ^ zw (b - a))), (9, Vj i)]) (fun (n : List Nat) (y2 : Int) => ∃ z, z < b - a ∧ n = yp q i (a + z)) (fun (n : List Nat) (y2 : Int) => [Res.vec 28 1 v n.length (n.flatMap U1), Res.row b7 237 [.int .u64 y2]]) ?_ (fun n y2 g hΦ => ?_))
    ·
     refine zT (zB (zJ rfl rfl (fun w' hw => (zLI b7 y w' (hw.give [1] rfl (by decide))).mono ?_)))
     rintro _ w1 ⟨y1_, rfl, hO⟩
     have hz := zIR (y := y1_) hM.2 hM2
     have hz2 := Nat.lt_of_lt_of_le hz hM.1
     refine (?_ : CL _ _ _ _ _ _ (Own w S [Res.vec 28 1 v q.length (q.flatMap U1), Res.row b7 237 [.int .u64 y1_]])) w1 (hw.frameL [1] rfl hO)
     refine zC rfl (yX (c := ((2 ^ zw (b - a) - 1 : Nat) : Int)) rfl rfl (ws (b := 1) hM.2 (Nat.lt_of_le_of_lt hM2 (by decide))) rfl (zMj (c := ((((y1_ % 18446744073709551616).toNat &&& (2 ^ zw (b - a) - 1)) : Nat) : Int)) rfl rfl (zIX hM.2 hM2) rfl (yw (by kernel_rfl) rfl (zr (by omega)) rfl ?_ (by kernel_rfl))))
     refine zD rfl (zA (xB (fun (z : Nat) => [(0, v), (1, Vj a), (6, Vj (b - a)), (7, .pointer (some ⟨b7, 0, none⟩)), (8, Vn (2 ^ zw (b - a))), (9, Vj i), (10, Vj z)]) (fun (z : Nat) => z < b - a) (fun (z : Nat) => [Res.vec 28 1 v q.length (q.flatMap U1), Res.row b7 237 [.int .u64 y1_]]) ?_ (fun z g hΦ => ?_)))
     ·
      refine zB (zC rfl (zC rfl (xC rfl rfl rfl (zA (zU rfl (fun c3 => ?_) (fun c3 => ?_))))))
      ·
       refine zd (zC rfl (zC rfl (yX (c := ((((y1_ % 18446744073709551616).toNat &&& (2 ^ zw (b - a) - 1)) - (b - a) : Nat) : Int)) rfl rfl (wsi (by omega) (by omega)) rfl (zD rfl ?_))))
       exact zj (fun w' hw => ⟨((y1_ % 18446744073709551616).toNat &&& (2 ^ zw (b - a) - 1)) - (b - a), ⟨rfl, rfl, rfl, rfl, rfl, rfl, rfl, trivial⟩, by omega, hw⟩)
      ·
       exact xj (fun w' hw => ⟨((y1_ % 18446744073709551616).toNat &&& (2 ^ zw (b - a) - 1)), ⟨rfl, rfl, rfl, rfl, rfl, rfl, rfl, trivial⟩, by omega, hw⟩)
     have hzz := hΦ
     refine zg [1] rfl (by decide) (by kernel_rfl) (fun w' hw hS => zF 0 rfl (zQ) hS (zF 1 rfl (zQ) hS (zF 2 rfl (zQ) hS (zF 3 rfl (zQ) hS (zF 4 rfl (zQ) hS (zF 5 rfl (xy rfl rfl (zr (by omega))) hS (zF 6 rfl (zQ) hS (zF 7 rfl (zQ) hS (zF 8 rfl (zQ) hS (zF 9 rfl (xy rfl rfl (zr (by omega))) hS (zF 12 rfl (zQ) hS (zF 13 rfl (zQ) hS ?_))))))))))))
     refine zk 10 14 ?_ ?_
     ·
      refine zX 10 rfl hw (zH (pV 0 rfl) 1 (a + z) rfl rfl rfl (by omega) rfl (zG [1] rfl (by decide) (fun w' hw hS => zk 11 14 ?_ ?_)))
      ·
       refine zX 11 rfl hw (zV (pV 0 rfl) 1 (a + z) 0 (fun _ => rfl) rfl rfl (by omega) rfl rfl (zG [1] rfl (by decide) (fun w' hw hS => zY 14 rfl hw (zH (pV 0 rfl) 1 i rfl rfl rfl (by omega) rfl (zG [1] rfl (by decide) (fun w' hw hS => zY 15 rfl hw (zV (pV 0 rfl) 1 i 0 (fun _ => rfl) rfl rfl (by omega) rfl rfl (zG [1] rfl (by decide) (fun w' hw hS => zY 16 rfl hw (zH (pV 0 rfl) 1 i rfl rfl rfl (by omega) rfl (zG [1] rfl (by decide) (fun w' hw hS => zY 17 rfl hw ?_))))))))))))
       refine za 0 i (zI q (a + z)) rfl (fun _ => rfl) rfl (by omega) rfl rfl rfl (by omega) (zG [1] rfl (by decide) (fun w' hw hS => zY 18 rfl hw (zH (pV 0 rfl) 1 (a + z) rfl rfl rfl (by simp only [List.length_set]; omega) rfl (zG [1] rfl (by decide) (fun w' hw hS => zY 19 rfl hw (za 0 (a + z) (zI q i) rfl (fun _ => rfl) rfl (by omega) rfl rfl rfl (by simp only [List.length_set]; omega) (zG [1] rfl (by decide) (fun w' hw hS => zR ?_))))))))
       exact ⟨yp q i (a + z), y1_, ⟨rfl, rfl, rfl, rfl, rfl, rfl, trivial⟩, ⟨z, hzz, rfl⟩, hw⟩
      ·
       refine zX 14 rfl hw (zH (pV 0 rfl) 1 i rfl rfl rfl (by omega) rfl (zG [1] rfl (by decide) (fun w' hw hS => zk 11 15 ?_ ?_)))
       ·
        refine zX 11 rfl hw (zV (pV 0 rfl) 1 (a + z) 0 (fun _ => rfl) rfl rfl (by omega) rfl rfl (zG [1] rfl (by decide) (fun w' hw hS => zY 15 rfl hw (zV (pV 0 rfl) 1 i 0 (fun _ => rfl) rfl rfl (by omega) rfl rfl (zG [1] rfl (by decide) (fun w' hw hS => zY 16 rfl hw (zH (pV 0 rfl) 1 i rfl rfl rfl (by omega) rfl (zG [1] rfl (by decide) (fun w' hw hS => zY 17 rfl hw (za 0 i (zI q (a + z)) rfl (fun _ => rfl) rfl (by omega) rfl rfl rfl (by omega) (zG [1] rfl (by decide) (fun w' hw hS => zY 18 rfl hw ?_))))))))))))
        refine zH (pV 0 rfl) 1 (a + z) rfl rfl rfl (by simp only [List.length_set]; omega) rfl (zG [1] rfl (by decide) (fun w' hw hS => zY 19 rfl hw (za 0 (a + z) (zI q i) rfl (fun _ => rfl) rfl (by omega) rfl rfl rfl (by simp only [List.length_set]; omega) (zG [1] rfl (by decide) (fun w' hw hS => zR ?_)))))
        exact ⟨yp q i (a + z), y1_, ⟨rfl, rfl, rfl, rfl, rfl, rfl, trivial⟩, ⟨z, hzz, rfl⟩, hw⟩
       ·
        refine zX 15 rfl hw (zV (pV 0 rfl) 1 i 0 (fun _ => rfl) rfl rfl (by omega) rfl rfl (zG [1] rfl (by decide) (fun w' hw hS => zY 11 rfl hw (zV (pV 0 rfl) 1 (a + z) 0 (fun _ => rfl) rfl rfl (by omega) rfl rfl (zG [1] rfl (by decide) (fun w' hw hS => zY 16 rfl hw (zH (pV 0 rfl) 1 i rfl rfl rfl (by omega) rfl (zG [1] rfl (by decide) (fun w' hw hS => zY 17 rfl hw (za 0 i (zI q (a + z)) rfl (fun _ => rfl) rfl (by omega) rfl rfl rfl (by omega) (zG [1] rfl (by decide) (fun w' hw hS => zY 18 rfl hw ?_))))))))))))
        refine zH (pV 0 rfl) 1 (a + z) rfl rfl rfl (by simp only [List.length_set]; omega) rfl (zG [1] rfl (by decide) (fun w' hw hS => zY 19 rfl hw (za 0 (a + z) (zI q i) rfl (fun _ => rfl) rfl (by omega) rfl rfl rfl (by simp only [List.length_set]; omega) (zG [1] rfl (by decide) (fun w' hw hS => zR ?_)))))
        exact ⟨yp q i (a + z), y1_, ⟨rfl, rfl, rfl, rfl, rfl, rfl, trivial⟩, ⟨z, hzz, rfl⟩, hw⟩
     ·
      refine zX 14 rfl hw (zH (pV 0 rfl) 1 i rfl rfl rfl (by omega) rfl (zG [1] rfl (by decide) (fun w' hw hS => zk 10 15 ?_ ?_)))
      ·
       refine zX 10 rfl hw (zH (pV 0 rfl) 1 (a + z) rfl rfl rfl (by omega) rfl (zG [1] rfl (by decide) (fun w' hw hS => zk 11 15 ?_ ?_)))
       ·
        refine zX 11 rfl hw (zV (pV 0 rfl) 1 (a + z) 0 (fun _ => rfl) rfl rfl (by omega) rfl rfl (zG [1] rfl (by decide) (fun w' hw hS => zY 15 rfl hw (zV (pV 0 rfl) 1 i 0 (fun _ => rfl) rfl rfl (by omega) rfl rfl (zG [1] rfl (by decide) (fun w' hw hS => zY 16 rfl hw (zH (pV 0 rfl) 1 i rfl rfl rfl (by omega) rfl (zG [1] rfl (by decide) (fun w' hw hS => zY 17 rfl hw (za 0 i (zI q (a + z)) rfl (fun _ => rfl) rfl (by omega) rfl rfl rfl (by omega) (zG [1] rfl (by decide) (fun w' hw hS => zY 18 rfl hw ?_))))))))))))
        refine zH (pV 0 rfl) 1 (a + z) rfl rfl rfl (by simp only [List.length_set]; omega) rfl (zG [1] rfl (by decide) (fun w' hw hS => zY 19 rfl hw (za 0 (a + z) (zI q i) rfl (fun _ => rfl) rfl (by omega) rfl rfl rfl (by simp only [List.length_set]; omega) (zG [1] rfl (by decide) (fun w' hw hS => zR ?_)))))
        exact ⟨yp q i (a + z), y1_, ⟨rfl, rfl, rfl, rfl, rfl, rfl, trivial⟩, ⟨z, hzz, rfl⟩, hw⟩
       ·
        refine zX 15 rfl hw (zV (pV 0 rfl) 1 i 0 (fun _ => rfl) rfl rfl (by omega) rfl rfl (zG [1] rfl (by decide) (fun w' hw hS => zY 11 rfl hw (zV (pV 0 rfl) 1 (a + z) 0 (fun _ => rfl) rfl rfl (by omega) rfl rfl (zG [1] rfl (by decide) (fun w' hw hS => zY 16 rfl hw (zH (pV 0 rfl) 1 i rfl rfl rfl (by omega) rfl (zG [1] rfl (by decide) (fun w' hw hS => zY 17 rfl hw (za 0 i (zI q (a + z)) rfl (fun _ => rfl) rfl (by omega) rfl rfl rfl (by omega) (zG [1] rfl (by decide) (fun w' hw hS => zY 18 rfl hw ?_))))))))))))
        refine zH (pV 0 rfl) 1 (a + z) rfl rfl rfl (by simp only [List.length_set]; omega) rfl (zG [1] rfl (by decide) (fun w' hw hS => zY 19 rfl hw (za 0 (a + z) (zI q i) rfl (fun _ => rfl) rfl (by omega) rfl rfl rfl (by simp only [List.length_set]; omega) (zG [1] rfl (by decide) (fun w' hw hS => zR ?_)))))
        exact ⟨yp q i (a + z), y1_, ⟨rfl, rfl, rfl, rfl, rfl, rfl, trivial⟩, ⟨z, hzz, rfl⟩, hw⟩
      ·
       refine zX 15 rfl hw (zV (pV 0 rfl) 1 i 0 (fun _ => rfl) rfl rfl (by omega) rfl rfl (zG [1] rfl (by decide) (fun w' hw hS => zY 10 rfl hw (zH (pV 0 rfl) 1 (a + z) rfl rfl rfl (by omega) rfl (zG [1] rfl (by decide) (fun w' hw hS => zY 11 rfl hw (zV (pV 0 rfl) 1 (a + z) 0 (fun _ => rfl) rfl rfl (by omega) rfl rfl (zG [1] rfl (by decide) (fun w' hw hS => zY 16 rfl hw (zH (pV 0 rfl) 1 i rfl rfl rfl (by omega) rfl (zG [1] rfl (by decide) (fun w' hw hS => zY 17 rfl hw ?_))))))))))))
       refine za 0 i (zI q (a + z)) rfl (fun _ => rfl) rfl (by omega) rfl rfl rfl (by omega) (zG [1] rfl (by decide) (fun w' hw hS => zY 18 rfl hw (zH (pV 0 rfl) 1 (a + z) rfl rfl rfl (by simp only [List.length_set]; omega) rfl (zG [1] rfl (by decide) (fun w' hw hS => zY 19 rfl hw (za 0 (a + z) (zI q i) rfl (fun _ => rfl) rfl (by omega) rfl rfl rfl (by simp only [List.length_set]; omega) (zG [1] rfl (by decide) (fun w' hw hS => zR ?_))))))))
       exact ⟨yp q i (a + z), y1_, ⟨rfl, rfl, rfl, rfl, rfl, rfl, trivial⟩, ⟨z, hzz, rfl⟩, hw⟩
    obtain ⟨z, hzz, hn⟩ := hΦ
    refine zd (zC rfl (zt rfl rfl (zr (by omega)) rfl (zD rfl ?_)))
    exact zj (fun w' hw => ⟨i + 1, n, y2, ⟨rfl, rfl, rfl, rfl, rfl, rfl, trivial⟩, ⟨⟨by omega, by omega⟩, by rw [hn]; exact hS1.then_swp ⟨by omega, by omega⟩ ⟨by omega, by omega⟩ hb⟩, hw, (by omega)⟩)
   ·
    exact xA rfl (jq rfl (fun w' hw => ⟨q, rfl, hS1, hw.sel [0] rfl (by decide)⟩))
  ·
   exact xj (jq rfl (fun w' hw => ⟨l, rfl, Same.refl _ _ _, hw⟩))
end Go.Proofs.YthincafbmpialaaGreat
