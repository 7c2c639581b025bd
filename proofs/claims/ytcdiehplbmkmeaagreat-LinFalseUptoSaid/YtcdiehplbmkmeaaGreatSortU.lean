import Derived.Test.YtcdiehplbmkmeaaGreatFwU
import Derived.Test.YtcdiehplbmkmeaaGreatSrtB
import Derived.Test.YtcdiehplbmkmeaaGreatChecked
set_option linter.unusedSectionVars false
set_option linter.unusedSimpArgs false
set_option linter.unusedVariables false
set_option maxRecDepth 10000
namespace Go.Proofs.YtcdiehplbmkmeaaGreat
open Go Go.Sc Go.Proofs
theorem zLY (x : Nat) (w : World) : Rets Tryz.prog 104 #[Vn x] w fun u_ w' => u_ = .bool false ∧ Own w [] [] w' := by
  refine ze Tryz.func104 rfl Tryz.ntmps104 (Own.start w) ?_
  refine zB (zH rfl (zA (zB (zC rfl (zC rfl (jK rfl rfl rfl (zH rfl (zA ?_))))))))
  exact zN (z4 (v := .bool (decide (((x : Nat) : Int) ≠ ((x : Nat) : Int)))) rfl rfl (fun w' hw => ⟨(by simp), hw.drop⟩))
theorem xZ (x y : Nat) (w : World) : Rets Tryz.prog 84 #[Vn x, Vn y] w fun u_ w' => u_ = .bool (decide (olt x y)) ∧ Own w [] [] w' := by
  refine ze Tryz.func84 rfl Tryz.ntmps84 (Own.start w) ?_
  refine zB (zH rfl (zA (zB (zC rfl (zQ rfl rfl (fun w' hw => (zLY x w').mono ?_))))))
  rintro _ w1 ⟨rfl, hO⟩
  refine (?_ : CL _ _ _ _ _ _ (Own w [] [])) w1 (hw.frame0 hO)
  refine zC rfl (zHI rfl rfl rfl rfl (zHI rfl rfl rfl rfl (zHI rfl rfl rfl rfl (ka rfl rfl (zC rfl (zR rfl rfl (zC rfl (zR rfl rfl (zC rfl (zR rfl rfl (z9 rfl rfl rfl (ka rfl rfl ?_))))))))))))
  refine zH rfl (zA ?_)
  exact zN (z4 (v := .bool (decide (((x : Nat) : Int) < ((y : Nat) : Int)))) rfl rfl (fun w' hw => ⟨(by congr 1; exact decide_eq_decide.2 (Int.ofNat_lt)), hw.drop⟩))
theorem zEU {S : List Nat} (v : Value) (l : List Nat) (a b : Nat) (w : World) (ha : a ≤ b) (hb : b ≤ l.length) (hl : z6 l.length) (hin : Own w S [Res.vec 32 1 v l.length (l.flatMap U1)] w) : Rets Tryz.prog 82 #[v, Vj a, Vj b] w fun u_ w' => ∃ (l' : List Nat), u_ = .tuple #[] ∧ Same a b l l' ∧ Own w S [Res.vec 32 1 v l'.length (l'.flatMap U1)] w' := by
  refine ze Tryz.func82 rfl Tryz.ntmps82 hin ?_
  refine zB (zC rfl (zH rfl (zA (zB (zC rfl (yJ rfl rfl (zh (by omega)) rfl (zH rfl (zA (zW ?_)))))))))
  refine ji (fun (i j : Nat) (m : List Nat) => [(0, v), (6, Vj i), (7, Vi (((j : Nat) : Int) - 1))]) (fun (i j : Nat) (m : List Nat) => (a ≤ i ∧ j ≤ b) ∧ Same a b l m) (fun (i j : Nat) (m : List Nat) => [Res.vec 32 1 v m.length (m.flatMap U1)]) (fun (i j : Nat) (m : List Nat) => j - i) (fun w' hw => ⟨a, b, l, ⟨rfl, rfl, rfl, trivial⟩, ⟨⟨Nat.le_refl _, Nat.le_refl _⟩, Same.refl _ _ _⟩, hw⟩) (fun i j m g hΦ => ?_)
  have hml := hΦ.2.len
  have hSm := hΦ.2
  have hij := hΦ.1
  refine zL (zB (zC rfl (zC rfl (z9 rfl rfl rfl (zA (zV rfl (fun c1 => ?_) (fun c1 => ?_)))))))
  ·
   refine zJ (zW (ye (fun (n : List Nat) => [(0, v), (6, Vj i), (7, Vi (((j : Nat) : Int) - 1))]) (fun (n : List Nat) => n = yL m i (j - 1)) (fun (n : List Nat) => [Res.vec 32 1 v n.length (n.flatMap U1)]) ?_ (fun n g hΦ => ?_)))
   ·
    refine zZ [] rfl (by decide) (by kernel_rfl) (fun w' hw hS => zD 0 rfl (zK) hS (zD 1 rfl (zK) hS (zD 2 rfl (zK) hS (zD 3 rfl (zK) hS (zD 4 rfl (zK) hS (zD 5 rfl (zK) hS (zD 8 rfl (zK) hS (zD 9 rfl (zK) hS (za 6 10 ?_ ?_)))))))))
    ·
     refine zT 6 rfl hw (zF (pV 0 rfl) 1 (j - 1) rfl rfl (by omega) (by omega) rfl (zE [] rfl (by decide) (fun w' hw hS => za 7 10 ?_ ?_)))
     ·
      refine zT 7 rfl hw (zP (pV 0 rfl) 1 (j - 1) 0 (fun _ => rfl) rfl rfl (by omega) rfl rfl (zI 10 rfl (zF (pV 0 rfl) 1 i rfl rfl rfl (by omega) rfl (zI 11 rfl (zP (pV 0 rfl) 1 i 0 (fun _ => rfl) rfl rfl (by omega) rfl rfl (zI 12 rfl (zF (pV 0 rfl) 1 i rfl rfl rfl (by omega) rfl (zI 13 rfl ?_))))))))
      refine zS 0 i (zG m (j - 1)) rfl (fun _ => rfl) rfl (by omega) rfl rfl rfl (by omega) (zI 14 rfl (zF (pV 0 rfl) 1 (j - 1) rfl rfl (by omega) (by simp; omega) rfl (zI 15 rfl (zS 0 (j - 1) (zG m i) rfl (fun _ => rfl) rfl (by omega) rfl rfl rfl (by simp; omega) (zE [] rfl (by decide) (fun w' hw hS => zM ?_))))))
      exact ⟨yL m i (j - 1), ⟨rfl, rfl, rfl, trivial⟩, rfl, hw⟩
     ·
      refine zT 10 rfl hw (zF (pV 0 rfl) 1 i rfl rfl rfl (by omega) rfl (zE [] rfl (by decide) (fun w' hw hS => za 7 11 ?_ ?_)))
      ·
       refine zT 7 rfl hw (zP (pV 0 rfl) 1 (j - 1) 0 (fun _ => rfl) rfl rfl (by omega) rfl rfl (zI 11 rfl (zP (pV 0 rfl) 1 i 0 (fun _ => rfl) rfl rfl (by omega) rfl rfl (zI 12 rfl (zF (pV 0 rfl) 1 i rfl rfl rfl (by omega) rfl (zI 13 rfl (zS 0 i (zG m (j - 1)) rfl (fun _ => rfl) rfl (by omega) rfl rfl rfl (by omega) (zI 14 rfl ?_))))))))
       refine zF (pV 0 rfl) 1 (j - 1) rfl rfl (by omega) (by simp; omega) rfl (zI 15 rfl (zS 0 (j - 1) (zG m i) rfl (fun _ => rfl) rfl (by omega) rfl rfl rfl (by simp; omega) (zE [] rfl (by decide) (fun w' hw hS => zM ?_))))
       exact ⟨yL m i (j - 1), ⟨rfl, rfl, rfl, trivial⟩, rfl, hw⟩
      ·
       refine zT 11 rfl hw (zP (pV 0 rfl) 1 i 0 (fun _ => rfl) rfl rfl (by omega) rfl rfl (zI 7 rfl (zP (pV 0 rfl) 1 (j - 1) 0 (fun _ => rfl) rfl rfl (by omega) rfl rfl (zI 12 rfl (zF (pV 0 rfl) 1 i rfl rfl rfl (by omega) rfl (zI 13 rfl (zS 0 i (zG m (j - 1)) rfl (fun _ => rfl) rfl (by omega) rfl rfl rfl (by omega) (zI 14 rfl ?_))))))))
       refine zF (pV 0 rfl) 1 (j - 1) rfl rfl (by omega) (by simp; omega) rfl (zI 15 rfl (zS 0 (j - 1) (zG m i) rfl (fun _ => rfl) rfl (by omega) rfl rfl rfl (by simp; omega) (zE [] rfl (by decide) (fun w' hw hS => zM ?_))))
       exact ⟨yL m i (j - 1), ⟨rfl, rfl, rfl, trivial⟩, rfl, hw⟩
    ·
     refine zT 10 rfl hw (zF (pV 0 rfl) 1 i rfl rfl rfl (by omega) rfl (zE [] rfl (by decide) (fun w' hw hS => za 6 11 ?_ ?_)))
     ·
      refine zT 6 rfl hw (zF (pV 0 rfl) 1 (j - 1) rfl rfl (by omega) (by omega) rfl (zE [] rfl (by decide) (fun w' hw hS => za 7 11 ?_ ?_)))
      ·
       refine zT 7 rfl hw (zP (pV 0 rfl) 1 (j - 1) 0 (fun _ => rfl) rfl rfl (by omega) rfl rfl (zI 11 rfl (zP (pV 0 rfl) 1 i 0 (fun _ => rfl) rfl rfl (by omega) rfl rfl (zI 12 rfl (zF (pV 0 rfl) 1 i rfl rfl rfl (by omega) rfl (zI 13 rfl (zS 0 i (zG m (j - 1)) rfl (fun _ => rfl) rfl (by omega) rfl rfl rfl (by omega) (zI 14 rfl ?_))))))))
       refine zF (pV 0 rfl) 1 (j - 1) rfl rfl (by omega) (by simp; omega) rfl (zI 15 rfl (zS 0 (j - 1) (zG m i) rfl (fun _ => rfl) rfl (by omega) rfl rfl rfl (by simp; omega) (zE [] rfl (by decide) (fun w' hw hS => zM ?_))))
       exact ⟨yL m i (j - 1), ⟨rfl, rfl, rfl, trivial⟩, rfl, hw⟩
      ·
       refine zT 11 rfl hw (zP (pV 0 rfl) 1 i 0 (fun _ => rfl) rfl rfl (by omega) rfl rfl (zI 7 rfl (zP (pV 0 rfl) 1 (j - 1) 0 (fun _ => rfl) rfl rfl (by omega) rfl rfl (zI 12 rfl (zF (pV 0 rfl) 1 i rfl rfl rfl (by omega) rfl (zI 13 rfl (zS 0 i (zG m (j - 1)) rfl (fun _ => rfl) rfl (by omega) rfl rfl rfl (by omega) (zI 14 rfl ?_))))))))
       refine zF (pV 0 rfl) 1 (j - 1) rfl rfl (by omega) (by simp; omega) rfl (zI 15 rfl (zS 0 (j - 1) (zG m i) rfl (fun _ => rfl) rfl (by omega) rfl rfl rfl (by simp; omega) (zE [] rfl (by decide) (fun w' hw hS => zM ?_))))
       exact ⟨yL m i (j - 1), ⟨rfl, rfl, rfl, trivial⟩, rfl, hw⟩
     ·
      refine zT 11 rfl hw (zP (pV 0 rfl) 1 i 0 (fun _ => rfl) rfl rfl (by omega) rfl rfl (zI 6 rfl (zF (pV 0 rfl) 1 (j - 1) rfl rfl (by omega) (by omega) rfl (zI 7 rfl (zP (pV 0 rfl) 1 (j - 1) 0 (fun _ => rfl) rfl rfl (by omega) rfl rfl (zI 12 rfl (zF (pV 0 rfl) 1 i rfl rfl rfl (by omega) rfl (zI 13 rfl ?_))))))))
      refine zS 0 i (zG m (j - 1)) rfl (fun _ => rfl) rfl (by omega) rfl rfl rfl (by omega) (zI 14 rfl (zF (pV 0 rfl) 1 (j - 1) rfl rfl (by omega) (by simp; omega) rfl (zI 15 rfl (zS 0 (j - 1) (zG m i) rfl (fun _ => rfl) rfl (by omega) rfl rfl rfl (by simp; omega) (zE [] rfl (by decide) (fun w' hw hS => zM ?_))))))
      exact ⟨yL m i (j - 1), ⟨rfl, rfl, rfl, trivial⟩, rfl, hw⟩
   have hn := hΦ
   refine zB (zC rfl (zn rfl rfl (zh (by omega)) rfl (zH rfl (zA (zY (zC rfl (yJ rfl rfl (zh (by omega)) rfl (zH rfl ?_))))))))
   exact zd (fun w' hw => ⟨i + 1, j - 1, n, ⟨rfl, rfl, vi (by omega), trivial⟩, ⟨⟨by omega, by omega⟩, by rw [hn]; exact hSm.then_swp ⟨by omega, by omega⟩ ⟨by omega, by omega⟩ hb⟩, hw, (by omega)⟩)
  ·
   exact yr rfl (j8 rfl (fun w' hw => ⟨m, rfl, hΦ.2, hw⟩))
theorem zFV {S : List Nat} (v : Value) (l : List Nat) (a b : Nat) (w : World) (ha : a ≤ b) (hb : b ≤ l.length) (hl : z6 l.length) (hin : Own w S [Res.vec 32 1 v l.length (l.flatMap U1)] w) : Rets Tryz.prog 78 #[v, Vj a, Vj b] w fun u_ w' => ∃ (l' : List Nat), u_ = .tuple #[] ∧ Same a b l l' ∧ Up a b l' ∧ Own w S [Res.vec 32 1 v l'.length (l'.flatMap U1)] w' := by
  refine ze Tryz.func78 rfl Tryz.ntmps78 hin ?_
  refine zB (zC rfl (zn rfl rfl (zh (by omega)) rfl (zH rfl (zA (zW ?_)))))
  refine xB (fun (i : Nat) (m : List Nat) => [(0, v), (1, Vj a), (2, Vj b), (6, Vj i)]) (fun (i : Nat) (m : List Nat) => (a + 1 ≤ i ∧ (i ≤ b ∨ i = a + 1)) ∧ Same a b l m ∧ Up a i m) (fun (i : Nat) (m : List Nat) => [Res.vec 32 1 v m.length (m.flatMap U1)]) (fun (i : Nat) (m : List Nat) => b + 1 - i) (fun w' hw => ⟨a + 1, l, ⟨rfl, rfl, rfl, rfl, trivial⟩, ⟨⟨by omega, .inr rfl⟩, Same.refl _ _ _, Up.one (by omega)⟩, hw⟩) (fun i m g hΦ => ?_)
  have hml := hΦ.2.1.len
  have hi1 := hΦ.1
  have hU := hΦ.2.2
  have hS1 := hΦ.2.1
  refine zL (zB (zC rfl (zC rfl (z9 rfl rfl rfl (zA (zV rfl (fun c1 => ?_) (fun c1 => ?_)))))))
  ·
   refine zJ (zL (zW (zB (zC rfl (zH rfl (zA (zW ?_)))))))
   refine xB (fun (j : Nat) (q : List Nat) => [(0, v), (1, Vj a), (2, Vj b), (6, Vj i), (7, Vj j)]) (fun (j : Nat) (q : List Nat) => (a ≤ j ∧ j ≤ i) ∧ Same a b l q ∧ Ins a i j q) (fun (j : Nat) (q : List Nat) => [Res.vec 32 1 v q.length (q.flatMap U1)]) (fun (j : Nat) (q : List Nat) => j) (fun w' hw => ⟨i, m, ⟨rfl, rfl, rfl, rfl, rfl, trivial⟩, ⟨⟨by omega, by omega⟩, hS1, Ins.start hU⟩, hw⟩) (fun j q g hΦ => ?_)
   have hql := hΦ.2.1.len
   have hj1 := hΦ.1
   have hS2 := hΦ.2.1
   have hI2 := hΦ.2.2
   refine zL (zL (zZ [0] rfl (by decide) (by kernel_rfl) (fun w' hw hS => zD 0 rfl (zK) hS (zD 1 rfl (zK) hS (zD 2 rfl (zDV rfl rfl) hS (zD 3 rfl (zK) hS ?_))))))
   by_cases g4_3 : ((a : Nat) : Int) < ((j : Nat) : Int)
   ·
    refine zp 4 rfl rfl (gT g4_3) (zK) hS (zp 5 rfl rfl (gT g4_3) (zK) hS (zp 6 rfl rfl (gT g4_3) (z7 (pV 0 rfl) 1 j rfl rfl rfl (by omega)) hS (zp 7 rfl rfl (gT g4_3) (yT (pV 0 rfl) 1 j 0 (fun _ => rfl) rfl rfl (by omega) rfl) hS (zp 8 rfl rfl (gT g4_3) (zK) hS (zp 9 rfl rfl (gT g4_3) (zK) hS (zp 10 rfl rfl (gT g4_3) (kp (c := ((j - 1 : Nat) : Int)) rfl rfl (xg (by omega) (by omega))) hS (zp 11 rfl rfl (gT g4_3) (z7 (pV 0 rfl) 1 (j - 1) rfl rfl rfl (by omega)) hS (zp 12 rfl rfl (gT g4_3) (yT (pV 0 rfl) 1 (j - 1) 0 (fun _ => rfl) rfl rfl (by omega) rfl) hS (zX 13 rfl hw (zR rfl (gT g4_3) (zQ rfl rfl (fun w' hw => (xZ (zG q j) (zG q (j - 1)) w').mono ?_))))))))))))
    rintro _ w1 ⟨rfl, hO⟩
    refine (?_ : CL _ _ _ _ _ _ (Own w S [Res.vec 32 1 v q.length (q.flatMap U1)])) w1 (hw.frame0 hO)
    refine zE [0] rfl (by decide) (fun w' hw hS => zD 14 rfl (xq (gT g4_3)) hS (zM ?_))
    refine (?_ : C _ _ _ _ _ _ _ (Own w S [Res.vec 32 1 v q.length (q.flatMap U1)])) _ hw
    refine zV rfl (fun c2 => ?_) (fun c2 => ?_)
    ·
     refine zJ (ye (fun (n : List Nat) => [(0, v), (1, Vj a), (2, Vj b), (6, Vj i), (7, Vj j)]) (fun (n : List Nat) => n = yL q j (j - 1)) (fun (n : List Nat) => [Res.vec 32 1 v n.length (n.flatMap U1)]) ?_ (fun n g hΦ => ?_))
     ·
      refine zW (zZ [] rfl (by decide) (by kernel_rfl) (fun w' hw hS => zD 0 rfl (zK) hS (zD 1 rfl (zK) hS (zD 2 rfl (zK) hS (zD 3 rfl (zK) hS (zD 4 rfl (kp (c := ((j - 1 : Nat) : Int)) rfl rfl (xg (by omega) (by omega))) hS (zD 5 rfl (zK) hS (zD 6 rfl (zK) hS (zD 7 rfl (kp (c := ((j - 1 : Nat) : Int)) rfl rfl (xg (by omega) (by omega))) hS (zD 10 rfl (zK) hS (zD 11 rfl (zK) hS (za 8 12 ?_ ?_))))))))))))
      ·
       refine zT 8 rfl hw (zF (pV 0 rfl) 1 (j - 1) rfl rfl rfl (by omega) rfl (zE [] rfl (by decide) (fun w' hw hS => za 9 12 ?_ ?_)))
       ·
        refine zT 9 rfl hw (zP (pV 0 rfl) 1 (j - 1) 0 (fun _ => rfl) rfl rfl (by omega) rfl rfl (zI 12 rfl (zF (pV 0 rfl) 1 j rfl rfl rfl (by omega) rfl (zI 13 rfl (zP (pV 0 rfl) 1 j 0 (fun _ => rfl) rfl rfl (by omega) rfl rfl (zI 14 rfl (zF (pV 0 rfl) 1 j rfl rfl rfl (by omega) rfl (zI 15 rfl ?_))))))))
        refine zS 0 j (zG q (j - 1)) rfl (fun _ => rfl) rfl (by omega) rfl rfl rfl (by omega) (zI 16 rfl (zF (pV 0 rfl) 1 (j - 1) rfl rfl rfl (by simp only [List.length_set]; omega) rfl (zI 17 rfl (zS 0 (j - 1) (zG q j) rfl (fun _ => rfl) rfl (by omega) rfl rfl rfl (by simp only [List.length_set]; omega) (zE [] rfl (by decide) (fun w' hw hS => zM ?_))))))
        exact ⟨yL q j (j - 1), ⟨rfl, rfl, rfl, rfl, rfl, trivial⟩, rfl, hw⟩
       ·
        refine zT 12 rfl hw (zF (pV 0 rfl) 1 j rfl rfl rfl (by omega) rfl (zE [] rfl (by decide) (fun w' hw hS => za 9 13 ?_ ?_)))
        ·
         refine zT 9 rfl hw (zP (pV 0 rfl) 1 (j - 1) 0 (fun _ => rfl) rfl rfl (by omega) rfl rfl (zI 13 rfl (zP (pV 0 rfl) 1 j 0 (fun _ => rfl) rfl rfl (by omega) rfl rfl (zI 14 rfl (zF (pV 0 rfl) 1 j rfl rfl rfl (by omega) rfl (zI 15 rfl (zS 0 j (zG q (j - 1)) rfl (fun _ => rfl) rfl (by omega) rfl rfl rfl (by omega) (zI 16 rfl ?_))))))))
         refine zF (pV 0 rfl) 1 (j - 1) rfl rfl rfl (by simp only [List.length_set]; omega) rfl (zI 17 rfl (zS 0 (j - 1) (zG q j) rfl (fun _ => rfl) rfl (by omega) rfl rfl rfl (by simp only [List.length_set]; omega) (zE [] rfl (by decide) (fun w' hw hS => zM ?_))))
         exact ⟨yL q j (j - 1), ⟨rfl, rfl, rfl, rfl, rfl, trivial⟩, rfl, hw⟩
        ·
         refine zT 13 rfl hw (zP (pV 0 rfl) 1 j 0 (fun _ => rfl) rfl rfl (by omega) rfl rfl (zI 9 rfl (zP (pV 0 rfl) 1 (j - 1) 0 (fun _ => rfl) rfl rfl (by omega) rfl rfl (zI 14 rfl (zF (pV 0 rfl) 1 j rfl rfl rfl (by omega) rfl (zI 15 rfl (zS 0 j (zG q (j - 1)) rfl (fun _ => rfl) rfl (by omega) rfl rfl rfl (by omega) (zI 16 rfl ?_))))))))
         refine zF (pV 0 rfl) 1 (j - 1) rfl rfl rfl (by simp only [List.length_set]; omega) rfl (zI 17 rfl (zS 0 (j - 1) (zG q j) rfl (fun _ => rfl) rfl (by omega) rfl rfl rfl (by simp only [List.length_set]; omega) (zE [] rfl (by decide) (fun w' hw hS => zM ?_))))
         exact ⟨yL q j (j - 1), ⟨rfl, rfl, rfl, rfl, rfl, trivial⟩, rfl, hw⟩
      ·
       refine zT 12 rfl hw (zF (pV 0 rfl) 1 j rfl rfl rfl (by omega) rfl (zE [] rfl (by decide) (fun w' hw hS => za 8 13 ?_ ?_)))
       ·
        refine zT 8 rfl hw (zF (pV 0 rfl) 1 (j - 1) rfl rfl rfl (by omega) rfl (zE [] rfl (by decide) (fun w' hw hS => za 9 13 ?_ ?_)))
        ·
         refine zT 9 rfl hw (zP (pV 0 rfl) 1 (j - 1) 0 (fun _ => rfl) rfl rfl (by omega) rfl rfl (zI 13 rfl (zP (pV 0 rfl) 1 j 0 (fun _ => rfl) rfl rfl (by omega) rfl rfl (zI 14 rfl (zF (pV 0 rfl) 1 j rfl rfl rfl (by omega) rfl (zI 15 rfl (zS 0 j (zG q (j - 1)) rfl (fun _ => rfl) rfl (by omega) rfl rfl rfl (by omega) (zI 16 rfl ?_))))))))
         refine zF (pV 0 rfl) 1 (j - 1) rfl rfl rfl (by simp only [List.length_set]; omega) rfl (zI 17 rfl (zS 0 (j - 1) (zG q j) rfl (fun _ => rfl) rfl (by omega) rfl rfl rfl (by simp only [List.length_set]; omega) (zE [] rfl (by decide) (fun w' hw hS => zM ?_))))
         exact ⟨yL q j (j - 1), ⟨rfl, rfl, rfl, rfl, rfl, trivial⟩, rfl, hw⟩
        ·
         refine zT 13 rfl hw (zP (pV 0 rfl) 1 j 0 (fun _ => rfl) rfl rfl (by omega) rfl rfl (zI 9 rfl (zP (pV 0 rfl) 1 (j - 1) 0 (fun _ => rfl) rfl rfl (by omega) rfl rfl (zI 14 rfl (zF (pV 0 rfl) 1 j rfl rfl rfl (by omega) rfl (zI 15 rfl (zS 0 j (zG q (j - 1)) rfl (fun _ => rfl) rfl (by omega) rfl rfl rfl (by omega) (zI 16 rfl ?_))))))))
         refine zF (pV 0 rfl) 1 (j - 1) rfl rfl rfl (by simp only [List.length_set]; omega) rfl (zI 17 rfl (zS 0 (j - 1) (zG q j) rfl (fun _ => rfl) rfl (by omega) rfl rfl rfl (by simp only [List.length_set]; omega) (zE [] rfl (by decide) (fun w' hw hS => zM ?_))))
         exact ⟨yL q j (j - 1), ⟨rfl, rfl, rfl, rfl, rfl, trivial⟩, rfl, hw⟩
       ·
        refine zT 13 rfl hw (zP (pV 0 rfl) 1 j 0 (fun _ => rfl) rfl rfl (by omega) rfl rfl (zI 8 rfl (zF (pV 0 rfl) 1 (j - 1) rfl rfl rfl (by omega) rfl (zI 9 rfl (zP (pV 0 rfl) 1 (j - 1) 0 (fun _ => rfl) rfl rfl (by omega) rfl rfl (zI 14 rfl (zF (pV 0 rfl) 1 j rfl rfl rfl (by omega) rfl (zI 15 rfl ?_))))))))
        refine zS 0 j (zG q (j - 1)) rfl (fun _ => rfl) rfl (by omega) rfl rfl rfl (by omega) (zI 16 rfl (zF (pV 0 rfl) 1 (j - 1) rfl rfl rfl (by simp only [List.length_set]; omega) rfl (zI 17 rfl (zS 0 (j - 1) (zG q j) rfl (fun _ => rfl) rfl (by omega) rfl rfl rfl (by simp only [List.length_set]; omega) (zE [] rfl (by decide) (fun w' hw hS => zM ?_))))))
        exact ⟨yL q j (j - 1), ⟨rfl, rfl, rfl, rfl, rfl, trivial⟩, rfl, hw⟩
     have hn := hΦ
     refine zY (zC rfl (yJ (c := ((j - 1 : Nat) : Int)) rfl rfl (xg (by omega) (by omega)) rfl (zH rfl ?_)))
     exact zd (fun w' hw => ⟨j - 1, n, ⟨rfl, rfl, rfl, rfl, rfl, trivial⟩, ⟨⟨by omega, by omega⟩, by rw [hn]; exact hS2.then_swp ⟨by omega, by omega⟩ ⟨by omega, by omega⟩ hb, by rw [hn]; exact hI2.step (by omega) (by omega) (by omega) c2⟩, hw, (by omega)⟩)
    ·
     refine yB rfl (zY (zC rfl (zn rfl rfl (zh (by omega)) rfl (zH rfl ?_))))
     exact zd (fun w' hw => ⟨i + 1, q, ⟨rfl, rfl, rfl, rfl, trivial⟩, ⟨⟨by omega, .inl (by omega)⟩, hS2, hI2.done (fun _ => c2)⟩, hw, (by omega)⟩)
   ·
    refine zj 4 rfl rfl (gF g4_3) rfl hS (zj 5 rfl rfl (gF g4_3) rfl hS (zj 6 rfl rfl (gF g4_3) rfl hS (zj 7 rfl rfl (gF g4_3) rfl hS (zj 8 rfl rfl (gF g4_3) rfl hS (zj 9 rfl rfl (gF g4_3) rfl hS (zj 10 rfl rfl (gF g4_3) rfl hS (zj 11 rfl rfl (gF g4_3) rfl hS (zj 12 rfl rfl (gF g4_3) rfl hS (zj 13 rfl rfl (gF g4_3) rfl hS (zD 14 rfl (xr (gF g4_3)) hS (zM ?_)))))))))))
    refine (?_ : C _ _ _ _ _ _ _ (Own w S [Res.vec 32 1 v q.length (q.flatMap U1)])) _ hw
    refine xt rfl (yB rfl (zY (zC rfl (zn rfl rfl (zh (by omega)) rfl (zH rfl ?_)))))
    exact zd (fun w' hw => ⟨i + 1, q, ⟨rfl, rfl, rfl, rfl, trivial⟩, ⟨⟨by omega, .inl (by omega)⟩, hS2, hI2.done (fun h => absurd h (by omega))⟩, hw, (by omega)⟩)
  ·
   exact yr rfl (j8 rfl (fun w' hw => ⟨m, rfl, hS1, (fun k h1 h2 => hU k h1 (by omega)), hw⟩))
theorem zGB {S : List Nat} (v : Value) (l : List Nat) (lo hi : Int) (f : Nat) (w : World) (hh : f + hi.toNat ≤ l.length) (hlo : 0 ≤ lo ∧ lo ≤ hi) (hl : z6 l.length) (hp : Hp (lo.toNat + 1) hi.toNat f l) (hin : Own w S [Res.vec 32 1 v l.length (l.flatMap U1)] w) : Rets Tryz.prog 99 #[v, Vi lo, Vi hi, Vj f] w fun u_ w' => ∃ (l' : List Nat), u_ = .tuple #[] ∧ Same (f + lo.toNat) (f + hi.toNat) l l' ∧ Hp lo.toNat hi.toNat f l' ∧ Own w S [Res.vec 32 1 v l'.length (l'.flatMap U1)] w' := by
  obtain ⟨lo, rfl⟩ : ∃ n : Nat, lo = n := ⟨lo.toNat, by omega⟩
  obtain ⟨hi, rfl⟩ : ∃ n : Nat, hi = n := ⟨hi.toNat, by omega⟩
  simp only [Int.toNat_natCast] at hh hp ⊢
  have hlo := Int.ofNat_le.1 hlo.2
  refine ze Tryz.func99 rfl Tryz.ntmps99 hin ?_
  refine zB (zC rfl (zH rfl (zA (zW ?_))))
  refine xB (fun (r : Nat) (m : List Nat) => [(0, v), (2, Vi hi), (3, Vj f), (8, Vj r)]) (fun (r : Nat) (m : List Nat) => (lo ≤ r ∧ r ≤ hi) ∧ Same (f + lo) (f + hi) l m ∧ HpX lo hi f r m) (fun (r : Nat) (m : List Nat) => [Res.vec 32 1 v m.length (m.flatMap U1)]) (fun (r : Nat) (m : List Nat) => hi - r) (fun w' hw => ⟨lo, l, ⟨rfl, rfl, rfl, rfl, trivial⟩, ⟨⟨Nat.le_refl _, hlo⟩, Same.refl _ _ _, HpX.start hp⟩, hw⟩) (fun r m g hΦ => ?_)
  have hml := hΦ.2.1.len
  have hr := hΦ.1
  have hSm := hΦ.2.1
  have hX := hΦ.2.2
  refine zW (zB (zC rfl (zBY rfl rfl (zh (by omega)) rfl (zn rfl rfl (zh (by omega)) rfl (zH rfl (zA (zL (zB (zC rfl (zC rfl (yU rfl rfl rfl (zA ?_))))))))))))
  refine zV rfl (fun c1 => ?_) (fun c1 => ?_)
  ·
   exact yr rfl (j8 rfl (fun w' hw => ⟨m, rfl, hSm, hX.done (fun c h1 h2 => by omega), hw⟩))
  ·
   refine zJ (ye (fun (c : Nat) => [(0, v), (2, Vi hi), (3, Vj f), (8, Vj r), (9, Vj c)]) (fun (c : Nat) => ((c = 2 * r + 1 ∨ c = 2 * r + 2) ∧ c < hi) ∧ ∀ c', c' = 2 * r + 1 ∨ c' = 2 * r + 2 → c' < hi → xy (zG m (f + c')) (zG m (f + c))) (fun (c : Nat) => [Res.vec 32 1 v m.length (m.flatMap U1)]) ?_ (fun c g hΦ => ?_))
   ·
    refine zL (zZ [0] rfl (by decide) (by kernel_rfl) (fun w' hw hS => zD 0 rfl (zK) hS (zD 1 rfl (yz rfl rfl (zh (by omega))) hS (zD 2 rfl (zK) hS (zD 3 rfl (zCR rfl rfl) hS (zD 4 rfl (zK) hS ?_))))))
    by_cases g3_4 : ((((2 * r) + 1) + 1 : Nat) : Int) < hi
    ·
     refine zp 5 rfl rfl (gT g3_4) (zK) hS (zp 6 rfl rfl (gT g3_4) (zK) hS (zp 7 rfl rfl (gT g3_4) (zK) hS (zp 8 rfl rfl (gT g3_4) (yz rfl rfl (zh (by omega))) hS (zp 9 rfl rfl (gT g3_4) (z7 (pV 0 rfl) 1 (f + ((2 * r) + 1)) rfl rfl rfl (by omega)) hS (zp 10 rfl rfl (gT g3_4) (yT (pV 0 rfl) 1 (f + ((2 * r) + 1)) 0 (fun _ => rfl) rfl rfl (by omega) rfl) hS (zp 11 rfl rfl (gT g3_4) (zK) hS (zp 12 rfl rfl (gT g3_4) (zK) hS (zp 13 rfl rfl (gT g3_4) (zK) hS (zp 14 rfl rfl (gT g3_4) (yz rfl rfl (zh (by omega))) hS (zp 15 rfl rfl (gT g3_4) (yz rfl rfl (zh (by omega))) hS (zp 16 rfl rfl (gT g3_4) (z7 (pV 0 rfl) 1 ((f + ((2 * r) + 1)) + 1) rfl rfl rfl (by omega)) hS (zp 17 rfl rfl (gT g3_4) (yT (pV 0 rfl) 1 ((f + ((2 * r) + 1)) + 1) 0 (fun _ => rfl) rfl rfl (by omega) rfl) hS ?_))))))))))))
     refine zX 18 rfl hw (zR rfl (gT g3_4) (zQ rfl rfl (fun w' hw => (xZ (zG m (f + ((2 * r) + 1))) (zG m ((f + ((2 * r) + 1)) + 1)) w').mono ?_)))
     rintro _ w1 ⟨rfl, hO⟩
     refine (?_ : CL _ _ _ _ _ _ (Own w S [Res.vec 32 1 v m.length (m.flatMap U1)])) w1 (hw.frame0 hO)
     refine zE [0] rfl (by decide) (fun w' hw hS => zD 19 rfl (xq (gT g3_4)) hS (zM ?_))
     refine (?_ : C _ _ _ _ _ _ _ (Own w S [Res.vec 32 1 v m.length (m.flatMap U1)])) _ hw
     refine zV rfl (fun c2 => ?_) (fun c2 => ?_)
     ·
      refine zY (zC rfl (zn rfl rfl (zh (by omega)) rfl (zH rfl ?_)))
      exact zd (fun w' hw => ⟨2 * r + 1 + 1, ⟨rfl, rfl, rfl, rfl, rfl, trivial⟩, ⟨⟨by omega, by omega⟩, zJf c2⟩, hw⟩)
     ·
      exact xQ (fun w' hw => ⟨2 * r + 1, ⟨rfl, rfl, rfl, rfl, rfl, trivial⟩, ⟨⟨by omega, by omega⟩, zHE (fun _ => c2)⟩, hw⟩)
    ·
     refine zj 5 rfl rfl (gF g3_4) rfl hS (zj 6 rfl rfl (gF g3_4) rfl hS (zj 7 rfl rfl (gF g3_4) rfl hS (zj 8 rfl rfl (gF g3_4) rfl hS (zj 9 rfl rfl (gF g3_4) rfl hS (zj 10 rfl rfl (gF g3_4) rfl hS (zj 11 rfl rfl (gF g3_4) rfl hS (zj 12 rfl rfl (gF g3_4) rfl hS (zj 13 rfl rfl (gF g3_4) rfl hS (zj 14 rfl rfl (gF g3_4) rfl hS (zj 15 rfl rfl (gF g3_4) rfl hS (zj 16 rfl rfl (gF g3_4) rfl hS (zj 17 rfl rfl (gF g3_4) rfl hS ?_))))))))))))
     refine zj 18 rfl rfl (gF g3_4) rfl hS (zD 19 rfl (xr (gF g3_4)) hS (zM ?_))
     refine (?_ : C _ _ _ _ _ _ _ (Own w S [Res.vec 32 1 v m.length (m.flatMap U1)])) _ hw
     refine xt rfl ?_
     exact xQ (fun w' hw => ⟨2 * r + 1, ⟨rfl, rfl, rfl, rfl, rfl, trivial⟩, ⟨⟨by omega, by omega⟩, zHE (fun h => absurd h (by omega))⟩, hw⟩)
   have hc := hΦ.1
   have hmx := hΦ.2
   refine zL (zL (zZ [0] rfl (by decide) (by kernel_rfl) (fun w' hw hS => zD 0 rfl (zK) hS (zD 1 rfl (zK) hS (zD 2 rfl (zK) hS (zD 3 rfl (yz rfl rfl (zh (by omega))) hS (zD 4 rfl (z7 (pV 0 rfl) 1 (f + r) rfl rfl rfl (by omega)) hS (zD 5 rfl (yT (pV 0 rfl) 1 (f + r) 0 (fun _ => rfl) rfl rfl (by omega) rfl) hS (zD 6 rfl (zK) hS (zD 7 rfl (zK) hS (zD 8 rfl (zK) hS (zD 9 rfl (yz rfl rfl (zh (by omega))) hS ?_))))))))))))
   refine zD 10 rfl (z7 (pV 0 rfl) 1 (f + c) rfl rfl rfl (by omega)) hS (zD 11 rfl (yT (pV 0 rfl) 1 (f + c) 0 (fun _ => rfl) rfl rfl (by omega) rfl) hS (zX 12 rfl hw (zQ rfl rfl (fun w' hw => (xZ (zG m (f + r)) (zG m (f + c)) w').mono ?_))))
   rintro _ w1 ⟨rfl, hO⟩
   refine (?_ : CL _ _ _ _ _ _ (Own w S [Res.vec 32 1 v m.length (m.flatMap U1)])) w1 (hw.frame0 hO)
   refine zE [0] rfl (by decide) (fun w' hw hS => zD 13 rfl (jN (q := olt (zG m (f + r)) (zG m (f + c))) rfl) hS (zM ?_))
   refine (?_ : C _ _ _ _ _ _ _ (Own w S [Res.vec 32 1 v m.length (m.flatMap U1)])) _ hw
   refine zV rfl (fun c4 => ?_) (fun c4 => ?_)
   ·
    exact zN (j8 rfl (fun w' hw => ⟨m, rfl, hSm, hX.done (fun c' h1 h2 => xJ (hmx c' h1 h2) c4), hw⟩))
   ·
    refine zJ (ye (fun (n : List Nat) => [(0, v), (2, Vi hi), (3, Vj f), (9, Vj c)]) (fun (n : List Nat) => n = yL m (f + r) (f + c)) (fun (n : List Nat) => [Res.vec 32 1 v n.length (n.flatMap U1)]) ?_ (fun n g hΦ => ?_))
    ·
     refine zZ [] rfl (by decide) (by kernel_rfl) (fun w' hw hS => zD 0 rfl (zK) hS (zD 1 rfl (zK) hS (zD 2 rfl (zK) hS (zD 3 rfl (yz rfl rfl (zh (by omega))) hS (zD 4 rfl (zK) hS (zD 5 rfl (zK) hS (zD 6 rfl (zK) hS (zD 7 rfl (yz rfl rfl (zh (by omega))) hS (zD 8 rfl (zK) hS (zD 9 rfl (zK) hS (zD 10 rfl (zK) hS (zD 11 rfl (yz rfl rfl (zh (by omega))) hS ?_))))))))))))
     refine zD 14 rfl (zK) hS (zD 15 rfl (zK) hS (zD 16 rfl (zK) hS (zD 17 rfl (yz rfl rfl (zh (by omega))) hS (za 12 18 ?_ ?_))))
     ·
      refine zT 12 rfl hw (zF (pV 0 rfl) 1 (f + c) rfl rfl rfl (by omega) rfl (zE [] rfl (by decide) (fun w' hw hS => za 13 18 ?_ ?_)))
      ·
       refine zT 13 rfl hw (zP (pV 0 rfl) 1 (f + c) 0 (fun _ => rfl) rfl rfl (by omega) rfl rfl (zI 18 rfl (zF (pV 0 rfl) 1 (f + r) rfl rfl rfl (by omega) rfl (zI 19 rfl (zP (pV 0 rfl) 1 (f + r) 0 (fun _ => rfl) rfl rfl (by omega) rfl rfl (zI 20 rfl (zF (pV 0 rfl) 1 (f + r) rfl rfl rfl (by omega) rfl (zI 21 rfl ?_))))))))
       refine zS 0 (f + r) (zG m (f + c)) rfl (fun _ => rfl) rfl (by omega) rfl rfl rfl (by omega) (zI 22 rfl (zF (pV 0 rfl) 1 (f + c) rfl rfl rfl (by simp only [List.length_set]; omega) rfl (zI 23 rfl (zS 0 (f + c) (zG m (f + r)) rfl (fun _ => rfl) rfl (by omega) rfl rfl rfl (by simp only [List.length_set]; omega) (zE [] rfl (by decide) (fun w' hw hS => zM ?_))))))
       exact ⟨yL m (f + r) (f + c), ⟨rfl, rfl, rfl, rfl, trivial⟩, rfl, hw⟩
      ·
       refine zT 18 rfl hw (zF (pV 0 rfl) 1 (f + r) rfl rfl rfl (by omega) rfl (zE [] rfl (by decide) (fun w' hw hS => za 13 19 ?_ ?_)))
       ·
        refine zT 13 rfl hw (zP (pV 0 rfl) 1 (f + c) 0 (fun _ => rfl) rfl rfl (by omega) rfl rfl (zI 19 rfl (zP (pV 0 rfl) 1 (f + r) 0 (fun _ => rfl) rfl rfl (by omega) rfl rfl (zI 20 rfl (zF (pV 0 rfl) 1 (f + r) rfl rfl rfl (by omega) rfl (zI 21 rfl (zS 0 (f + r) (zG m (f + c)) rfl (fun _ => rfl) rfl (by omega) rfl rfl rfl (by omega) (zI 22 rfl ?_))))))))
        refine zF (pV 0 rfl) 1 (f + c) rfl rfl rfl (by simp only [List.length_set]; omega) rfl (zI 23 rfl (zS 0 (f + c) (zG m (f + r)) rfl (fun _ => rfl) rfl (by omega) rfl rfl rfl (by simp only [List.length_set]; omega) (zE [] rfl (by decide) (fun w' hw hS => zM ?_))))
        exact ⟨yL m (f + r) (f + c), ⟨rfl, rfl, rfl, rfl, trivial⟩, rfl, hw⟩
       ·
        refine zT 19 rfl hw (zP (pV 0 rfl) 1 (f + r) 0 (fun _ => rfl) rfl rfl (by omega) rfl rfl (zI 13 rfl (zP (pV 0 rfl) 1 (f + c) 0 (fun _ => rfl) rfl rfl (by omega) rfl rfl (zI 20 rfl (zF (pV 0 rfl) 1 (f + r) rfl rfl rfl (by omega) rfl (zI 21 rfl (zS 0 (f + r) (zG m (f + c)) rfl (fun _ => rfl) rfl (by omega) rfl rfl rfl (by omega) (zI 22 rfl ?_))))))))
        refine zF (pV 0 rfl) 1 (f + c) rfl rfl rfl (by simp only [List.length_set]; omega) rfl (zI 23 rfl (zS 0 (f + c) (zG m (f + r)) rfl (fun _ => rfl) rfl (by omega) rfl rfl rfl (by simp only [List.length_set]; omega) (zE [] rfl (by decide) (fun w' hw hS => zM ?_))))
        exact ⟨yL m (f + r) (f + c), ⟨rfl, rfl, rfl, rfl, trivial⟩, rfl, hw⟩
     ·
      refine zT 18 rfl hw (zF (pV 0 rfl) 1 (f + r) rfl rfl rfl (by omega) rfl (zE [] rfl (by decide) (fun w' hw hS => za 12 19 ?_ ?_)))
      ·
       refine zT 12 rfl hw (zF (pV 0 rfl) 1 (f + c) rfl rfl rfl (by omega) rfl (zE [] rfl (by decide) (fun w' hw hS => za 13 19 ?_ ?_)))
       ·
        refine zT 13 rfl hw (zP (pV 0 rfl) 1 (f + c) 0 (fun _ => rfl) rfl rfl (by omega) rfl rfl (zI 19 rfl (zP (pV 0 rfl) 1 (f + r) 0 (fun _ => rfl) rfl rfl (by omega) rfl rfl (zI 20 rfl (zF (pV 0 rfl) 1 (f + r) rfl rfl rfl (by omega) rfl (zI 21 rfl (zS 0 (f + r) (zG m (f + c)) rfl (fun _ => rfl) rfl (by omega) rfl rfl rfl (by omega) (zI 22 rfl ?_))))))))
        refine zF (pV 0 rfl) 1 (f + c) rfl rfl rfl (by simp only [List.length_set]; omega) rfl (zI 23 rfl (zS 0 (f + c) (zG m (f + r)) rfl (fun _ => rfl) rfl (by omega) rfl rfl rfl (by simp only [List.length_set]; omega) (zE [] rfl (by decide) (fun w' hw hS => zM ?_))))
        exact ⟨yL m (f + r) (f + c), ⟨rfl, rfl, rfl, rfl, trivial⟩, rfl, hw⟩
       ·
        refine zT 19 rfl hw (zP (pV 0 rfl) 1 (f + r) 0 (fun _ => rfl) rfl rfl (by omega) rfl rfl (zI 13 rfl (zP (pV 0 rfl) 1 (f + c) 0 (fun _ => rfl) rfl rfl (by omega) rfl rfl (zI 20 rfl (zF (pV 0 rfl) 1 (f + r) rfl rfl rfl (by omega) rfl (zI 21 rfl (zS 0 (f + r) (zG m (f + c)) rfl (fun _ => rfl) rfl (by omega) rfl rfl rfl (by omega) (zI 22 rfl ?_))))))))
        refine zF (pV 0 rfl) 1 (f + c) rfl rfl rfl (by simp only [List.length_set]; omega) rfl (zI 23 rfl (zS 0 (f + c) (zG m (f + r)) rfl (fun _ => rfl) rfl (by omega) rfl rfl rfl (by simp only [List.length_set]; omega) (zE [] rfl (by decide) (fun w' hw hS => zM ?_))))
        exact ⟨yL m (f + r) (f + c), ⟨rfl, rfl, rfl, rfl, trivial⟩, rfl, hw⟩
      ·
       refine zT 19 rfl hw (zP (pV 0 rfl) 1 (f + r) 0 (fun _ => rfl) rfl rfl (by omega) rfl rfl (zI 12 rfl (zF (pV 0 rfl) 1 (f + c) rfl rfl rfl (by omega) rfl (zI 13 rfl (zP (pV 0 rfl) 1 (f + c) 0 (fun _ => rfl) rfl rfl (by omega) rfl rfl (zI 20 rfl (zF (pV 0 rfl) 1 (f + r) rfl rfl rfl (by omega) rfl (zI 21 rfl ?_))))))))
       refine zS 0 (f + r) (zG m (f + c)) rfl (fun _ => rfl) rfl (by omega) rfl rfl rfl (by omega) (zI 22 rfl (zF (pV 0 rfl) 1 (f + c) rfl rfl rfl (by simp only [List.length_set]; omega) rfl (zI 23 rfl (zS 0 (f + c) (zG m (f + r)) rfl (fun _ => rfl) rfl (by omega) rfl rfl rfl (by simp only [List.length_set]; omega) (zE [] rfl (by decide) (fun w' hw hS => zM ?_))))))
       exact ⟨yL m (f + r) (f + c), ⟨rfl, rfl, rfl, rfl, trivial⟩, rfl, hw⟩
    have hn := hΦ
    refine zY (zC rfl (zH rfl ?_))
    exact zd (fun w' hw => ⟨c, n, ⟨rfl, rfl, rfl, rfl, trivial⟩, ⟨⟨by omega, by omega⟩, by rw [hn]; exact hSm.then_swp ⟨by omega, by omega⟩ ⟨by omega, by omega⟩ hh, by rw [hn]; exact hX.step hr.1 hc.1 hc.2 (by omega) hmx (Decidable.not_not.1 c4)⟩, hw, (by omega)⟩)
theorem zEX {S : List Nat} (v : Value) (l : List Nat) (a b : Nat) (w : World) (ha : a < b) (hb : b ≤ l.length) (hl : z6 l.length) (hin : Own w S [Res.vec 32 1 v l.length (l.flatMap U1)] w) : Rets Tryz.prog 79 #[v, Vj a, Vj b] w fun u_ w' => ∃ (l' : List Nat), u_ = .tuple #[] ∧ Same a b l l' ∧ Up a b l' ∧ Own w S [Res.vec 32 1 v l'.length (l'.flatMap U1)] w' := by
  refine ze Tryz.func79 rfl Tryz.ntmps79 hin ?_
  refine zB (zC rfl (zH rfl (zA (zB (zH rfl (zA (zB (zC rfl (zC rfl (yJ (c := ((b - a : Nat) : Int)) rfl rfl (wsi (by omega) (by omega)) rfl (zH rfl (zA ?_))))))))))))
  refine zL (zB (zC rfl (yJ (c := ((b - a - 1 : Nat) : Int)) rfl rfl (xg (by omega) (by omega)) rfl (xi (c := (((b - a - 1) / 2 : Nat) : Int)) rfl rfl (by decide) (qui (b := 2) (by omega)) rfl (zH rfl (zA (zW ?_)))))))
  refine xB (fun (i : Nat) (m : List Nat) => [(0, v), (6, Vj a), (7, Vi 0), (8, Vj (b - a)), (9, Vi (((i : Nat) : Int) - 1))]) (fun (i : Nat) (m : List Nat) => i ≤ (b - a - 1) / 2 + 1 ∧ Same a b l m ∧ Hp i (b - a) a m) (fun (i : Nat) (m : List Nat) => [Res.vec 32 1 v m.length (m.flatMap U1)]) (fun (i : Nat) (m : List Nat) => i) (fun w' hw => ⟨(b - a - 1) / 2 + 1, l, ⟨rfl, rfl, rfl, rfl, vi (by omega), trivial⟩, ⟨Nat.le_refl _, Same.refl _ _ _, Hp.none (by omega)⟩, hw⟩) (fun i m g hΦ => ?_)
  have hml := hΦ.2.1.len
  have hi1 := hΦ.1
  have hSm := hΦ.2.1
  have hH := hΦ.2.2
  refine zL (zB (zC rfl (yU rfl rfl rfl (zA (zV rfl (fun c1 => ?_) (fun c1 => ?_))))))
  ·
   refine zJ (zL (zW (zY (zC rfl (zC rfl (zC rfl (zC rfl (zQ rfl rfl (fun w' hw => (zGB v m (((i : Nat) : Int) - 1) ((b - a : Nat) : Int) a w' (by omega) (by omega) (by first | assumption | omega | (simp <;> omega) | (constructor <;> (first | omega | (simp only [z6]; omega) | (simp <;> omega)))) (by rw [show (((i : Nat) : Int) - 1).toNat + 1 = i by omega, Int.toNat_natCast]; exact hH) (hw.give [0] rfl (by decide))).mono ?_)))))))))
   rintro _ w1 ⟨l'1_, rfl, hf6_4, hf6_4_1, hO⟩
   have q2 : Hp (i - 1) (b - a) a l'1_ := (by have h := hf6_4_1; rwa [show (((i : Nat) : Int) - 1).toNat = i - 1 by omega, Int.toNat_natCast] at h)
   refine (?_ : CL _ _ _ _ _ _ (Own w S [Res.vec 32 1 v l'1_.length (l'1_.flatMap U1)])) w1 (hw.frameL [0] rfl hO)
   refine zA (zY (zC rfl (yJ rfl rfl (zh (by omega)) rfl (zH rfl ?_))))
   exact zd (fun w' hw => ⟨i - 1, l'1_, ⟨rfl, rfl, rfl, rfl, vi (by omega), trivial⟩, ⟨by omega, hSm.trans (hf6_4.wide (by omega) (by omega)), q2⟩, hw, (by omega)⟩)
  ·
   refine yB rfl (zB (zC rfl (yJ rfl rfl (zh (by omega)) rfl (zH rfl (zA (zW ?_))))))
   refine xB (fun (i : Nat) (m : List Nat) => [(0, v), (6, Vj a), (7, Vi 0), (10, Vi (((i : Nat) : Int) - 1))]) (fun (i : Nat) (m : List Nat) => i ≤ b - a ∧ Same a b l m ∧ HpUp i (b - a) a m) (fun (i : Nat) (m : List Nat) => [Res.vec 32 1 v m.length (m.flatMap U1)]) (fun (i : Nat) (m : List Nat) => i) (fun w' hw => ⟨b - a, m, ⟨rfl, rfl, rfl, rfl, trivial⟩, ⟨Nat.le_refl _, hSm, HpUp.start (by have h0 : i = 0 := (by omega); rw [h0] at hH; exact hH)⟩, hw⟩) (fun i m g hΦ => ?_)
   have hml2 := hΦ.2.1.len
   have hi2 := hΦ.1
   have hS2 := hΦ.2.1
   have hU2 := hΦ.2.2
   refine zL (zB (zC rfl (yU rfl rfl rfl (zA (zV rfl (fun c2 => ?_) (fun c2 => ?_))))))
   ·
    have hU3 : HpUp (i - 1 + 1) (b - a) a m := by rw [show i - 1 + 1 = i by omega]; exact hU2
    have hsw := hU3.swap (by omega) (by omega)
    refine zJ (zL (zW (ye (fun (n : List Nat) => [(0, v), (6, Vj a), (7, Vi 0), (10, Vi (((i : Nat) : Int) - 1))]) (fun (n : List Nat) => n = yL m a (a + (i - 1))) (fun (n : List Nat) => [Res.vec 32 1 v n.length (n.flatMap U1)]) ?_ (fun n g hΦ => ?_))))
    ·
     refine zZ [] rfl (by decide) (by kernel_rfl) (fun w' hw hS => zD 0 rfl (zK) hS (zD 1 rfl (zK) hS (zD 2 rfl (zK) hS (zD 3 rfl (zK) hS (zD 4 rfl (zK) hS (zD 5 rfl (yz (c := ((a + (i - 1) : Nat) : Int)) rfl rfl (by rw [show ((a : Nat) : Int) + (((i : Nat) : Int) - 1) = ((a + (i - 1) : Nat) : Int) by omega]; exact zh (by omega))) hS (zD 6 rfl (zK) hS (zD 7 rfl (zK) hS (zD 8 rfl (zK) hS (zD 9 rfl (yz (c := ((a + (i - 1) : Nat) : Int)) rfl rfl (by rw [show ((a : Nat) : Int) + (((i : Nat) : Int) - 1) = ((a + (i - 1) : Nat) : Int) by omega]; exact zh (by omega))) hS (zD 12 rfl (zK) hS (zD 13 rfl (zK) hS ?_))))))))))))
     refine za 10 14 ?_ ?_
     ·
      refine zT 10 rfl hw (zF (pV 0 rfl) 1 (a + (i - 1)) rfl rfl rfl (by omega) rfl (zE [] rfl (by decide) (fun w' hw hS => za 11 14 ?_ ?_)))
      ·
       refine zT 11 rfl hw (zP (pV 0 rfl) 1 (a + (i - 1)) 0 (fun _ => rfl) rfl rfl (by omega) rfl rfl (zI 14 rfl (zF (pV 0 rfl) 1 a rfl rfl rfl (by omega) rfl (zI 15 rfl (zP (pV 0 rfl) 1 a 0 (fun _ => rfl) rfl rfl (by omega) rfl rfl (zI 16 rfl (zF (pV 0 rfl) 1 a rfl rfl rfl (by omega) rfl (zI 17 rfl ?_))))))))
       refine zS 0 a (zG m (a + (i - 1))) rfl (fun _ => rfl) rfl (by omega) rfl rfl rfl (by omega) (zI 18 rfl (zF (pV 0 rfl) 1 (a + (i - 1)) rfl rfl rfl (by simp only [List.length_set]; omega) rfl (zI 19 rfl (zS 0 (a + (i - 1)) (zG m a) rfl (fun _ => rfl) rfl (by omega) rfl rfl rfl (by simp only [List.length_set]; omega) (zE [] rfl (by decide) (fun w' hw hS => zM ?_))))))
       exact ⟨yL m a (a + (i - 1)), ⟨rfl, rfl, rfl, rfl, trivial⟩, rfl, hw⟩
      ·
       refine zT 14 rfl hw (zF (pV 0 rfl) 1 a rfl rfl rfl (by omega) rfl (zE [] rfl (by decide) (fun w' hw hS => za 11 15 ?_ ?_)))
       ·
        refine zT 11 rfl hw (zP (pV 0 rfl) 1 (a + (i - 1)) 0 (fun _ => rfl) rfl rfl (by omega) rfl rfl (zI 15 rfl (zP (pV 0 rfl) 1 a 0 (fun _ => rfl) rfl rfl (by omega) rfl rfl (zI 16 rfl (zF (pV 0 rfl) 1 a rfl rfl rfl (by omega) rfl (zI 17 rfl (zS 0 a (zG m (a + (i - 1))) rfl (fun _ => rfl) rfl (by omega) rfl rfl rfl (by omega) (zI 18 rfl ?_))))))))
        refine zF (pV 0 rfl) 1 (a + (i - 1)) rfl rfl rfl (by simp only [List.length_set]; omega) rfl (zI 19 rfl (zS 0 (a + (i - 1)) (zG m a) rfl (fun _ => rfl) rfl (by omega) rfl rfl rfl (by simp only [List.length_set]; omega) (zE [] rfl (by decide) (fun w' hw hS => zM ?_))))
        exact ⟨yL m a (a + (i - 1)), ⟨rfl, rfl, rfl, rfl, trivial⟩, rfl, hw⟩
       ·
        refine zT 15 rfl hw (zP (pV 0 rfl) 1 a 0 (fun _ => rfl) rfl rfl (by omega) rfl rfl (zI 11 rfl (zP (pV 0 rfl) 1 (a + (i - 1)) 0 (fun _ => rfl) rfl rfl (by omega) rfl rfl (zI 16 rfl (zF (pV 0 rfl) 1 a rfl rfl rfl (by omega) rfl (zI 17 rfl (zS 0 a (zG m (a + (i - 1))) rfl (fun _ => rfl) rfl (by omega) rfl rfl rfl (by omega) (zI 18 rfl ?_))))))))
        refine zF (pV 0 rfl) 1 (a + (i - 1)) rfl rfl rfl (by simp only [List.length_set]; omega) rfl (zI 19 rfl (zS 0 (a + (i - 1)) (zG m a) rfl (fun _ => rfl) rfl (by omega) rfl rfl rfl (by simp only [List.length_set]; omega) (zE [] rfl (by decide) (fun w' hw hS => zM ?_))))
        exact ⟨yL m a (a + (i - 1)), ⟨rfl, rfl, rfl, rfl, trivial⟩, rfl, hw⟩
     ·
      refine zT 14 rfl hw (zF (pV 0 rfl) 1 a rfl rfl rfl (by omega) rfl (zE [] rfl (by decide) (fun w' hw hS => za 10 15 ?_ ?_)))
      ·
       refine zT 10 rfl hw (zF (pV 0 rfl) 1 (a + (i - 1)) rfl rfl rfl (by omega) rfl (zE [] rfl (by decide) (fun w' hw hS => za 11 15 ?_ ?_)))
       ·
        refine zT 11 rfl hw (zP (pV 0 rfl) 1 (a + (i - 1)) 0 (fun _ => rfl) rfl rfl (by omega) rfl rfl (zI 15 rfl (zP (pV 0 rfl) 1 a 0 (fun _ => rfl) rfl rfl (by omega) rfl rfl (zI 16 rfl (zF (pV 0 rfl) 1 a rfl rfl rfl (by omega) rfl (zI 17 rfl (zS 0 a (zG m (a + (i - 1))) rfl (fun _ => rfl) rfl (by omega) rfl rfl rfl (by omega) (zI 18 rfl ?_))))))))
        refine zF (pV 0 rfl) 1 (a + (i - 1)) rfl rfl rfl (by simp only [List.length_set]; omega) rfl (zI 19 rfl (zS 0 (a + (i - 1)) (zG m a) rfl (fun _ => rfl) rfl (by omega) rfl rfl rfl (by simp only [List.length_set]; omega) (zE [] rfl (by decide) (fun w' hw hS => zM ?_))))
        exact ⟨yL m a (a + (i - 1)), ⟨rfl, rfl, rfl, rfl, trivial⟩, rfl, hw⟩
       ·
        refine zT 15 rfl hw (zP (pV 0 rfl) 1 a 0 (fun _ => rfl) rfl rfl (by omega) rfl rfl (zI 11 rfl (zP (pV 0 rfl) 1 (a + (i - 1)) 0 (fun _ => rfl) rfl rfl (by omega) rfl rfl (zI 16 rfl (zF (pV 0 rfl) 1 a rfl rfl rfl (by omega) rfl (zI 17 rfl (zS 0 a (zG m (a + (i - 1))) rfl (fun _ => rfl) rfl (by omega) rfl rfl rfl (by omega) (zI 18 rfl ?_))))))))
        refine zF (pV 0 rfl) 1 (a + (i - 1)) rfl rfl rfl (by simp only [List.length_set]; omega) rfl (zI 19 rfl (zS 0 (a + (i - 1)) (zG m a) rfl (fun _ => rfl) rfl (by omega) rfl rfl rfl (by simp only [List.length_set]; omega) (zE [] rfl (by decide) (fun w' hw hS => zM ?_))))
        exact ⟨yL m a (a + (i - 1)), ⟨rfl, rfl, rfl, rfl, trivial⟩, rfl, hw⟩
      ·
       refine zT 15 rfl hw (zP (pV 0 rfl) 1 a 0 (fun _ => rfl) rfl rfl (by omega) rfl rfl (zI 10 rfl (zF (pV 0 rfl) 1 (a + (i - 1)) rfl rfl rfl (by omega) rfl (zI 11 rfl (zP (pV 0 rfl) 1 (a + (i - 1)) 0 (fun _ => rfl) rfl rfl (by omega) rfl rfl (zI 16 rfl (zF (pV 0 rfl) 1 a rfl rfl rfl (by omega) rfl (zI 17 rfl ?_))))))))
       refine zS 0 a (zG m (a + (i - 1))) rfl (fun _ => rfl) rfl (by omega) rfl rfl rfl (by omega) (zI 18 rfl (zF (pV 0 rfl) 1 (a + (i - 1)) rfl rfl rfl (by simp only [List.length_set]; omega) rfl (zI 19 rfl (zS 0 (a + (i - 1)) (zG m a) rfl (fun _ => rfl) rfl (by omega) rfl rfl rfl (by simp only [List.length_set]; omega) (zE [] rfl (by decide) (fun w' hw hS => zM ?_))))))
       exact ⟨yL m a (a + (i - 1)), ⟨rfl, rfl, rfl, rfl, trivial⟩, rfl, hw⟩
    have hn := hΦ
    have hnl : n.length = m.length := by rw [hn, zDB]
    refine zY (zC rfl (zC rfl (zC rfl (zC rfl (zQ rfl rfl (fun w' hw => (zGB v n 0 (((i : Nat) : Int) - 1) a w' (by omega) (by omega) (by first | assumption | omega | (simp <;> omega) | (constructor <;> (first | omega | (simp only [z6]; omega) | (simp <;> omega)))) (by rw [show (((i : Nat) : Int) - 1).toNat = i - 1 by omega, hn]; exact hsw.1) (hw.give [0] rfl (by decide))).mono ?_))))))
    rintro _ w1 ⟨l'2_, rfl, hf11_4, hf11_4_1, hO⟩
    have q3 : Hp 0 (i - 1) a l'2_ := (by have h := hf11_4_1; rwa [show (((i : Nat) : Int) - 1).toNat = i - 1 by omega] at h)
    have q4 : Same a (a + (i - 1)) n l'2_ := hf11_4.wide (by omega) (by omega)
    refine (?_ : CL _ _ _ _ _ _ (Own w S [Res.vec 32 1 v l'2_.length (l'2_.flatMap U1)])) w1 (hw.frameL [0] rfl hO)
    refine zA (zY (zC rfl (yJ rfl rfl (zh (by omega)) rfl (zH rfl ?_))))
    exact zd (fun w' hw => ⟨i - 1, l'2_, ⟨rfl, rfl, rfl, vi (by omega), trivial⟩, ⟨by omega, (hS2.then_swp ⟨by omega, by omega⟩ ⟨by omega, by omega⟩ hb).trans ((hn ▸ q4).wide (by omega) (by omega)), HpUp.sift hsw.2 q3 (hn ▸ q4) (by omega) (by rw [zDB]; omega)⟩, hw, (by omega)⟩)
   ·
    exact yr rfl (j8 rfl (fun w' hw => ⟨m, rfl, hS2, (by have h := hU2.up; have h0 : i = 0 := (by omega); rw [h0, Nat.add_zero, show a + (b - a) = b by omega] at h; exact h), hw⟩))
end Go.Proofs.YtcdiehplbmkmeaaGreat
