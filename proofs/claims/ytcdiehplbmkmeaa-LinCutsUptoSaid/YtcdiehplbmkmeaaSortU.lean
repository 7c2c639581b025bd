import Derived.Test.YtcdiehplbmkmeaaFwU
import Derived.Test.YtcdiehplbmkmeaaSrtB
import Derived.Test.YtcdiehplbmkmeaaChecked
set_option linter.unusedSectionVars false
set_option linter.unusedSimpArgs false
set_option linter.unusedVariables false
set_option maxRecDepth 10000
namespace Go.Proofs.Ytcdiehplbmkmeaa
open Go Go.Sc Go.Proofs
theorem zKI (x : Nat) (w : World) : Rets Try.prog 76 #[Vn x] w fun u_ w' => u_ = .bool false ∧ Own w [] [] w' := by
  refine zh Try.func76 rfl Try.ntmps76 (Own.start w) ?_
  refine zB (zH rfl (zA (zB (zC rfl (zC rfl (jW rfl rfl rfl (zH rfl (zA ?_))))))))
  exact zR (z3 (v := .bool (decide (((x : Nat) : Int) ≠ ((x : Nat) : Int)))) rfl rfl (fun w' hw => ⟨(by simp), hw.drop⟩))
theorem xM (x y : Nat) (w : World) : Rets Try.prog 52 #[Vn x, Vn y] w fun u_ w' => u_ = .bool (decide (olt x y)) ∧ Own w [] [] w' := by
  refine zh Try.func52 rfl Try.ntmps52 (Own.start w) ?_
  refine zB (zH rfl (zA (zB (zC rfl (zQ rfl rfl (fun w' hw => (zKI x w').mono ?_))))))
  rintro _ w1 ⟨rfl, hO⟩
  refine (?_ : CL _ _ _ _ _ _ (Own w [] [])) w1 (hw.frame0 hO)
  refine zC rfl (zGw rfl rfl rfl rfl (zGw rfl rfl rfl rfl (zGw rfl rfl rfl rfl (xu rfl rfl (zC rfl (zV rfl rfl (zC rfl (zV rfl rfl (zC rfl (zV rfl rfl (yO rfl rfl rfl (xu rfl rfl ?_))))))))))))
  refine zH rfl (zA ?_)
  exact zR (z3 (v := .bool (decide (((x : Nat) : Int) < ((y : Nat) : Int)))) rfl rfl (fun w' hw => ⟨(by congr 1; exact decide_eq_decide.2 (Int.ofNat_lt)), hw.drop⟩))
theorem zDm {S : List Nat} (v : Value) (l : List Nat) (a b : Nat) (w : World) (ha : a ≤ b) (hb : b ≤ l.length) (hl : zx l.length) (hin : Own w S [Res.vec 28 1 v l.length (l.flatMap U1)] w) : Rets Try.prog 50 #[v, Vj a, Vj b] w fun u_ w' => ∃ (l' : List Nat), u_ = .tuple #[] ∧ Same a b l l' ∧ Own w S [Res.vec 28 1 v l'.length (l'.flatMap U1)] w' := by
  refine zh Try.func50 rfl Try.ntmps50 hin ?_
  refine zB (zC rfl (zH rfl (zA (zB (zC rfl (z9 rfl rfl (zt (by omega)) rfl (zH rfl (zA (zS ?_)))))))))
  refine kh (fun (i j : Nat) (m : List Nat) => [(0, v), (6, Vj i), (7, Vi (((j : Nat) : Int) - 1))]) (fun (i j : Nat) (m : List Nat) => (a ≤ i ∧ j ≤ b) ∧ Same a b l m) (fun (i j : Nat) (m : List Nat) => [Res.vec 28 1 v m.length (m.flatMap U1)]) (fun (i j : Nat) (m : List Nat) => j - i) (fun w' hw => ⟨a, b, l, ⟨rfl, rfl, rfl, trivial⟩, ⟨⟨Nat.le_refl _, Nat.le_refl _⟩, Same.refl _ _ _⟩, hw⟩) (fun i j m g hΦ => ?_)
  have hml := hΦ.2.len
  have hSm := hΦ.2
  have hij := hΦ.1
  refine zM (zB (zC rfl (zC rfl (yO rfl rfl rfl (zA (zU rfl (fun c1 => ?_) (fun c1 => ?_)))))))
  ·
   refine zL (zS (yJ (fun (n : List Nat) => [(0, v), (6, Vj i), (7, Vi (((j : Nat) : Int) - 1))]) (fun (n : List Nat) => n = z8 m i (j - 1)) (fun (n : List Nat) => [Res.vec 28 1 v n.length (n.flatMap U1)]) ?_ (fun n g hΦ => ?_)))
   ·
    refine zX [] rfl (by decide) (by kernel_rfl) (fun w' hw hS => zE 0 rfl (zJ) hS (zE 1 rfl (zJ) hS (zE 2 rfl (zJ) hS (zE 3 rfl (zJ) hS (zE 4 rfl (zJ) hS (zE 5 rfl (zJ) hS (zE 8 rfl (zJ) hS (zE 9 rfl (zJ) hS (zT 6 10 ?_ ?_)))))))))
    ·
     refine zP 6 rfl hw (zD (pV 0 rfl) 1 (j - 1) rfl rfl (by omega) (by omega) rfl (zF [] rfl (by decide) (fun w' hw hS => zT 7 10 ?_ ?_)))
     ·
      refine zP 7 rfl hw (zN (pV 0 rfl) 1 (j - 1) 0 (fun _ => rfl) rfl rfl (by omega) rfl rfl (zI 10 rfl (zD (pV 0 rfl) 1 i rfl rfl rfl (by omega) rfl (zI 11 rfl (zN (pV 0 rfl) 1 i 0 (fun _ => rfl) rfl rfl (by omega) rfl rfl (zI 12 rfl (zD (pV 0 rfl) 1 i rfl rfl rfl (by omega) rfl (zI 13 rfl ?_))))))))
      refine zO 0 i (zG m (j - 1)) rfl (fun _ => rfl) rfl (by omega) rfl rfl rfl (by omega) (zI 14 rfl (zD (pV 0 rfl) 1 (j - 1) rfl rfl (by omega) (by simp; omega) rfl (zI 15 rfl (zO 0 (j - 1) (zG m i) rfl (fun _ => rfl) rfl (by omega) rfl rfl rfl (by simp; omega) (zF [] rfl (by decide) (fun w' hw hS => zK ?_))))))
      exact ⟨z8 m i (j - 1), ⟨rfl, rfl, rfl, trivial⟩, rfl, hw⟩
     ·
      refine zP 10 rfl hw (zD (pV 0 rfl) 1 i rfl rfl rfl (by omega) rfl (zF [] rfl (by decide) (fun w' hw hS => zT 7 11 ?_ ?_)))
      ·
       refine zP 7 rfl hw (zN (pV 0 rfl) 1 (j - 1) 0 (fun _ => rfl) rfl rfl (by omega) rfl rfl (zI 11 rfl (zN (pV 0 rfl) 1 i 0 (fun _ => rfl) rfl rfl (by omega) rfl rfl (zI 12 rfl (zD (pV 0 rfl) 1 i rfl rfl rfl (by omega) rfl (zI 13 rfl (zO 0 i (zG m (j - 1)) rfl (fun _ => rfl) rfl (by omega) rfl rfl rfl (by omega) (zI 14 rfl ?_))))))))
       refine zD (pV 0 rfl) 1 (j - 1) rfl rfl (by omega) (by simp; omega) rfl (zI 15 rfl (zO 0 (j - 1) (zG m i) rfl (fun _ => rfl) rfl (by omega) rfl rfl rfl (by simp; omega) (zF [] rfl (by decide) (fun w' hw hS => zK ?_))))
       exact ⟨z8 m i (j - 1), ⟨rfl, rfl, rfl, trivial⟩, rfl, hw⟩
      ·
       refine zP 11 rfl hw (zN (pV 0 rfl) 1 i 0 (fun _ => rfl) rfl rfl (by omega) rfl rfl (zI 7 rfl (zN (pV 0 rfl) 1 (j - 1) 0 (fun _ => rfl) rfl rfl (by omega) rfl rfl (zI 12 rfl (zD (pV 0 rfl) 1 i rfl rfl rfl (by omega) rfl (zI 13 rfl (zO 0 i (zG m (j - 1)) rfl (fun _ => rfl) rfl (by omega) rfl rfl rfl (by omega) (zI 14 rfl ?_))))))))
       refine zD (pV 0 rfl) 1 (j - 1) rfl rfl (by omega) (by simp; omega) rfl (zI 15 rfl (zO 0 (j - 1) (zG m i) rfl (fun _ => rfl) rfl (by omega) rfl rfl rfl (by simp; omega) (zF [] rfl (by decide) (fun w' hw hS => zK ?_))))
       exact ⟨z8 m i (j - 1), ⟨rfl, rfl, rfl, trivial⟩, rfl, hw⟩
    ·
     refine zP 10 rfl hw (zD (pV 0 rfl) 1 i rfl rfl rfl (by omega) rfl (zF [] rfl (by decide) (fun w' hw hS => zT 6 11 ?_ ?_)))
     ·
      refine zP 6 rfl hw (zD (pV 0 rfl) 1 (j - 1) rfl rfl (by omega) (by omega) rfl (zF [] rfl (by decide) (fun w' hw hS => zT 7 11 ?_ ?_)))
      ·
       refine zP 7 rfl hw (zN (pV 0 rfl) 1 (j - 1) 0 (fun _ => rfl) rfl rfl (by omega) rfl rfl (zI 11 rfl (zN (pV 0 rfl) 1 i 0 (fun _ => rfl) rfl rfl (by omega) rfl rfl (zI 12 rfl (zD (pV 0 rfl) 1 i rfl rfl rfl (by omega) rfl (zI 13 rfl (zO 0 i (zG m (j - 1)) rfl (fun _ => rfl) rfl (by omega) rfl rfl rfl (by omega) (zI 14 rfl ?_))))))))
       refine zD (pV 0 rfl) 1 (j - 1) rfl rfl (by omega) (by simp; omega) rfl (zI 15 rfl (zO 0 (j - 1) (zG m i) rfl (fun _ => rfl) rfl (by omega) rfl rfl rfl (by simp; omega) (zF [] rfl (by decide) (fun w' hw hS => zK ?_))))
       exact ⟨z8 m i (j - 1), ⟨rfl, rfl, rfl, trivial⟩, rfl, hw⟩
      ·
       refine zP 11 rfl hw (zN (pV 0 rfl) 1 i 0 (fun _ => rfl) rfl rfl (by omega) rfl rfl (zI 7 rfl (zN (pV 0 rfl) 1 (j - 1) 0 (fun _ => rfl) rfl rfl (by omega) rfl rfl (zI 12 rfl (zD (pV 0 rfl) 1 i rfl rfl rfl (by omega) rfl (zI 13 rfl (zO 0 i (zG m (j - 1)) rfl (fun _ => rfl) rfl (by omega) rfl rfl rfl (by omega) (zI 14 rfl ?_))))))))
       refine zD (pV 0 rfl) 1 (j - 1) rfl rfl (by omega) (by simp; omega) rfl (zI 15 rfl (zO 0 (j - 1) (zG m i) rfl (fun _ => rfl) rfl (by omega) rfl rfl rfl (by simp; omega) (zF [] rfl (by decide) (fun w' hw hS => zK ?_))))
       exact ⟨z8 m i (j - 1), ⟨rfl, rfl, rfl, trivial⟩, rfl, hw⟩
     ·
      refine zP 11 rfl hw (zN (pV 0 rfl) 1 i 0 (fun _ => rfl) rfl rfl (by omega) rfl rfl (zI 6 rfl (zD (pV 0 rfl) 1 (j - 1) rfl rfl (by omega) (by omega) rfl (zI 7 rfl (zN (pV 0 rfl) 1 (j - 1) 0 (fun _ => rfl) rfl rfl (by omega) rfl rfl (zI 12 rfl (zD (pV 0 rfl) 1 i rfl rfl rfl (by omega) rfl (zI 13 rfl ?_))))))))
      refine zO 0 i (zG m (j - 1)) rfl (fun _ => rfl) rfl (by omega) rfl rfl rfl (by omega) (zI 14 rfl (zD (pV 0 rfl) 1 (j - 1) rfl rfl (by omega) (by simp; omega) rfl (zI 15 rfl (zO 0 (j - 1) (zG m i) rfl (fun _ => rfl) rfl (by omega) rfl rfl rfl (by simp; omega) (zF [] rfl (by decide) (fun w' hw hS => zK ?_))))))
      exact ⟨z8 m i (j - 1), ⟨rfl, rfl, rfl, trivial⟩, rfl, hw⟩
   have hn := hΦ
   refine zB (zC rfl (zw rfl rfl (zt (by omega)) rfl (zH rfl (zA (zg (zC rfl (z9 rfl rfl (zt (by omega)) rfl (zH rfl ?_))))))))
   exact zf (fun w' hw => ⟨i + 1, j - 1, n, ⟨rfl, rfl, vi (by omega), trivial⟩, ⟨⟨by omega, by omega⟩, by rw [hn]; exact hSm.then_swp ⟨by omega, by omega⟩ ⟨by omega, by omega⟩ hb⟩, hw, (by omega)⟩)
  ·
   exact yU rfl (ji rfl (fun w' hw => ⟨m, rfl, hΦ.2, hw⟩))
theorem zE0 {S : List Nat} (v : Value) (l : List Nat) (a b : Nat) (w : World) (ha : a ≤ b) (hb : b ≤ l.length) (hl : zx l.length) (hin : Own w S [Res.vec 28 1 v l.length (l.flatMap U1)] w) : Rets Try.prog 46 #[v, Vj a, Vj b] w fun u_ w' => ∃ (l' : List Nat), u_ = .tuple #[] ∧ Same a b l l' ∧ Up a b l' ∧ Own w S [Res.vec 28 1 v l'.length (l'.flatMap U1)] w' := by
  refine zh Try.func46 rfl Try.ntmps46 hin ?_
  refine zB (zC rfl (zw rfl rfl (zt (by omega)) rfl (zH rfl (zA (zS ?_)))))
  refine y4 (fun (i : Nat) (m : List Nat) => [(0, v), (1, Vj a), (2, Vj b), (6, Vj i)]) (fun (i : Nat) (m : List Nat) => (a + 1 ≤ i ∧ (i ≤ b ∨ i = a + 1)) ∧ Same a b l m ∧ Up a i m) (fun (i : Nat) (m : List Nat) => [Res.vec 28 1 v m.length (m.flatMap U1)]) (fun (i : Nat) (m : List Nat) => b + 1 - i) (fun w' hw => ⟨a + 1, l, ⟨rfl, rfl, rfl, rfl, trivial⟩, ⟨⟨by omega, .inr rfl⟩, Same.refl _ _ _, Up.one (by omega)⟩, hw⟩) (fun i m g hΦ => ?_)
  have hml := hΦ.2.1.len
  have hi1 := hΦ.1
  have hU := hΦ.2.2
  have hS1 := hΦ.2.1
  refine zM (zB (zC rfl (zC rfl (yO rfl rfl rfl (zA (zU rfl (fun c1 => ?_) (fun c1 => ?_)))))))
  ·
   refine zL (zM (zS (zB (zC rfl (zH rfl (zA (zS ?_)))))))
   refine y4 (fun (j : Nat) (q : List Nat) => [(0, v), (1, Vj a), (2, Vj b), (6, Vj i), (7, Vj j)]) (fun (j : Nat) (q : List Nat) => (a ≤ j ∧ j ≤ i) ∧ Same a b l q ∧ Ins a i j q) (fun (j : Nat) (q : List Nat) => [Res.vec 28 1 v q.length (q.flatMap U1)]) (fun (j : Nat) (q : List Nat) => j) (fun w' hw => ⟨i, m, ⟨rfl, rfl, rfl, rfl, rfl, trivial⟩, ⟨⟨by omega, by omega⟩, hS1, Ins.start hU⟩, hw⟩) (fun j q g hΦ => ?_)
   have hql := hΦ.2.1.len
   have hj1 := hΦ.1
   have hS2 := hΦ.2.1
   have hI2 := hΦ.2.2
   refine zM (zM (zX [0] rfl (by decide) (by kernel_rfl) (fun w' hw hS => zE 0 rfl (zJ) hS (zE 1 rfl (zJ) hS (zE 2 rfl (zDT rfl rfl) hS (zE 3 rfl (zJ) hS ?_))))))
   by_cases g4_3 : ((a : Nat) : Int) < ((j : Nat) : Int)
   ·
    refine zj 4 rfl rfl (gT g4_3) (zJ) hS (zj 5 rfl rfl (gT g4_3) (zJ) hS (zj 6 rfl rfl (gT g4_3) (z7 (pV 0 rfl) 1 j rfl rfl rfl (by omega)) hS (zj 7 rfl rfl (gT g4_3) (yQ (pV 0 rfl) 1 j 0 (fun _ => rfl) rfl rfl (by omega) rfl) hS (zj 8 rfl rfl (gT g4_3) (zJ) hS (zj 9 rfl rfl (gT g4_3) (zJ) hS (zj 10 rfl rfl (gT g4_3) (kU (c := ((j - 1 : Nat) : Int)) rfl rfl (xV (by omega) (by omega))) hS (zj 11 rfl rfl (gT g4_3) (z7 (pV 0 rfl) 1 (j - 1) rfl rfl rfl (by omega)) hS (zj 12 rfl rfl (gT g4_3) (yQ (pV 0 rfl) 1 (j - 1) 0 (fun _ => rfl) rfl rfl (by omega) rfl) hS (zZ 13 rfl hw (zV rfl (gT g4_3) (zQ rfl rfl (fun w' hw => (xM (zG q j) (zG q (j - 1)) w').mono ?_))))))))))))
    rintro _ w1 ⟨rfl, hO⟩
    refine (?_ : CL _ _ _ _ _ _ (Own w S [Res.vec 28 1 v q.length (q.flatMap U1)])) w1 (hw.frame0 hO)
    refine zF [0] rfl (by decide) (fun w' hw hS => zE 14 rfl (xe (gT g4_3)) hS (zK ?_))
    refine (?_ : C _ _ _ _ _ _ _ (Own w S [Res.vec 28 1 v q.length (q.flatMap U1)])) _ hw
    refine zU rfl (fun c2 => ?_) (fun c2 => ?_)
    ·
     refine zL (yJ (fun (n : List Nat) => [(0, v), (1, Vj a), (2, Vj b), (6, Vj i), (7, Vj j)]) (fun (n : List Nat) => n = z8 q j (j - 1)) (fun (n : List Nat) => [Res.vec 28 1 v n.length (n.flatMap U1)]) ?_ (fun n g hΦ => ?_))
     ·
      refine zS (zX [] rfl (by decide) (by kernel_rfl) (fun w' hw hS => zE 0 rfl (zJ) hS (zE 1 rfl (zJ) hS (zE 2 rfl (zJ) hS (zE 3 rfl (zJ) hS (zE 4 rfl (kU (c := ((j - 1 : Nat) : Int)) rfl rfl (xV (by omega) (by omega))) hS (zE 5 rfl (zJ) hS (zE 6 rfl (zJ) hS (zE 7 rfl (kU (c := ((j - 1 : Nat) : Int)) rfl rfl (xV (by omega) (by omega))) hS (zE 10 rfl (zJ) hS (zE 11 rfl (zJ) hS (zT 8 12 ?_ ?_))))))))))))
      ·
       refine zP 8 rfl hw (zD (pV 0 rfl) 1 (j - 1) rfl rfl rfl (by omega) rfl (zF [] rfl (by decide) (fun w' hw hS => zT 9 12 ?_ ?_)))
       ·
        refine zP 9 rfl hw (zN (pV 0 rfl) 1 (j - 1) 0 (fun _ => rfl) rfl rfl (by omega) rfl rfl (zI 12 rfl (zD (pV 0 rfl) 1 j rfl rfl rfl (by omega) rfl (zI 13 rfl (zN (pV 0 rfl) 1 j 0 (fun _ => rfl) rfl rfl (by omega) rfl rfl (zI 14 rfl (zD (pV 0 rfl) 1 j rfl rfl rfl (by omega) rfl (zI 15 rfl ?_))))))))
        refine zO 0 j (zG q (j - 1)) rfl (fun _ => rfl) rfl (by omega) rfl rfl rfl (by omega) (zI 16 rfl (zD (pV 0 rfl) 1 (j - 1) rfl rfl rfl (by simp only [List.length_set]; omega) rfl (zI 17 rfl (zO 0 (j - 1) (zG q j) rfl (fun _ => rfl) rfl (by omega) rfl rfl rfl (by simp only [List.length_set]; omega) (zF [] rfl (by decide) (fun w' hw hS => zK ?_))))))
        exact ⟨z8 q j (j - 1), ⟨rfl, rfl, rfl, rfl, rfl, trivial⟩, rfl, hw⟩
       ·
        refine zP 12 rfl hw (zD (pV 0 rfl) 1 j rfl rfl rfl (by omega) rfl (zF [] rfl (by decide) (fun w' hw hS => zT 9 13 ?_ ?_)))
        ·
         refine zP 9 rfl hw (zN (pV 0 rfl) 1 (j - 1) 0 (fun _ => rfl) rfl rfl (by omega) rfl rfl (zI 13 rfl (zN (pV 0 rfl) 1 j 0 (fun _ => rfl) rfl rfl (by omega) rfl rfl (zI 14 rfl (zD (pV 0 rfl) 1 j rfl rfl rfl (by omega) rfl (zI 15 rfl (zO 0 j (zG q (j - 1)) rfl (fun _ => rfl) rfl (by omega) rfl rfl rfl (by omega) (zI 16 rfl ?_))))))))
         refine zD (pV 0 rfl) 1 (j - 1) rfl rfl rfl (by simp only [List.length_set]; omega) rfl (zI 17 rfl (zO 0 (j - 1) (zG q j) rfl (fun _ => rfl) rfl (by omega) rfl rfl rfl (by simp only [List.length_set]; omega) (zF [] rfl (by decide) (fun w' hw hS => zK ?_))))
         exact ⟨z8 q j (j - 1), ⟨rfl, rfl, rfl, rfl, rfl, trivial⟩, rfl, hw⟩
        ·
         refine zP 13 rfl hw (zN (pV 0 rfl) 1 j 0 (fun _ => rfl) rfl rfl (by omega) rfl rfl (zI 9 rfl (zN (pV 0 rfl) 1 (j - 1) 0 (fun _ => rfl) rfl rfl (by omega) rfl rfl (zI 14 rfl (zD (pV 0 rfl) 1 j rfl rfl rfl (by omega) rfl (zI 15 rfl (zO 0 j (zG q (j - 1)) rfl (fun _ => rfl) rfl (by omega) rfl rfl rfl (by omega) (zI 16 rfl ?_))))))))
         refine zD (pV 0 rfl) 1 (j - 1) rfl rfl rfl (by simp only [List.length_set]; omega) rfl (zI 17 rfl (zO 0 (j - 1) (zG q j) rfl (fun _ => rfl) rfl (by omega) rfl rfl rfl (by simp only [List.length_set]; omega) (zF [] rfl (by decide) (fun w' hw hS => zK ?_))))
         exact ⟨z8 q j (j - 1), ⟨rfl, rfl, rfl, rfl, rfl, trivial⟩, rfl, hw⟩
      ·
       refine zP 12 rfl hw (zD (pV 0 rfl) 1 j rfl rfl rfl (by omega) rfl (zF [] rfl (by decide) (fun w' hw hS => zT 8 13 ?_ ?_)))
       ·
        refine zP 8 rfl hw (zD (pV 0 rfl) 1 (j - 1) rfl rfl rfl (by omega) rfl (zF [] rfl (by decide) (fun w' hw hS => zT 9 13 ?_ ?_)))
        ·
         refine zP 9 rfl hw (zN (pV 0 rfl) 1 (j - 1) 0 (fun _ => rfl) rfl rfl (by omega) rfl rfl (zI 13 rfl (zN (pV 0 rfl) 1 j 0 (fun _ => rfl) rfl rfl (by omega) rfl rfl (zI 14 rfl (zD (pV 0 rfl) 1 j rfl rfl rfl (by omega) rfl (zI 15 rfl (zO 0 j (zG q (j - 1)) rfl (fun _ => rfl) rfl (by omega) rfl rfl rfl (by omega) (zI 16 rfl ?_))))))))
         refine zD (pV 0 rfl) 1 (j - 1) rfl rfl rfl (by simp only [List.length_set]; omega) rfl (zI 17 rfl (zO 0 (j - 1) (zG q j) rfl (fun _ => rfl) rfl (by omega) rfl rfl rfl (by simp only [List.length_set]; omega) (zF [] rfl (by decide) (fun w' hw hS => zK ?_))))
         exact ⟨z8 q j (j - 1), ⟨rfl, rfl, rfl, rfl, rfl, trivial⟩, rfl, hw⟩
        ·
         refine zP 13 rfl hw (zN (pV 0 rfl) 1 j 0 (fun _ => rfl) rfl rfl (by omega) rfl rfl (zI 9 rfl (zN (pV 0 rfl) 1 (j - 1) 0 (fun _ => rfl) rfl rfl (by omega) rfl rfl (zI 14 rfl (zD (pV 0 rfl) 1 j rfl rfl rfl (by omega) rfl (zI 15 rfl (zO 0 j (zG q (j - 1)) rfl (fun _ => rfl) rfl (by omega) rfl rfl rfl (by omega) (zI 16 rfl ?_))))))))
         refine zD (pV 0 rfl) 1 (j - 1) rfl rfl rfl (by simp only [List.length_set]; omega) rfl (zI 17 rfl (zO 0 (j - 1) (zG q j) rfl (fun _ => rfl) rfl (by omega) rfl rfl rfl (by simp only [List.length_set]; omega) (zF [] rfl (by decide) (fun w' hw hS => zK ?_))))
         exact ⟨z8 q j (j - 1), ⟨rfl, rfl, rfl, rfl, rfl, trivial⟩, rfl, hw⟩
       ·
        refine zP 13 rfl hw (zN (pV 0 rfl) 1 j 0 (fun _ => rfl) rfl rfl (by omega) rfl rfl (zI 8 rfl (zD (pV 0 rfl) 1 (j - 1) rfl rfl rfl (by omega) rfl (zI 9 rfl (zN (pV 0 rfl) 1 (j - 1) 0 (fun _ => rfl) rfl rfl (by omega) rfl rfl (zI 14 rfl (zD (pV 0 rfl) 1 j rfl rfl rfl (by omega) rfl (zI 15 rfl ?_))))))))
        refine zO 0 j (zG q (j - 1)) rfl (fun _ => rfl) rfl (by omega) rfl rfl rfl (by omega) (zI 16 rfl (zD (pV 0 rfl) 1 (j - 1) rfl rfl rfl (by simp only [List.length_set]; omega) rfl (zI 17 rfl (zO 0 (j - 1) (zG q j) rfl (fun _ => rfl) rfl (by omega) rfl rfl rfl (by simp only [List.length_set]; omega) (zF [] rfl (by decide) (fun w' hw hS => zK ?_))))))
        exact ⟨z8 q j (j - 1), ⟨rfl, rfl, rfl, rfl, rfl, trivial⟩, rfl, hw⟩
     have hn := hΦ
     refine zg (zC rfl (z9 (c := ((j - 1 : Nat) : Int)) rfl rfl (xV (by omega) (by omega)) rfl (zH rfl ?_)))
     exact zf (fun w' hw => ⟨j - 1, n, ⟨rfl, rfl, rfl, rfl, rfl, trivial⟩, ⟨⟨by omega, by omega⟩, by rw [hn]; exact hS2.then_swp ⟨by omega, by omega⟩ ⟨by omega, by omega⟩ hb, by rw [hn]; exact hI2.step (by omega) (by omega) (by omega) c2⟩, hw, (by omega)⟩)
    ·
     refine yA rfl (zg (zC rfl (zw rfl rfl (zt (by omega)) rfl (zH rfl ?_))))
     exact zf (fun w' hw => ⟨i + 1, q, ⟨rfl, rfl, rfl, rfl, trivial⟩, ⟨⟨by omega, .inl (by omega)⟩, hS2, hI2.done (fun _ => c2)⟩, hw, (by omega)⟩)
   ·
    refine ze 4 rfl rfl (gF g4_3) rfl hS (ze 5 rfl rfl (gF g4_3) rfl hS (ze 6 rfl rfl (gF g4_3) rfl hS (ze 7 rfl rfl (gF g4_3) rfl hS (ze 8 rfl rfl (gF g4_3) rfl hS (ze 9 rfl rfl (gF g4_3) rfl hS (ze 10 rfl rfl (gF g4_3) rfl hS (ze 11 rfl rfl (gF g4_3) rfl hS (ze 12 rfl rfl (gF g4_3) rfl hS (ze 13 rfl rfl (gF g4_3) rfl hS (zE 14 rfl (xg (gF g4_3)) hS (zK ?_)))))))))))
    refine (?_ : C _ _ _ _ _ _ _ (Own w S [Res.vec 28 1 v q.length (q.flatMap U1)])) _ hw
    refine xm rfl (yA rfl (zg (zC rfl (zw rfl rfl (zt (by omega)) rfl (zH rfl ?_)))))
    exact zf (fun w' hw => ⟨i + 1, q, ⟨rfl, rfl, rfl, rfl, trivial⟩, ⟨⟨by omega, .inl (by omega)⟩, hS2, hI2.done (fun h => absurd h (by omega))⟩, hw, (by omega)⟩)
  ·
   exact yU rfl (ji rfl (fun w' hw => ⟨m, rfl, hS1, (fun k h1 h2 => hU k h1 (by omega)), hw⟩))
theorem zF3 {S : List Nat} (v : Value) (l : List Nat) (lo hi : Int) (f : Nat) (w : World) (hh : f + hi.toNat ≤ l.length) (hlo : 0 ≤ lo ∧ lo ≤ hi) (hl : zx l.length) (hp : Hp (lo.toNat + 1) hi.toNat f l) (hin : Own w S [Res.vec 28 1 v l.length (l.flatMap U1)] w) : Rets Try.prog 71 #[v, Vi lo, Vi hi, Vj f] w fun u_ w' => ∃ (l' : List Nat), u_ = .tuple #[] ∧ Same (f + lo.toNat) (f + hi.toNat) l l' ∧ Hp lo.toNat hi.toNat f l' ∧ Own w S [Res.vec 28 1 v l'.length (l'.flatMap U1)] w' := by
  obtain ⟨lo, rfl⟩ : ∃ n : Nat, lo = n := ⟨lo.toNat, by omega⟩
  obtain ⟨hi, rfl⟩ : ∃ n : Nat, hi = n := ⟨hi.toNat, by omega⟩
  simp only [Int.toNat_natCast] at hh hp ⊢
  have hlo := Int.ofNat_le.1 hlo.2
  refine zh Try.func71 rfl Try.ntmps71 hin ?_
  refine zB (zC rfl (zH rfl (zA (zS ?_))))
  refine y4 (fun (r : Nat) (m : List Nat) => [(0, v), (2, Vi hi), (3, Vj f), (8, Vj r)]) (fun (r : Nat) (m : List Nat) => (lo ≤ r ∧ r ≤ hi) ∧ Same (f + lo) (f + hi) l m ∧ HpX lo hi f r m) (fun (r : Nat) (m : List Nat) => [Res.vec 28 1 v m.length (m.flatMap U1)]) (fun (r : Nat) (m : List Nat) => hi - r) (fun w' hw => ⟨lo, l, ⟨rfl, rfl, rfl, rfl, trivial⟩, ⟨⟨Nat.le_refl _, hlo⟩, Same.refl _ _ _, HpX.start hp⟩, hw⟩) (fun r m g hΦ => ?_)
  have hml := hΦ.2.1.len
  have hr := hΦ.1
  have hSm := hΦ.2.1
  have hX := hΦ.2.2
  refine zS (zB (zC rfl (zBD rfl rfl (zt (by omega)) rfl (zw rfl rfl (zt (by omega)) rfl (zH rfl (zA (zM (zB (zC rfl (zC rfl (yY rfl rfl rfl (zA ?_))))))))))))
  refine zU rfl (fun c1 => ?_) (fun c1 => ?_)
  ·
   exact yU rfl (ji rfl (fun w' hw => ⟨m, rfl, hSm, hX.done (fun c h1 h2 => by omega), hw⟩))
  ·
   refine zL (yJ (fun (c : Nat) => [(0, v), (2, Vi hi), (3, Vj f), (8, Vj r), (9, Vj c)]) (fun (c : Nat) => ((c = 2 * r + 1 ∨ c = 2 * r + 2) ∧ c < hi) ∧ ∀ c', c' = 2 * r + 1 ∨ c' = 2 * r + 2 → c' < hi → xl (zG m (f + c')) (zG m (f + c))) (fun (c : Nat) => [Res.vec 28 1 v m.length (m.flatMap U1)]) ?_ (fun c g hΦ => ?_))
   ·
    refine zM (zX [0] rfl (by decide) (by kernel_rfl) (fun w' hw hS => zE 0 rfl (zJ) hS (zE 1 rfl (xn rfl rfl (zt (by omega))) hS (zE 2 rfl (zJ) hS (zE 3 rfl (zEL rfl rfl) hS (zE 4 rfl (zJ) hS ?_))))))
    by_cases g3_4 : ((((2 * r) + 1) + 1 : Nat) : Int) < hi
    ·
     refine zj 5 rfl rfl (gT g3_4) (zJ) hS (zj 6 rfl rfl (gT g3_4) (zJ) hS (zj 7 rfl rfl (gT g3_4) (zJ) hS (zj 8 rfl rfl (gT g3_4) (xn rfl rfl (zt (by omega))) hS (zj 9 rfl rfl (gT g3_4) (z7 (pV 0 rfl) 1 (f + ((2 * r) + 1)) rfl rfl rfl (by omega)) hS (zj 10 rfl rfl (gT g3_4) (yQ (pV 0 rfl) 1 (f + ((2 * r) + 1)) 0 (fun _ => rfl) rfl rfl (by omega) rfl) hS (zj 11 rfl rfl (gT g3_4) (zJ) hS (zj 12 rfl rfl (gT g3_4) (zJ) hS (zj 13 rfl rfl (gT g3_4) (zJ) hS (zj 14 rfl rfl (gT g3_4) (xn rfl rfl (zt (by omega))) hS (zj 15 rfl rfl (gT g3_4) (xn rfl rfl (zt (by omega))) hS (zj 16 rfl rfl (gT g3_4) (z7 (pV 0 rfl) 1 ((f + ((2 * r) + 1)) + 1) rfl rfl rfl (by omega)) hS (zj 17 rfl rfl (gT g3_4) (yQ (pV 0 rfl) 1 ((f + ((2 * r) + 1)) + 1) 0 (fun _ => rfl) rfl rfl (by omega) rfl) hS ?_))))))))))))
     refine zZ 18 rfl hw (zV rfl (gT g3_4) (zQ rfl rfl (fun w' hw => (xM (zG m (f + ((2 * r) + 1))) (zG m ((f + ((2 * r) + 1)) + 1)) w').mono ?_)))
     rintro _ w1 ⟨rfl, hO⟩
     refine (?_ : CL _ _ _ _ _ _ (Own w S [Res.vec 28 1 v m.length (m.flatMap U1)])) w1 (hw.frame0 hO)
     refine zF [0] rfl (by decide) (fun w' hw hS => zE 19 rfl (xe (gT g3_4)) hS (zK ?_))
     refine (?_ : C _ _ _ _ _ _ _ (Own w S [Res.vec 28 1 v m.length (m.flatMap U1)])) _ hw
     refine zU rfl (fun c2 => ?_) (fun c2 => ?_)
     ·
      refine zg (zC rfl (zw rfl rfl (zt (by omega)) rfl (zH rfl ?_)))
      exact zf (fun w' hw => ⟨2 * r + 1 + 1, ⟨rfl, rfl, rfl, rfl, rfl, trivial⟩, ⟨⟨by omega, by omega⟩, zJQ c2⟩, hw⟩)
     ·
      exact xS (fun w' hw => ⟨2 * r + 1, ⟨rfl, rfl, rfl, rfl, rfl, trivial⟩, ⟨⟨by omega, by omega⟩, zFo (fun _ => c2)⟩, hw⟩)
    ·
     refine ze 5 rfl rfl (gF g3_4) rfl hS (ze 6 rfl rfl (gF g3_4) rfl hS (ze 7 rfl rfl (gF g3_4) rfl hS (ze 8 rfl rfl (gF g3_4) rfl hS (ze 9 rfl rfl (gF g3_4) rfl hS (ze 10 rfl rfl (gF g3_4) rfl hS (ze 11 rfl rfl (gF g3_4) rfl hS (ze 12 rfl rfl (gF g3_4) rfl hS (ze 13 rfl rfl (gF g3_4) rfl hS (ze 14 rfl rfl (gF g3_4) rfl hS (ze 15 rfl rfl (gF g3_4) rfl hS (ze 16 rfl rfl (gF g3_4) rfl hS (ze 17 rfl rfl (gF g3_4) rfl hS ?_))))))))))))
     refine ze 18 rfl rfl (gF g3_4) rfl hS (zE 19 rfl (xg (gF g3_4)) hS (zK ?_))
     refine (?_ : C _ _ _ _ _ _ _ (Own w S [Res.vec 28 1 v m.length (m.flatMap U1)])) _ hw
     refine xm rfl ?_
     exact xS (fun w' hw => ⟨2 * r + 1, ⟨rfl, rfl, rfl, rfl, rfl, trivial⟩, ⟨⟨by omega, by omega⟩, zFo (fun h => absurd h (by omega))⟩, hw⟩)
   have hc := hΦ.1
   have hmx := hΦ.2
   refine zM (zM (zX [0] rfl (by decide) (by kernel_rfl) (fun w' hw hS => zE 0 rfl (zJ) hS (zE 1 rfl (zJ) hS (zE 2 rfl (zJ) hS (zE 3 rfl (xn rfl rfl (zt (by omega))) hS (zE 4 rfl (z7 (pV 0 rfl) 1 (f + r) rfl rfl rfl (by omega)) hS (zE 5 rfl (yQ (pV 0 rfl) 1 (f + r) 0 (fun _ => rfl) rfl rfl (by omega) rfl) hS (zE 6 rfl (zJ) hS (zE 7 rfl (zJ) hS (zE 8 rfl (zJ) hS (zE 9 rfl (xn rfl rfl (zt (by omega))) hS ?_))))))))))))
   refine zE 10 rfl (z7 (pV 0 rfl) 1 (f + c) rfl rfl rfl (by omega)) hS (zE 11 rfl (yQ (pV 0 rfl) 1 (f + c) 0 (fun _ => rfl) rfl rfl (by omega) rfl) hS (zZ 12 rfl hw (zQ rfl rfl (fun w' hw => (xM (zG m (f + r)) (zG m (f + c)) w').mono ?_))))
   rintro _ w1 ⟨rfl, hO⟩
   refine (?_ : CL _ _ _ _ _ _ (Own w S [Res.vec 28 1 v m.length (m.flatMap U1)])) w1 (hw.frame0 hO)
   refine zF [0] rfl (by decide) (fun w' hw hS => zE 13 rfl (kz (q := olt (zG m (f + r)) (zG m (f + c))) rfl) hS (zK ?_))
   refine (?_ : C _ _ _ _ _ _ _ (Own w S [Res.vec 28 1 v m.length (m.flatMap U1)])) _ hw
   refine zU rfl (fun c4 => ?_) (fun c4 => ?_)
   ·
    exact zR (ji rfl (fun w' hw => ⟨m, rfl, hSm, hX.done (fun c' h1 h2 => y5 (hmx c' h1 h2) c4), hw⟩))
   ·
    refine zL (yJ (fun (n : List Nat) => [(0, v), (2, Vi hi), (3, Vj f), (9, Vj c)]) (fun (n : List Nat) => n = z8 m (f + r) (f + c)) (fun (n : List Nat) => [Res.vec 28 1 v n.length (n.flatMap U1)]) ?_ (fun n g hΦ => ?_))
    ·
     refine zX [] rfl (by decide) (by kernel_rfl) (fun w' hw hS => zE 0 rfl (zJ) hS (zE 1 rfl (zJ) hS (zE 2 rfl (zJ) hS (zE 3 rfl (xn rfl rfl (zt (by omega))) hS (zE 4 rfl (zJ) hS (zE 5 rfl (zJ) hS (zE 6 rfl (zJ) hS (zE 7 rfl (xn rfl rfl (zt (by omega))) hS (zE 8 rfl (zJ) hS (zE 9 rfl (zJ) hS (zE 10 rfl (zJ) hS (zE 11 rfl (xn rfl rfl (zt (by omega))) hS ?_))))))))))))
     refine zE 14 rfl (zJ) hS (zE 15 rfl (zJ) hS (zE 16 rfl (zJ) hS (zE 17 rfl (xn rfl rfl (zt (by omega))) hS (zT 12 18 ?_ ?_))))
     ·
      refine zP 12 rfl hw (zD (pV 0 rfl) 1 (f + c) rfl rfl rfl (by omega) rfl (zF [] rfl (by decide) (fun w' hw hS => zT 13 18 ?_ ?_)))
      ·
       refine zP 13 rfl hw (zN (pV 0 rfl) 1 (f + c) 0 (fun _ => rfl) rfl rfl (by omega) rfl rfl (zI 18 rfl (zD (pV 0 rfl) 1 (f + r) rfl rfl rfl (by omega) rfl (zI 19 rfl (zN (pV 0 rfl) 1 (f + r) 0 (fun _ => rfl) rfl rfl (by omega) rfl rfl (zI 20 rfl (zD (pV 0 rfl) 1 (f + r) rfl rfl rfl (by omega) rfl (zI 21 rfl ?_))))))))
       refine zO 0 (f + r) (zG m (f + c)) rfl (fun _ => rfl) rfl (by omega) rfl rfl rfl (by omega) (zI 22 rfl (zD (pV 0 rfl) 1 (f + c) rfl rfl rfl (by simp only [List.length_set]; omega) rfl (zI 23 rfl (zO 0 (f + c) (zG m (f + r)) rfl (fun _ => rfl) rfl (by omega) rfl rfl rfl (by simp only [List.length_set]; omega) (zF [] rfl (by decide) (fun w' hw hS => zK ?_))))))
       exact ⟨z8 m (f + r) (f + c), ⟨rfl, rfl, rfl, rfl, trivial⟩, rfl, hw⟩
      ·
       refine zP 18 rfl hw (zD (pV 0 rfl) 1 (f + r) rfl rfl rfl (by omega) rfl (zF [] rfl (by decide) (fun w' hw hS => zT 13 19 ?_ ?_)))
       ·
        refine zP 13 rfl hw (zN (pV 0 rfl) 1 (f + c) 0 (fun _ => rfl) rfl rfl (by omega) rfl rfl (zI 19 rfl (zN (pV 0 rfl) 1 (f + r) 0 (fun _ => rfl) rfl rfl (by omega) rfl rfl (zI 20 rfl (zD (pV 0 rfl) 1 (f + r) rfl rfl rfl (by omega) rfl (zI 21 rfl (zO 0 (f + r) (zG m (f + c)) rfl (fun _ => rfl) rfl (by omega) rfl rfl rfl (by omega) (zI 22 rfl ?_))))))))
        refine zD (pV 0 rfl) 1 (f + c) rfl rfl rfl (by simp only [List.length_set]; omega) rfl (zI 23 rfl (zO 0 (f + c) (zG m (f + r)) rfl (fun _ => rfl) rfl (by omega) rfl rfl rfl (by simp only [List.length_set]; omega) (zF [] rfl (by decide) (fun w' hw hS => zK ?_))))
        exact ⟨z8 m (f + r) (f + c), ⟨rfl, rfl, rfl, rfl, trivial⟩, rfl, hw⟩
       ·
        refine zP 19 rfl hw (zN (pV 0 rfl) 1 (f + r) 0 (fun _ => rfl) rfl rfl (by omega) rfl rfl (zI 13 rfl (zN (pV 0 rfl) 1 (f + c) 0 (fun _ => rfl) rfl rfl (by omega) rfl rfl (zI 20 rfl (zD (pV 0 rfl) 1 (f + r) rfl rfl rfl (by omega) rfl (zI 21 rfl (zO 0 (f + r) (zG m (f + c)) rfl (fun _ => rfl) rfl (by omega) rfl rfl rfl (by omega) (zI 22 rfl ?_))))))))
        refine zD (pV 0 rfl) 1 (f + c) rfl rfl rfl (by simp only [List.length_set]; omega) rfl (zI 23 rfl (zO 0 (f + c) (zG m (f + r)) rfl (fun _ => rfl) rfl (by omega) rfl rfl rfl (by simp only [List.length_set]; omega) (zF [] rfl (by decide) (fun w' hw hS => zK ?_))))
        exact ⟨z8 m (f + r) (f + c), ⟨rfl, rfl, rfl, rfl, trivial⟩, rfl, hw⟩
     ·
      refine zP 18 rfl hw (zD (pV 0 rfl) 1 (f + r) rfl rfl rfl (by omega) rfl (zF [] rfl (by decide) (fun w' hw hS => zT 12 19 ?_ ?_)))
      ·
       refine zP 12 rfl hw (zD (pV 0 rfl) 1 (f + c) rfl rfl rfl (by omega) rfl (zF [] rfl (by decide) (fun w' hw hS => zT 13 19 ?_ ?_)))
       ·
        refine zP 13 rfl hw (zN (pV 0 rfl) 1 (f + c) 0 (fun _ => rfl) rfl rfl (by omega) rfl rfl (zI 19 rfl (zN (pV 0 rfl) 1 (f + r) 0 (fun _ => rfl) rfl rfl (by omega) rfl rfl (zI 20 rfl (zD (pV 0 rfl) 1 (f + r) rfl rfl rfl (by omega) rfl (zI 21 rfl (zO 0 (f + r) (zG m (f + c)) rfl (fun _ => rfl) rfl (by omega) rfl rfl rfl (by omega) (zI 22 rfl ?_))))))))
        refine zD (pV 0 rfl) 1 (f + c) rfl rfl rfl (by simp only [List.length_set]; omega) rfl (zI 23 rfl (zO 0 (f + c) (zG m (f + r)) rfl (fun _ => rfl) rfl (by omega) rfl rfl rfl (by simp only [List.length_set]; omega) (zF [] rfl (by decide) (fun w' hw hS => zK ?_))))
        exact ⟨z8 m (f + r) (f + c), ⟨rfl, rfl, rfl, rfl, trivial⟩, rfl, hw⟩
       ·
        refine zP 19 rfl hw (zN (pV 0 rfl) 1 (f + r) 0 (fun _ => rfl) rfl rfl (by omega) rfl rfl (zI 13 rfl (zN (pV 0 rfl) 1 (f + c) 0 (fun _ => rfl) rfl rfl (by omega) rfl rfl (zI 20 rfl (zD (pV 0 rfl) 1 (f + r) rfl rfl rfl (by omega) rfl (zI 21 rfl (zO 0 (f + r) (zG m (f + c)) rfl (fun _ => rfl) rfl (by omega) rfl rfl rfl (by omega) (zI 22 rfl ?_))))))))
        refine zD (pV 0 rfl) 1 (f + c) rfl rfl rfl (by simp only [List.length_set]; omega) rfl (zI 23 rfl (zO 0 (f + c) (zG m (f + r)) rfl (fun _ => rfl) rfl (by omega) rfl rfl rfl (by simp only [List.length_set]; omega) (zF [] rfl (by decide) (fun w' hw hS => zK ?_))))
        exact ⟨z8 m (f + r) (f + c), ⟨rfl, rfl, rfl, rfl, trivial⟩, rfl, hw⟩
      ·
       refine zP 19 rfl hw (zN (pV 0 rfl) 1 (f + r) 0 (fun _ => rfl) rfl rfl (by omega) rfl rfl (zI 12 rfl (zD (pV 0 rfl) 1 (f + c) rfl rfl rfl (by omega) rfl (zI 13 rfl (zN (pV 0 rfl) 1 (f + c) 0 (fun _ => rfl) rfl rfl (by omega) rfl rfl (zI 20 rfl (zD (pV 0 rfl) 1 (f + r) rfl rfl rfl (by omega) rfl (zI 21 rfl ?_))))))))
       refine zO 0 (f + r) (zG m (f + c)) rfl (fun _ => rfl) rfl (by omega) rfl rfl rfl (by omega) (zI 22 rfl (zD (pV 0 rfl) 1 (f + c) rfl rfl rfl (by simp only [List.length_set]; omega) rfl (zI 23 rfl (zO 0 (f + c) (zG m (f + r)) rfl (fun _ => rfl) rfl (by omega) rfl rfl rfl (by simp only [List.length_set]; omega) (zF [] rfl (by decide) (fun w' hw hS => zK ?_))))))
       exact ⟨z8 m (f + r) (f + c), ⟨rfl, rfl, rfl, rfl, trivial⟩, rfl, hw⟩
    have hn := hΦ
    refine zg (zC rfl (zH rfl ?_))
    exact zf (fun w' hw => ⟨c, n, ⟨rfl, rfl, rfl, rfl, trivial⟩, ⟨⟨by omega, by omega⟩, by rw [hn]; exact hSm.then_swp ⟨by omega, by omega⟩ ⟨by omega, by omega⟩ hh, by rw [hn]; exact hX.step hr.1 hc.1 hc.2 (by omega) hmx (Decidable.not_not.1 c4)⟩, hw, (by omega)⟩)
theorem zDg {S : List Nat} (v : Value) (l : List Nat) (a b : Nat) (w : World) (ha : a < b) (hb : b ≤ l.length) (hl : zx l.length) (hin : Own w S [Res.vec 28 1 v l.length (l.flatMap U1)] w) : Rets Try.prog 47 #[v, Vj a, Vj b] w fun u_ w' => ∃ (l' : List Nat), u_ = .tuple #[] ∧ Same a b l l' ∧ Up a b l' ∧ Own w S [Res.vec 28 1 v l'.length (l'.flatMap U1)] w' := by
  refine zh Try.func47 rfl Try.ntmps47 hin ?_
  refine zB (zC rfl (zH rfl (zA (zB (zH rfl (zA (zB (zC rfl (zC rfl (z9 (c := ((b - a : Nat) : Int)) rfl rfl (wsi (by omega) (by omega)) rfl (zH rfl (zA ?_))))))))))))
  refine zM (zB (zC rfl (z9 (c := ((b - a - 1 : Nat) : Int)) rfl rfl (xV (by omega) (by omega)) rfl (j0 (c := (((b - a - 1) / 2 : Nat) : Int)) rfl rfl (by decide) (qui (b := 2) (by omega)) rfl (zH rfl (zA (zS ?_)))))))
  refine y4 (fun (i : Nat) (m : List Nat) => [(0, v), (6, Vj a), (7, Vi 0), (8, Vj (b - a)), (9, Vi (((i : Nat) : Int) - 1))]) (fun (i : Nat) (m : List Nat) => i ≤ (b - a - 1) / 2 + 1 ∧ Same a b l m ∧ Hp i (b - a) a m) (fun (i : Nat) (m : List Nat) => [Res.vec 28 1 v m.length (m.flatMap U1)]) (fun (i : Nat) (m : List Nat) => i) (fun w' hw => ⟨(b - a - 1) / 2 + 1, l, ⟨rfl, rfl, rfl, rfl, vi (by omega), trivial⟩, ⟨Nat.le_refl _, Same.refl _ _ _, Hp.none (by omega)⟩, hw⟩) (fun i m g hΦ => ?_)
  have hml := hΦ.2.1.len
  have hi1 := hΦ.1
  have hSm := hΦ.2.1
  have hH := hΦ.2.2
  refine zM (zB (zC rfl (yY rfl rfl rfl (zA (zU rfl (fun c1 => ?_) (fun c1 => ?_))))))
  ·
   refine zL (zM (zS (zg (zC rfl (zC rfl (zC rfl (zC rfl (zQ rfl rfl (fun w' hw => (zF3 v m (((i : Nat) : Int) - 1) ((b - a : Nat) : Int) a w' (by omega) (by omega) (by first | assumption | omega | (simp <;> omega) | (constructor <;> (first | omega | (simp only [zx]; omega) | (simp <;> omega)))) (by rw [show (((i : Nat) : Int) - 1).toNat + 1 = i by omega, Int.toNat_natCast]; exact hH) (hw.give [0] rfl (by decide))).mono ?_)))))))))
   rintro _ w1 ⟨l'1_, rfl, hf6_4, hf6_4_1, hO⟩
   have q2 : Hp (i - 1) (b - a) a l'1_ := (by have h := hf6_4_1; rwa [show (((i : Nat) : Int) - 1).toNat = i - 1 by omega, Int.toNat_natCast] at h)
   refine (?_ : CL _ _ _ _ _ _ (Own w S [Res.vec 28 1 v l'1_.length (l'1_.flatMap U1)])) w1 (hw.frameL [0] rfl hO)
   refine zA (zg (zC rfl (z9 rfl rfl (zt (by omega)) rfl (zH rfl ?_))))
   exact zf (fun w' hw => ⟨i - 1, l'1_, ⟨rfl, rfl, rfl, rfl, vi (by omega), trivial⟩, ⟨by omega, hSm.trans (hf6_4.wide (by omega) (by omega)), q2⟩, hw, (by omega)⟩)
  ·
   refine yA rfl (zB (zC rfl (z9 rfl rfl (zt (by omega)) rfl (zH rfl (zA (zS ?_))))))
   refine y4 (fun (i : Nat) (m : List Nat) => [(0, v), (6, Vj a), (7, Vi 0), (10, Vi (((i : Nat) : Int) - 1))]) (fun (i : Nat) (m : List Nat) => i ≤ b - a ∧ Same a b l m ∧ HpUp i (b - a) a m) (fun (i : Nat) (m : List Nat) => [Res.vec 28 1 v m.length (m.flatMap U1)]) (fun (i : Nat) (m : List Nat) => i) (fun w' hw => ⟨b - a, m, ⟨rfl, rfl, rfl, rfl, trivial⟩, ⟨Nat.le_refl _, hSm, HpUp.start (by have h0 : i = 0 := (by omega); rw [h0] at hH; exact hH)⟩, hw⟩) (fun i m g hΦ => ?_)
   have hml2 := hΦ.2.1.len
   have hi2 := hΦ.1
   have hS2 := hΦ.2.1
   have hU2 := hΦ.2.2
   refine zM (zB (zC rfl (yY rfl rfl rfl (zA (zU rfl (fun c2 => ?_) (fun c2 => ?_))))))
   ·
    have hU3 : HpUp (i - 1 + 1) (b - a) a m := by rw [show i - 1 + 1 = i by omega]; exact hU2
    have hsw := hU3.swap (by omega) (by omega)
    refine zL (zM (zS (yJ (fun (n : List Nat) => [(0, v), (6, Vj a), (7, Vi 0), (10, Vi (((i : Nat) : Int) - 1))]) (fun (n : List Nat) => n = z8 m a (a + (i - 1))) (fun (n : List Nat) => [Res.vec 28 1 v n.length (n.flatMap U1)]) ?_ (fun n g hΦ => ?_))))
    ·
     refine zX [] rfl (by decide) (by kernel_rfl) (fun w' hw hS => zE 0 rfl (zJ) hS (zE 1 rfl (zJ) hS (zE 2 rfl (zJ) hS (zE 3 rfl (zJ) hS (zE 4 rfl (zJ) hS (zE 5 rfl (xn (c := ((a + (i - 1) : Nat) : Int)) rfl rfl (by rw [show ((a : Nat) : Int) + (((i : Nat) : Int) - 1) = ((a + (i - 1) : Nat) : Int) by omega]; exact zt (by omega))) hS (zE 6 rfl (zJ) hS (zE 7 rfl (zJ) hS (zE 8 rfl (zJ) hS (zE 9 rfl (xn (c := ((a + (i - 1) : Nat) : Int)) rfl rfl (by rw [show ((a : Nat) : Int) + (((i : Nat) : Int) - 1) = ((a + (i - 1) : Nat) : Int) by omega]; exact zt (by omega))) hS (zE 12 rfl (zJ) hS (zE 13 rfl (zJ) hS ?_))))))))))))
     refine zT 10 14 ?_ ?_
     ·
      refine zP 10 rfl hw (zD (pV 0 rfl) 1 (a + (i - 1)) rfl rfl rfl (by omega) rfl (zF [] rfl (by decide) (fun w' hw hS => zT 11 14 ?_ ?_)))
      ·
       refine zP 11 rfl hw (zN (pV 0 rfl) 1 (a + (i - 1)) 0 (fun _ => rfl) rfl rfl (by omega) rfl rfl (zI 14 rfl (zD (pV 0 rfl) 1 a rfl rfl rfl (by omega) rfl (zI 15 rfl (zN (pV 0 rfl) 1 a 0 (fun _ => rfl) rfl rfl (by omega) rfl rfl (zI 16 rfl (zD (pV 0 rfl) 1 a rfl rfl rfl (by omega) rfl (zI 17 rfl ?_))))))))
       refine zO 0 a (zG m (a + (i - 1))) rfl (fun _ => rfl) rfl (by omega) rfl rfl rfl (by omega) (zI 18 rfl (zD (pV 0 rfl) 1 (a + (i - 1)) rfl rfl rfl (by simp only [List.length_set]; omega) rfl (zI 19 rfl (zO 0 (a + (i - 1)) (zG m a) rfl (fun _ => rfl) rfl (by omega) rfl rfl rfl (by simp only [List.length_set]; omega) (zF [] rfl (by decide) (fun w' hw hS => zK ?_))))))
       exact ⟨z8 m a (a + (i - 1)), ⟨rfl, rfl, rfl, rfl, trivial⟩, rfl, hw⟩
      ·
       refine zP 14 rfl hw (zD (pV 0 rfl) 1 a rfl rfl rfl (by omega) rfl (zF [] rfl (by decide) (fun w' hw hS => zT 11 15 ?_ ?_)))
       ·
        refine zP 11 rfl hw (zN (pV 0 rfl) 1 (a + (i - 1)) 0 (fun _ => rfl) rfl rfl (by omega) rfl rfl (zI 15 rfl (zN (pV 0 rfl) 1 a 0 (fun _ => rfl) rfl rfl (by omega) rfl rfl (zI 16 rfl (zD (pV 0 rfl) 1 a rfl rfl rfl (by omega) rfl (zI 17 rfl (zO 0 a (zG m (a + (i - 1))) rfl (fun _ => rfl) rfl (by omega) rfl rfl rfl (by omega) (zI 18 rfl ?_))))))))
        refine zD (pV 0 rfl) 1 (a + (i - 1)) rfl rfl rfl (by simp only [List.length_set]; omega) rfl (zI 19 rfl (zO 0 (a + (i - 1)) (zG m a) rfl (fun _ => rfl) rfl (by omega) rfl rfl rfl (by simp only [List.length_set]; omega) (zF [] rfl (by decide) (fun w' hw hS => zK ?_))))
        exact ⟨z8 m a (a + (i - 1)), ⟨rfl, rfl, rfl, rfl, trivial⟩, rfl, hw⟩
       ·
        refine zP 15 rfl hw (zN (pV 0 rfl) 1 a 0 (fun _ => rfl) rfl rfl (by omega) rfl rfl (zI 11 rfl (zN (pV 0 rfl) 1 (a + (i - 1)) 0 (fun _ => rfl) rfl rfl (by omega) rfl rfl (zI 16 rfl (zD (pV 0 rfl) 1 a rfl rfl rfl (by omega) rfl (zI 17 rfl (zO 0 a (zG m (a + (i - 1))) rfl (fun _ => rfl) rfl (by omega) rfl rfl rfl (by omega) (zI 18 rfl ?_))))))))
        refine zD (pV 0 rfl) 1 (a + (i - 1)) rfl rfl rfl (by simp only [List.length_set]; omega) rfl (zI 19 rfl (zO 0 (a + (i - 1)) (zG m a) rfl (fun _ => rfl) rfl (by omega) rfl rfl rfl (by simp only [List.length_set]; omega) (zF [] rfl (by decide) (fun w' hw hS => zK ?_))))
        exact ⟨z8 m a (a + (i - 1)), ⟨rfl, rfl, rfl, rfl, trivial⟩, rfl, hw⟩
     ·
      refine zP 14 rfl hw (zD (pV 0 rfl) 1 a rfl rfl rfl (by omega) rfl (zF [] rfl (by decide) (fun w' hw hS => zT 10 15 ?_ ?_)))
      ·
       refine zP 10 rfl hw (zD (pV 0 rfl) 1 (a + (i - 1)) rfl rfl rfl (by omega) rfl (zF [] rfl (by decide) (fun w' hw hS => zT 11 15 ?_ ?_)))
       ·
        refine zP 11 rfl hw (zN (pV 0 rfl) 1 (a + (i - 1)) 0 (fun _ => rfl) rfl rfl (by omega) rfl rfl (zI 15 rfl (zN (pV 0 rfl) 1 a 0 (fun _ => rfl) rfl rfl (by omega) rfl rfl (zI 16 rfl (zD (pV 0 rfl) 1 a rfl rfl rfl (by omega) rfl (zI 17 rfl (zO 0 a (zG m (a + (i - 1))) rfl (fun _ => rfl) rfl (by omega) rfl rfl rfl (by omega) (zI 18 rfl ?_))))))))
        refine zD (pV 0 rfl) 1 (a + (i - 1)) rfl rfl rfl (by simp only [List.length_set]; omega) rfl (zI 19 rfl (zO 0 (a + (i - 1)) (zG m a) rfl (fun _ => rfl) rfl (by omega) rfl rfl rfl (by simp only [List.length_set]; omega) (zF [] rfl (by decide) (fun w' hw hS => zK ?_))))
        exact ⟨z8 m a (a + (i - 1)), ⟨rfl, rfl, rfl, rfl, trivial⟩, rfl, hw⟩
       ·
        refine zP 15 rfl hw (zN (pV 0 rfl) 1 a 0 (fun _ => rfl) rfl rfl (by omega) rfl rfl (zI 11 rfl (zN (pV 0 rfl) 1 (a + (i - 1)) 0 (fun _ => rfl) rfl rfl (by omega) rfl rfl (zI 16 rfl (zD (pV 0 rfl) 1 a rfl rfl rfl (by omega) rfl (zI 17 rfl (zO 0 a (zG m (a + (i - 1))) rfl (fun _ => rfl) rfl (by omega) rfl rfl rfl (by omega) (zI 18 rfl ?_))))))))
        refine zD (pV 0 rfl) 1 (a + (i - 1)) rfl rfl rfl (by simp only [List.length_set]; omega) rfl (zI 19 rfl (zO 0 (a + (i - 1)) (zG m a) rfl (fun _ => rfl) rfl (by omega) rfl rfl rfl (by simp only [List.length_set]; omega) (zF [] rfl (by decide) (fun w' hw hS => zK ?_))))
        exact ⟨z8 m a (a + (i - 1)), ⟨rfl, rfl, rfl, rfl, trivial⟩, rfl, hw⟩
      ·
       refine zP 15 rfl hw (zN (pV 0 rfl) 1 a 0 (fun _ => rfl) rfl rfl (by omega) rfl rfl (zI 10 rfl (zD (pV 0 rfl) 1 (a + (i - 1)) rfl rfl rfl (by omega) rfl (zI 11 rfl (zN (pV 0 rfl) 1 (a + (i - 1)) 0 (fun _ => rfl) rfl rfl (by omega) rfl rfl (zI 16 rfl (zD (pV 0 rfl) 1 a rfl rfl rfl (by omega) rfl (zI 17 rfl ?_))))))))
       refine zO 0 a (zG m (a + (i - 1))) rfl (fun _ => rfl) rfl (by omega) rfl rfl rfl (by omega) (zI 18 rfl (zD (pV 0 rfl) 1 (a + (i - 1)) rfl rfl rfl (by simp only [List.length_set]; omega) rfl (zI 19 rfl (zO 0 (a + (i - 1)) (zG m a) rfl (fun _ => rfl) rfl (by omega) rfl rfl rfl (by simp only [List.length_set]; omega) (zF [] rfl (by decide) (fun w' hw hS => zK ?_))))))
       exact ⟨z8 m a (a + (i - 1)), ⟨rfl, rfl, rfl, rfl, trivial⟩, rfl, hw⟩
    have hn := hΦ
    have hnl : n.length = m.length := by rw [hn, zCK]
    refine zg (zC rfl (zC rfl (zC rfl (zC rfl (zQ rfl rfl (fun w' hw => (zF3 v n 0 (((i : Nat) : Int) - 1) a w' (by omega) (by omega) (by first | assumption | omega | (simp <;> omega) | (constructor <;> (first | omega | (simp only [zx]; omega) | (simp <;> omega)))) (by rw [show (((i : Nat) : Int) - 1).toNat = i - 1 by omega, hn]; exact hsw.1) (hw.give [0] rfl (by decide))).mono ?_))))))
    rintro _ w1 ⟨l'2_, rfl, hf11_4, hf11_4_1, hO⟩
    have q3 : Hp 0 (i - 1) a l'2_ := (by have h := hf11_4_1; rwa [show (((i : Nat) : Int) - 1).toNat = i - 1 by omega] at h)
    have q4 : Same a (a + (i - 1)) n l'2_ := hf11_4.wide (by omega) (by omega)
    refine (?_ : CL _ _ _ _ _ _ (Own w S [Res.vec 28 1 v l'2_.length (l'2_.flatMap U1)])) w1 (hw.frameL [0] rfl hO)
    refine zA (zg (zC rfl (z9 rfl rfl (zt (by omega)) rfl (zH rfl ?_))))
    exact zf (fun w' hw => ⟨i - 1, l'2_, ⟨rfl, rfl, rfl, vi (by omega), trivial⟩, ⟨by omega, (hS2.then_swp ⟨by omega, by omega⟩ ⟨by omega, by omega⟩ hb).trans ((hn ▸ q4).wide (by omega) (by omega)), HpUp.sift hsw.2 q3 (hn ▸ q4) (by omega) (by rw [zCK]; omega)⟩, hw, (by omega)⟩)
   ·
    exact yU rfl (ji rfl (fun w' hw => ⟨m, rfl, hS2, (by have h := hU2.up; have h0 : i = 0 := (by omega); rw [h0, Nat.add_zero, show a + (b - a) = b by omega] at h; exact h), hw⟩))
end Go.Proofs.Ytcdiehplbmkmeaa
