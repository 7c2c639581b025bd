import Derived.Test.YthincafbmpialaaGreatFwU
import Derived.Test.YthincafbmpialaaGreatSrtB
import Derived.Test.YthincafbmpialaaGreatChecked
set_option linter.unusedSectionVars false
set_option linter.unusedSimpArgs false
set_option linter.unusedVariables false
set_option maxRecDepth 10000
namespace Go.Proofs.YthincafbmpialaaGreat
open Go Go.Sc Go.Proofs
theorem zM9 (x : Nat) (w : World) : Rets Tryz.prog 120 #[Vn x] w fun u_ w' => u_ = .bool false ∧ Own w [] [] w' := by
  refine zW Tryz.func120 rfl Tryz.ntmps120 (Own.start w) ?_
  refine zB (zD rfl (zA (zB (zC rfl (zC rfl (xn rfl rfl rfl (zD rfl (zA ?_))))))))
  exact zM (z6 (v := .bool (decide (((x : Nat) : Int) ≠ ((x : Nat) : Int)))) rfl rfl (fun w' hw => ⟨(by simp), hw.drop⟩))
theorem kJ (x y : Nat) (w : World) : Rets Tryz.prog 147 #[Vn x, Vn y] w fun u_ w' => u_ = .bool (decide (olt x y)) ∧ Own w [] [] w' := by
  refine zW Tryz.func147 rfl Tryz.ntmps147 (Own.start w) ?_
  refine zB (zD rfl (zA (zB (zC rfl (zJ rfl rfl (fun w' hw => (zM9 x w').mono ?_))))))
  rintro _ w1 ⟨rfl, hO⟩
  refine (?_ : CL _ _ _ _ _ _ (Own w [] [])) w1 (hw.frame0 hO)
  refine zC rfl (xU rfl rfl rfl rfl (xU rfl rfl rfl rfl (xU rfl rfl rfl rfl (kL rfl rfl (zC rfl (zO rfl rfl (zC rfl (zO rfl rfl (zC rfl (zO rfl rfl (yI rfl rfl rfl (kL rfl rfl ?_))))))))))))
  refine zD rfl (zA ?_)
  exact zM (z6 (v := .bool (decide (((x : Nat) : Int) < ((y : Nat) : Int)))) rfl rfl (fun w' hw => ⟨(by congr 1; exact decide_eq_decide.2 (Int.ofNat_lt)), hw.drop⟩))
theorem zF6 {S : List Nat} (v : Value) (l : List Nat) (a b : Nat) (w : World) (ha : a ≤ b) (hb : b ≤ l.length) (hl : zb l.length) (hin : Own w S [Res.vec 28 1 v l.length (l.flatMap U1)] w) : Rets Tryz.prog 145 #[v, Vj a, Vj b] w fun u_ w' => ∃ (l' : List Nat), u_ = .tuple #[] ∧ Same a b l l' ∧ Own w S [Res.vec 28 1 v l'.length (l'.flatMap U1)] w' := by
  refine zW Tryz.func145 rfl Tryz.ntmps145 hin ?_
  refine zB (zC rfl (zD rfl (zA (zB (zC rfl (yX rfl rfl (zr (by omega)) rfl (zD rfl (zA (zT ?_)))))))))
  refine xS (fun (i j : Nat) (m : List Nat) => [(0, v), (6, Vj i), (7, Vi (((j : Nat) : Int) - 1))]) (fun (i j : Nat) (m : List Nat) => (a ≤ i ∧ j ≤ b) ∧ Same a b l m) (fun (i j : Nat) (m : List Nat) => [Res.vec 28 1 v m.length (m.flatMap U1)]) (fun (i j : Nat) (m : List Nat) => j - i) (fun w' hw => ⟨a, b, l, ⟨rfl, rfl, rfl, trivial⟩, ⟨⟨Nat.le_refl _, Nat.le_refl _⟩, Same.refl _ _ _⟩, hw⟩) (fun i j m g hΦ => ?_)
  have hml := hΦ.2.len
  have hSm := hΦ.2
  have hij := hΦ.1
  refine zL (zB (zC rfl (zC rfl (yI rfl rfl rfl (zA (zU rfl (fun c1 => ?_) (fun c1 => ?_)))))))
  ·
   refine zK (zT (xB (fun (n : List Nat) => [(0, v), (6, Vj i), (7, Vi (((j : Nat) : Int) - 1))]) (fun (n : List Nat) => n = yp m i (j - 1)) (fun (n : List Nat) => [Res.vec 28 1 v n.length (n.flatMap U1)]) ?_ (fun n g hΦ => ?_)))
   ·
    refine zg [] rfl (by decide) (by kernel_rfl) (fun w' hw hS => zF 0 rfl (zQ) hS (zF 1 rfl (zQ) hS (zF 2 rfl (zQ) hS (zF 3 rfl (zQ) hS (zF 4 rfl (zQ) hS (zF 5 rfl (zQ) hS (zF 8 rfl (zQ) hS (zF 9 rfl (zQ) hS (zk 6 10 ?_ ?_)))))))))
    ·
     refine zX 6 rfl hw (zH (pV 0 rfl) 1 (j - 1) rfl rfl (by omega) (by omega) rfl (zG [] rfl (by decide) (fun w' hw hS => zk 7 10 ?_ ?_)))
     ·
      refine zX 7 rfl hw (zV (pV 0 rfl) 1 (j - 1) 0 (fun _ => rfl) rfl rfl (by omega) rfl rfl (zN 10 rfl (zH (pV 0 rfl) 1 i rfl rfl rfl (by omega) rfl (zN 11 rfl (zV (pV 0 rfl) 1 i 0 (fun _ => rfl) rfl rfl (by omega) rfl rfl (zN 12 rfl (zH (pV 0 rfl) 1 i rfl rfl rfl (by omega) rfl (zN 13 rfl ?_))))))))
      refine za 0 i (zI m (j - 1)) rfl (fun _ => rfl) rfl (by omega) rfl rfl rfl (by omega) (zN 14 rfl (zH (pV 0 rfl) 1 (j - 1) rfl rfl (by omega) (by simp; omega) rfl (zN 15 rfl (za 0 (j - 1) (zI m i) rfl (fun _ => rfl) rfl (by omega) rfl rfl rfl (by simp; omega) (zG [] rfl (by decide) (fun w' hw hS => zR ?_))))))
      exact ⟨yp m i (j - 1), ⟨rfl, rfl, rfl, trivial⟩, rfl, hw⟩
     ·
      refine zX 10 rfl hw (zH (pV 0 rfl) 1 i rfl rfl rfl (by omega) rfl (zG [] rfl (by decide) (fun w' hw hS => zk 7 11 ?_ ?_)))
      ·
       refine zX 7 rfl hw (zV (pV 0 rfl) 1 (j - 1) 0 (fun _ => rfl) rfl rfl (by omega) rfl rfl (zN 11 rfl (zV (pV 0 rfl) 1 i 0 (fun _ => rfl) rfl rfl (by omega) rfl rfl (zN 12 rfl (zH (pV 0 rfl) 1 i rfl rfl rfl (by omega) rfl (zN 13 rfl (za 0 i (zI m (j - 1)) rfl (fun _ => rfl) rfl (by omega) rfl rfl rfl (by omega) (zN 14 rfl ?_))))))))
       refine zH (pV 0 rfl) 1 (j - 1) rfl rfl (by omega) (by simp; omega) rfl (zN 15 rfl (za 0 (j - 1) (zI m i) rfl (fun _ => rfl) rfl (by omega) rfl rfl rfl (by simp; omega) (zG [] rfl (by decide) (fun w' hw hS => zR ?_))))
       exact ⟨yp m i (j - 1), ⟨rfl, rfl, rfl, trivial⟩, rfl, hw⟩
      ·
       refine zX 11 rfl hw (zV (pV 0 rfl) 1 i 0 (fun _ => rfl) rfl rfl (by omega) rfl rfl (zN 7 rfl (zV (pV 0 rfl) 1 (j - 1) 0 (fun _ => rfl) rfl rfl (by omega) rfl rfl (zN 12 rfl (zH (pV 0 rfl) 1 i rfl rfl rfl (by omega) rfl (zN 13 rfl (za 0 i (zI m (j - 1)) rfl (fun _ => rfl) rfl (by omega) rfl rfl rfl (by omega) (zN 14 rfl ?_))))))))
       refine zH (pV 0 rfl) 1 (j - 1) rfl rfl (by omega) (by simp; omega) rfl (zN 15 rfl (za 0 (j - 1) (zI m i) rfl (fun _ => rfl) rfl (by omega) rfl rfl rfl (by simp; omega) (zG [] rfl (by decide) (fun w' hw hS => zR ?_))))
       exact ⟨yp m i (j - 1), ⟨rfl, rfl, rfl, trivial⟩, rfl, hw⟩
    ·
     refine zX 10 rfl hw (zH (pV 0 rfl) 1 i rfl rfl rfl (by omega) rfl (zG [] rfl (by decide) (fun w' hw hS => zk 6 11 ?_ ?_)))
     ·
      refine zX 6 rfl hw (zH (pV 0 rfl) 1 (j - 1) rfl rfl (by omega) (by omega) rfl (zG [] rfl (by decide) (fun w' hw hS => zk 7 11 ?_ ?_)))
      ·
       refine zX 7 rfl hw (zV (pV 0 rfl) 1 (j - 1) 0 (fun _ => rfl) rfl rfl (by omega) rfl rfl (zN 11 rfl (zV (pV 0 rfl) 1 i 0 (fun _ => rfl) rfl rfl (by omega) rfl rfl (zN 12 rfl (zH (pV 0 rfl) 1 i rfl rfl rfl (by omega) rfl (zN 13 rfl (za 0 i (zI m (j - 1)) rfl (fun _ => rfl) rfl (by omega) rfl rfl rfl (by omega) (zN 14 rfl ?_))))))))
       refine zH (pV 0 rfl) 1 (j - 1) rfl rfl (by omega) (by simp; omega) rfl (zN 15 rfl (za 0 (j - 1) (zI m i) rfl (fun _ => rfl) rfl (by omega) rfl rfl rfl (by simp; omega) (zG [] rfl (by decide) (fun w' hw hS => zR ?_))))
       exact ⟨yp m i (j - 1), ⟨rfl, rfl, rfl, trivial⟩, rfl, hw⟩
      ·
       refine zX 11 rfl hw (zV (pV 0 rfl) 1 i 0 (fun _ => rfl) rfl rfl (by omega) rfl rfl (zN 7 rfl (zV (pV 0 rfl) 1 (j - 1) 0 (fun _ => rfl) rfl rfl (by omega) rfl rfl (zN 12 rfl (zH (pV 0 rfl) 1 i rfl rfl rfl (by omega) rfl (zN 13 rfl (za 0 i (zI m (j - 1)) rfl (fun _ => rfl) rfl (by omega) rfl rfl rfl (by omega) (zN 14 rfl ?_))))))))
       refine zH (pV 0 rfl) 1 (j - 1) rfl rfl (by omega) (by simp; omega) rfl (zN 15 rfl (za 0 (j - 1) (zI m i) rfl (fun _ => rfl) rfl (by omega) rfl rfl rfl (by simp; omega) (zG [] rfl (by decide) (fun w' hw hS => zR ?_))))
       exact ⟨yp m i (j - 1), ⟨rfl, rfl, rfl, trivial⟩, rfl, hw⟩
     ·
      refine zX 11 rfl hw (zV (pV 0 rfl) 1 i 0 (fun _ => rfl) rfl rfl (by omega) rfl rfl (zN 6 rfl (zH (pV 0 rfl) 1 (j - 1) rfl rfl (by omega) (by omega) rfl (zN 7 rfl (zV (pV 0 rfl) 1 (j - 1) 0 (fun _ => rfl) rfl rfl (by omega) rfl rfl (zN 12 rfl (zH (pV 0 rfl) 1 i rfl rfl rfl (by omega) rfl (zN 13 rfl ?_))))))))
      refine za 0 i (zI m (j - 1)) rfl (fun _ => rfl) rfl (by omega) rfl rfl rfl (by omega) (zN 14 rfl (zH (pV 0 rfl) 1 (j - 1) rfl rfl (by omega) (by simp; omega) rfl (zN 15 rfl (za 0 (j - 1) (zI m i) rfl (fun _ => rfl) rfl (by omega) rfl rfl rfl (by simp; omega) (zG [] rfl (by decide) (fun w' hw hS => zR ?_))))))
      exact ⟨yp m i (j - 1), ⟨rfl, rfl, rfl, trivial⟩, rfl, hw⟩
   have hn := hΦ
   refine zB (zC rfl (zt rfl rfl (zr (by omega)) rfl (zD rfl (zA (zd (zC rfl (yX rfl rfl (zr (by omega)) rfl (zD rfl ?_))))))))
   exact zj (fun w' hw => ⟨i + 1, j - 1, n, ⟨rfl, rfl, vi (by omega), trivial⟩, ⟨⟨by omega, by omega⟩, by rw [hn]; exact hSm.then_swp ⟨by omega, by omega⟩ ⟨by omega, by omega⟩ hb⟩, hw, (by omega)⟩)
  ·
   exact xA rfl (jq rfl (fun w' hw => ⟨m, rfl, hΦ.2, hw⟩))
theorem zHN {S : List Nat} (v : Value) (l : List Nat) (a b : Nat) (w : World) (ha : a ≤ b) (hb : b ≤ l.length) (hl : zb l.length) (hin : Own w S [Res.vec 28 1 v l.length (l.flatMap U1)] w) : Rets Tryz.prog 141 #[v, Vj a, Vj b] w fun u_ w' => ∃ (l' : List Nat), u_ = .tuple #[] ∧ Same a b l l' ∧ Up a b l' ∧ Own w S [Res.vec 28 1 v l'.length (l'.flatMap U1)] w' := by
  refine zW Tryz.func141 rfl Tryz.ntmps141 hin ?_
  refine zB (zC rfl (zt rfl rfl (zr (by omega)) rfl (zD rfl (zA (zT ?_)))))
  refine xT (fun (i : Nat) (m : List Nat) => [(0, v), (1, Vj a), (2, Vj b), (6, Vj i)]) (fun (i : Nat) (m : List Nat) => (a + 1 ≤ i ∧ (i ≤ b ∨ i = a + 1)) ∧ Same a b l m ∧ Up a i m) (fun (i : Nat) (m : List Nat) => [Res.vec 28 1 v m.length (m.flatMap U1)]) (fun (i : Nat) (m : List Nat) => b + 1 - i) (fun w' hw => ⟨a + 1, l, ⟨rfl, rfl, rfl, rfl, trivial⟩, ⟨⟨by omega, .inr rfl⟩, Same.refl _ _ _, Up.one (by omega)⟩, hw⟩) (fun i m g hΦ => ?_)
  have hml := hΦ.2.1.len
  have hi1 := hΦ.1
  have hU := hΦ.2.2
  have hS1 := hΦ.2.1
  refine zL (zB (zC rfl (zC rfl (yI rfl rfl rfl (zA (zU rfl (fun c1 => ?_) (fun c1 => ?_)))))))
  ·
   refine zK (zL (zT (zB (zC rfl (zD rfl (zA (zT ?_)))))))
   refine xT (fun (j : Nat) (q : List Nat) => [(0, v), (1, Vj a), (2, Vj b), (6, Vj i), (7, Vj j)]) (fun (j : Nat) (q : List Nat) => (a ≤ j ∧ j ≤ i) ∧ Same a b l q ∧ Ins a i j q) (fun (j : Nat) (q : List Nat) => [Res.vec 28 1 v q.length (q.flatMap U1)]) (fun (j : Nat) (q : List Nat) => j) (fun w' hw => ⟨i, m, ⟨rfl, rfl, rfl, rfl, rfl, trivial⟩, ⟨⟨by omega, by omega⟩, hS1, Ins.start hU⟩, hw⟩) (fun j q g hΦ => ?_)
   have hql := hΦ.2.1.len
   have hj1 := hΦ.1
   have hS2 := hΦ.2.1
   have hI2 := hΦ.2.2
   refine zL (zL (zg [0] rfl (by decide) (by kernel_rfl) (fun w' hw hS => zF 0 rfl (zQ) hS (zF 1 rfl (zQ) hS (zF 2 rfl (zBO rfl rfl) hS (zF 3 rfl (zQ) hS ?_))))))
   by_cases g4_3 : ((a : Nat) : Int) < ((j : Nat) : Int)
   ·
    refine zl 4 rfl rfl (gT g4_3) (zQ) hS (zl 5 rfl rfl (gT g4_3) (zQ) hS (zl 6 rfl rfl (gT g4_3) (yR (pV 0 rfl) 1 j rfl rfl rfl (by omega)) hS (zl 7 rfl rfl (gT g4_3) (yq (pV 0 rfl) 1 j 0 (fun _ => rfl) rfl rfl (by omega) rfl) hS (zl 8 rfl rfl (gT g4_3) (zQ) hS (zl 9 rfl rfl (gT g4_3) (zQ) hS (zl 10 rfl rfl (gT g4_3) (kc (c := ((j - 1 : Nat) : Int)) rfl rfl (kO (by omega) (by omega))) hS (zl 11 rfl rfl (gT g4_3) (yR (pV 0 rfl) 1 (j - 1) rfl rfl rfl (by omega)) hS (zl 12 rfl rfl (gT g4_3) (yq (pV 0 rfl) 1 (j - 1) 0 (fun _ => rfl) rfl rfl (by omega) rfl) hS (zY 13 rfl hw (zO rfl (gT g4_3) (zJ rfl rfl (fun w' hw => (kJ (zI q j) (zI q (j - 1)) w').mono ?_))))))))))))
    rintro _ w1 ⟨rfl, hO⟩
    refine (?_ : CL _ _ _ _ _ _ (Own w S [Res.vec 28 1 v q.length (q.flatMap U1)])) w1 (hw.frame0 hO)
    refine zG [0] rfl (by decide) (fun w' hw hS => zF 14 rfl (y5 (gT g4_3)) hS (zR ?_))
    refine (?_ : C _ _ _ _ _ _ _ (Own w S [Res.vec 28 1 v q.length (q.flatMap U1)])) _ hw
    refine zU rfl (fun c2 => ?_) (fun c2 => ?_)
    ·
     refine zK (xB (fun (n : List Nat) => [(0, v), (1, Vj a), (2, Vj b), (6, Vj i), (7, Vj j)]) (fun (n : List Nat) => n = yp q j (j - 1)) (fun (n : List Nat) => [Res.vec 28 1 v n.length (n.flatMap U1)]) ?_ (fun n g hΦ => ?_))
     ·
      refine zT (zg [] rfl (by decide) (by kernel_rfl) (fun w' hw hS => zF 0 rfl (zQ) hS (zF 1 rfl (zQ) hS (zF 2 rfl (zQ) hS (zF 3 rfl (zQ) hS (zF 4 rfl (kc (c := ((j - 1 : Nat) : Int)) rfl rfl (kO (by omega) (by omega))) hS (zF 5 rfl (zQ) hS (zF 6 rfl (zQ) hS (zF 7 rfl (kc (c := ((j - 1 : Nat) : Int)) rfl rfl (kO (by omega) (by omega))) hS (zF 10 rfl (zQ) hS (zF 11 rfl (zQ) hS (zk 8 12 ?_ ?_))))))))))))
      ·
       refine zX 8 rfl hw (zH (pV 0 rfl) 1 (j - 1) rfl rfl rfl (by omega) rfl (zG [] rfl (by decide) (fun w' hw hS => zk 9 12 ?_ ?_)))
       ·
        refine zX 9 rfl hw (zV (pV 0 rfl) 1 (j - 1) 0 (fun _ => rfl) rfl rfl (by omega) rfl rfl (zN 12 rfl (zH (pV 0 rfl) 1 j rfl rfl rfl (by omega) rfl (zN 13 rfl (zV (pV 0 rfl) 1 j 0 (fun _ => rfl) rfl rfl (by omega) rfl rfl (zN 14 rfl (zH (pV 0 rfl) 1 j rfl rfl rfl (by omega) rfl (zN 15 rfl ?_))))))))
        refine za 0 j (zI q (j - 1)) rfl (fun _ => rfl) rfl (by omega) rfl rfl rfl (by omega) (zN 16 rfl (zH (pV 0 rfl) 1 (j - 1) rfl rfl rfl (by simp only [List.length_set]; omega) rfl (zN 17 rfl (za 0 (j - 1) (zI q j) rfl (fun _ => rfl) rfl (by omega) rfl rfl rfl (by simp only [List.length_set]; omega) (zG [] rfl (by decide) (fun w' hw hS => zR ?_))))))
        exact ⟨yp q j (j - 1), ⟨rfl, rfl, rfl, rfl, rfl, trivial⟩, rfl, hw⟩
       ·
        refine zX 12 rfl hw (zH (pV 0 rfl) 1 j rfl rfl rfl (by omega) rfl (zG [] rfl (by decide) (fun w' hw hS => zk 9 13 ?_ ?_)))
        ·
         refine zX 9 rfl hw (zV (pV 0 rfl) 1 (j - 1) 0 (fun _ => rfl) rfl rfl (by omega) rfl rfl (zN 13 rfl (zV (pV 0 rfl) 1 j 0 (fun _ => rfl) rfl rfl (by omega) rfl rfl (zN 14 rfl (zH (pV 0 rfl) 1 j rfl rfl rfl (by omega) rfl (zN 15 rfl (za 0 j (zI q (j - 1)) rfl (fun _ => rfl) rfl (by omega) rfl rfl rfl (by omega) (zN 16 rfl ?_))))))))
         refine zH (pV 0 rfl) 1 (j - 1) rfl rfl rfl (by simp only [List.length_set]; omega) rfl (zN 17 rfl (za 0 (j - 1) (zI q j) rfl (fun _ => rfl) rfl (by omega) rfl rfl rfl (by simp only [List.length_set]; omega) (zG [] rfl (by decide) (fun w' hw hS => zR ?_))))
         exact ⟨yp q j (j - 1), ⟨rfl, rfl, rfl, rfl, rfl, trivial⟩, rfl, hw⟩
        ·
         refine zX 13 rfl hw (zV (pV 0 rfl) 1 j 0 (fun _ => rfl) rfl rfl (by omega) rfl rfl (zN 9 rfl (zV (pV 0 rfl) 1 (j - 1) 0 (fun _ => rfl) rfl rfl (by omega) rfl rfl (zN 14 rfl (zH (pV 0 rfl) 1 j rfl rfl rfl (by omega) rfl (zN 15 rfl (za 0 j (zI q (j - 1)) rfl (fun _ => rfl) rfl (by omega) rfl rfl rfl (by omega) (zN 16 rfl ?_))))))))
         refine zH (pV 0 rfl) 1 (j - 1) rfl rfl rfl (by simp only [List.length_set]; omega) rfl (zN 17 rfl (za 0 (j - 1) (zI q j) rfl (fun _ => rfl) rfl (by omega) rfl rfl rfl (by simp only [List.length_set]; omega) (zG [] rfl (by decide) (fun w' hw hS => zR ?_))))
         exact ⟨yp q j (j - 1), ⟨rfl, rfl, rfl, rfl, rfl, trivial⟩, rfl, hw⟩
      ·
       refine zX 12 rfl hw (zH (pV 0 rfl) 1 j rfl rfl rfl (by omega) rfl (zG [] rfl (by decide) (fun w' hw hS => zk 8 13 ?_ ?_)))
       ·
        refine zX 8 rfl hw (zH (pV 0 rfl) 1 (j - 1) rfl rfl rfl (by omega) rfl (zG [] rfl (by decide) (fun w' hw hS => zk 9 13 ?_ ?_)))
        ·
         refine zX 9 rfl hw (zV (pV 0 rfl) 1 (j - 1) 0 (fun _ => rfl) rfl rfl (by omega) rfl rfl (zN 13 rfl (zV (pV 0 rfl) 1 j 0 (fun _ => rfl) rfl rfl (by omega) rfl rfl (zN 14 rfl (zH (pV 0 rfl) 1 j rfl rfl rfl (by omega) rfl (zN 15 rfl (za 0 j (zI q (j - 1)) rfl (fun _ => rfl) rfl (by omega) rfl rfl rfl (by omega) (zN 16 rfl ?_))))))))
         refine zH (pV 0 rfl) 1 (j - 1) rfl rfl rfl (by simp only [List.length_set]; omega) rfl (zN 17 rfl (za 0 (j - 1) (zI q j) rfl (fun _ => rfl) rfl (by omega) rfl rfl rfl (by simp only [List.length_set]; omega) (zG [] rfl (by decide) (fun w' hw hS => zR ?_))))
         exact ⟨yp q j (j - 1), ⟨rfl, rfl, rfl, rfl, rfl, trivial⟩, rfl, hw⟩
        ·
         refine zX 13 rfl hw (zV (pV 0 rfl) 1 j 0 (fun _ => rfl) rfl rfl (by omega) rfl rfl (zN 9 rfl (zV (pV 0 rfl) 1 (j - 1) 0 (fun _ => rfl) rfl rfl (by omega) rfl rfl (zN 14 rfl (zH (pV 0 rfl) 1 j rfl rfl rfl (by omega) rfl (zN 15 rfl (za 0 j (zI q (j - 1)) rfl (fun _ => rfl) rfl (by omega) rfl rfl rfl (by omega) (zN 16 rfl ?_))))))))
         refine zH (pV 0 rfl) 1 (j - 1) rfl rfl rfl (by simp only [List.length_set]; omega) rfl (zN 17 rfl (za 0 (j - 1) (zI q j) rfl (fun _ => rfl) rfl (by omega) rfl rfl rfl (by simp only [List.length_set]; omega) (zG [] rfl (by decide) (fun w' hw hS => zR ?_))))
         exact ⟨yp q j (j - 1), ⟨rfl, rfl, rfl, rfl, rfl, trivial⟩, rfl, hw⟩
       ·
        refine zX 13 rfl hw (zV (pV 0 rfl) 1 j 0 (fun _ => rfl) rfl rfl (by omega) rfl rfl (zN 8 rfl (zH (pV 0 rfl) 1 (j - 1) rfl rfl rfl (by omega) rfl (zN 9 rfl (zV (pV 0 rfl) 1 (j - 1) 0 (fun _ => rfl) rfl rfl (by omega) rfl rfl (zN 14 rfl (zH (pV 0 rfl) 1 j rfl rfl rfl (by omega) rfl (zN 15 rfl ?_))))))))
        refine za 0 j (zI q (j - 1)) rfl (fun _ => rfl) rfl (by omega) rfl rfl rfl (by omega) (zN 16 rfl (zH (pV 0 rfl) 1 (j - 1) rfl rfl rfl (by simp only [List.length_set]; omega) rfl (zN 17 rfl (za 0 (j - 1) (zI q j) rfl (fun _ => rfl) rfl (by omega) rfl rfl rfl (by simp only [List.length_set]; omega) (zG [] rfl (by decide) (fun w' hw hS => zR ?_))))))
        exact ⟨yp q j (j - 1), ⟨rfl, rfl, rfl, rfl, rfl, trivial⟩, rfl, hw⟩
     have hn := hΦ
     refine zd (zC rfl (yX (c := ((j - 1 : Nat) : Int)) rfl rfl (kO (by omega) (by omega)) rfl (zD rfl ?_)))
     exact zj (fun w' hw => ⟨j - 1, n, ⟨rfl, rfl, rfl, rfl, rfl, trivial⟩, ⟨⟨by omega, by omega⟩, by rw [hn]; exact hS2.then_swp ⟨by omega, by omega⟩ ⟨by omega, by omega⟩ hb, by rw [hn]; exact hI2.step (by omega) (by omega) (by omega) c2⟩, hw, (by omega)⟩)
    ·
     refine yG rfl (zd (zC rfl (zt rfl rfl (zr (by omega)) rfl (zD rfl ?_))))
     exact zj (fun w' hw => ⟨i + 1, q, ⟨rfl, rfl, rfl, rfl, trivial⟩, ⟨⟨by omega, .inl (by omega)⟩, hS2, hI2.done (fun _ => c2)⟩, hw, (by omega)⟩)
   ·
    refine zc 4 rfl rfl (gF g4_3) rfl hS (zc 5 rfl rfl (gF g4_3) rfl hS (zc 6 rfl rfl (gF g4_3) rfl hS (zc 7 rfl rfl (gF g4_3) rfl hS (zc 8 rfl rfl (gF g4_3) rfl hS (zc 9 rfl rfl (gF g4_3) rfl hS (zc 10 rfl rfl (gF g4_3) rfl hS (zc 11 rfl rfl (gF g4_3) rfl hS (zc 12 rfl rfl (gF g4_3) rfl hS (zc 13 rfl rfl (gF g4_3) rfl hS (zF 14 rfl (yz (gF g4_3)) hS (zR ?_)))))))))))
    refine (?_ : C _ _ _ _ _ _ _ (Own w S [Res.vec 28 1 v q.length (q.flatMap U1)])) _ hw
    refine xQ rfl (yG rfl (zd (zC rfl (zt rfl rfl (zr (by omega)) rfl (zD rfl ?_)))))
    exact zj (fun w' hw => ⟨i + 1, q, ⟨rfl, rfl, rfl, rfl, trivial⟩, ⟨⟨by omega, .inl (by omega)⟩, hS2, hI2.done (fun h => absurd h (by omega))⟩, hw, (by omega)⟩)
  ·
   exact xA rfl (jq rfl (fun w' hw => ⟨m, rfl, hS1, (fun k h1 h2 => hU k h1 (by omega)), hw⟩))
theorem zH0 {S : List Nat} (v : Value) (l : List Nat) (lo hi : Int) (f : Nat) (w : World) (hh : f + hi.toNat ≤ l.length) (hlo : 0 ≤ lo ∧ lo ≤ hi) (hl : zb l.length) (hp : Hp (lo.toNat + 1) hi.toNat f l) (hin : Own w S [Res.vec 28 1 v l.length (l.flatMap U1)] w) : Rets Tryz.prog 182 #[v, Vi lo, Vi hi, Vj f] w fun u_ w' => ∃ (l' : List Nat), u_ = .tuple #[] ∧ Same (f + lo.toNat) (f + hi.toNat) l l' ∧ Hp lo.toNat hi.toNat f l' ∧ Own w S [Res.vec 28 1 v l'.length (l'.flatMap U1)] w' := by
  obtain ⟨lo, rfl⟩ : ∃ n : Nat, lo = n := ⟨lo.toNat, by omega⟩
  obtain ⟨hi, rfl⟩ : ∃ n : Nat, hi = n := ⟨hi.toNat, by omega⟩
  simp only [Int.toNat_natCast] at hh hp ⊢
  have hlo := Int.ofNat_le.1 hlo.2
  refine zW Tryz.func182 rfl Tryz.ntmps182 hin ?_
  refine zB (zC rfl (zD rfl (zA (zT ?_))))
  refine xT (fun (r : Nat) (m : List Nat) => [(0, v), (2, Vi hi), (3, Vj f), (8, Vj r)]) (fun (r : Nat) (m : List Nat) => (lo ≤ r ∧ r ≤ hi) ∧ Same (f + lo) (f + hi) l m ∧ HpX lo hi f r m) (fun (r : Nat) (m : List Nat) => [Res.vec 28 1 v m.length (m.flatMap U1)]) (fun (r : Nat) (m : List Nat) => hi - r) (fun w' hw => ⟨lo, l, ⟨rfl, rfl, rfl, rfl, trivial⟩, ⟨⟨Nat.le_refl _, hlo⟩, Same.refl _ _ _, HpX.start hp⟩, hw⟩) (fun r m g hΦ => ?_)
  have hml := hΦ.2.1.len
  have hr := hΦ.1
  have hSm := hΦ.2.1
  have hX := hΦ.2.2
  refine zT (zB (zC rfl (zBm rfl rfl (zr (by omega)) rfl (zt rfl rfl (zr (by omega)) rfl (zD rfl (zA (zL (zB (zC rfl (zC rfl (xC rfl rfl rfl (zA ?_))))))))))))
  refine zU rfl (fun c1 => ?_) (fun c1 => ?_)
  ·
   exact xA rfl (jq rfl (fun w' hw => ⟨m, rfl, hSm, hX.done (fun c h1 h2 => by omega), hw⟩))
  ·
   refine zK (xB (fun (c : Nat) => [(0, v), (2, Vi hi), (3, Vj f), (8, Vj r), (9, Vj c)]) (fun (c : Nat) => ((c = 2 * r + 1 ∨ c = 2 * r + 2) ∧ c < hi) ∧ ∀ c', c' = 2 * r + 1 ∨ c' = 2 * r + 2 → c' < hi → x3 (zI m (f + c')) (zI m (f + c))) (fun (c : Nat) => [Res.vec 28 1 v m.length (m.flatMap U1)]) ?_ (fun c g hΦ => ?_))
   ·
    refine zL (zg [0] rfl (by decide) (by kernel_rfl) (fun w' hw hS => zF 0 rfl (zQ) hS (zF 1 rfl (xy rfl rfl (zr (by omega))) hS (zF 2 rfl (zQ) hS (zF 3 rfl (zEU rfl rfl) hS (zF 4 rfl (zQ) hS ?_))))))
    by_cases g3_4 : ((((2 * r) + 1) + 1 : Nat) : Int) < hi
    ·
     refine zl 5 rfl rfl (gT g3_4) (zQ) hS (zl 6 rfl rfl (gT g3_4) (zQ) hS (zl 7 rfl rfl (gT g3_4) (zQ) hS (zl 8 rfl rfl (gT g3_4) (xy rfl rfl (zr (by omega))) hS (zl 9 rfl rfl (gT g3_4) (yR (pV 0 rfl) 1 (f + ((2 * r) + 1)) rfl rfl rfl (by omega)) hS (zl 10 rfl rfl (gT g3_4) (yq (pV 0 rfl) 1 (f + ((2 * r) + 1)) 0 (fun _ => rfl) rfl rfl (by omega) rfl) hS (zl 11 rfl rfl (gT g3_4) (zQ) hS (zl 12 rfl rfl (gT g3_4) (zQ) hS (zl 13 rfl rfl (gT g3_4) (zQ) hS (zl 14 rfl rfl (gT g3_4) (xy rfl rfl (zr (by omega))) hS (zl 15 rfl rfl (gT g3_4) (xy rfl rfl (zr (by omega))) hS (zl 16 rfl rfl (gT g3_4) (yR (pV 0 rfl) 1 ((f + ((2 * r) + 1)) + 1) rfl rfl rfl (by omega)) hS (zl 17 rfl rfl (gT g3_4) (yq (pV 0 rfl) 1 ((f + ((2 * r) + 1)) + 1) 0 (fun _ => rfl) rfl rfl (by omega) rfl) hS ?_))))))))))))
     refine zY 18 rfl hw (zO rfl (gT g3_4) (zJ rfl rfl (fun w' hw => (kJ (zI m (f + ((2 * r) + 1))) (zI m ((f + ((2 * r) + 1)) + 1)) w').mono ?_)))
     rintro _ w1 ⟨rfl, hO⟩
     refine (?_ : CL _ _ _ _ _ _ (Own w S [Res.vec 28 1 v m.length (m.flatMap U1)])) w1 (hw.frame0 hO)
     refine zG [0] rfl (by decide) (fun w' hw hS => zF 19 rfl (y5 (gT g3_4)) hS (zR ?_))
     refine (?_ : C _ _ _ _ _ _ _ (Own w S [Res.vec 28 1 v m.length (m.flatMap U1)])) _ hw
     refine zU rfl (fun c2 => ?_) (fun c2 => ?_)
     ·
      refine zd (zC rfl (zt rfl rfl (zr (by omega)) rfl (zD rfl ?_)))
      exact zj (fun w' hw => ⟨2 * r + 1 + 1, ⟨rfl, rfl, rfl, rfl, rfl, trivial⟩, ⟨⟨by omega, by omega⟩, zLY c2⟩, hw⟩)
     ·
      exact xj (fun w' hw => ⟨2 * r + 1, ⟨rfl, rfl, rfl, rfl, rfl, trivial⟩, ⟨⟨by omega, by omega⟩, zJY (fun _ => c2)⟩, hw⟩)
    ·
     refine zc 5 rfl rfl (gF g3_4) rfl hS (zc 6 rfl rfl (gF g3_4) rfl hS (zc 7 rfl rfl (gF g3_4) rfl hS (zc 8 rfl rfl (gF g3_4) rfl hS (zc 9 rfl rfl (gF g3_4) rfl hS (zc 10 rfl rfl (gF g3_4) rfl hS (zc 11 rfl rfl (gF g3_4) rfl hS (zc 12 rfl rfl (gF g3_4) rfl hS (zc 13 rfl rfl (gF g3_4) rfl hS (zc 14 rfl rfl (gF g3_4) rfl hS (zc 15 rfl rfl (gF g3_4) rfl hS (zc 16 rfl rfl (gF g3_4) rfl hS (zc 17 rfl rfl (gF g3_4) rfl hS ?_))))))))))))
     refine zc 18 rfl rfl (gF g3_4) rfl hS (zF 19 rfl (yz (gF g3_4)) hS (zR ?_))
     refine (?_ : C _ _ _ _ _ _ _ (Own w S [Res.vec 28 1 v m.length (m.flatMap U1)])) _ hw
     refine xQ rfl ?_
     exact xj (fun w' hw => ⟨2 * r + 1, ⟨rfl, rfl, rfl, rfl, rfl, trivial⟩, ⟨⟨by omega, by omega⟩, zJY (fun h => absurd h (by omega))⟩, hw⟩)
   have hc := hΦ.1
   have hmx := hΦ.2
   refine zL (zL (zg [0] rfl (by decide) (by kernel_rfl) (fun w' hw hS => zF 0 rfl (zQ) hS (zF 1 rfl (zQ) hS (zF 2 rfl (zQ) hS (zF 3 rfl (xy rfl rfl (zr (by omega))) hS (zF 4 rfl (yR (pV 0 rfl) 1 (f + r) rfl rfl rfl (by omega)) hS (zF 5 rfl (yq (pV 0 rfl) 1 (f + r) 0 (fun _ => rfl) rfl rfl (by omega) rfl) hS (zF 6 rfl (zQ) hS (zF 7 rfl (zQ) hS (zF 8 rfl (zQ) hS (zF 9 rfl (xy rfl rfl (zr (by omega))) hS ?_))))))))))))
   refine zF 10 rfl (yR (pV 0 rfl) 1 (f + c) rfl rfl rfl (by omega)) hS (zF 11 rfl (yq (pV 0 rfl) 1 (f + c) 0 (fun _ => rfl) rfl rfl (by omega) rfl) hS (zY 12 rfl hw (zJ rfl rfl (fun w' hw => (kJ (zI m (f + r)) (zI m (f + c)) w').mono ?_))))
   rintro _ w1 ⟨rfl, hO⟩
   refine (?_ : CL _ _ _ _ _ _ (Own w S [Res.vec 28 1 v m.length (m.flatMap U1)])) w1 (hw.frame0 hO)
   refine zG [0] rfl (by decide) (fun w' hw hS => zF 13 rfl (jN (q := olt (zI m (f + r)) (zI m (f + c))) rfl) hS (zR ?_))
   refine (?_ : C _ _ _ _ _ _ _ (Own w S [Res.vec 28 1 v m.length (m.flatMap U1)])) _ hw
   refine zU rfl (fun c4 => ?_) (fun c4 => ?_)
   ·
    exact zM (jq rfl (fun w' hw => ⟨m, rfl, hSm, hX.done (fun c' h1 h2 => xg (hmx c' h1 h2) c4), hw⟩))
   ·
    refine zK (xB (fun (n : List Nat) => [(0, v), (2, Vi hi), (3, Vj f), (9, Vj c)]) (fun (n : List Nat) => n = yp m (f + r) (f + c)) (fun (n : List Nat) => [Res.vec 28 1 v n.length (n.flatMap U1)]) ?_ (fun n g hΦ => ?_))
    ·
     refine zg [] rfl (by decide) (by kernel_rfl) (fun w' hw hS => zF 0 rfl (zQ) hS (zF 1 rfl (zQ) hS (zF 2 rfl (zQ) hS (zF 3 rfl (xy rfl rfl (zr (by omega))) hS (zF 4 rfl (zQ) hS (zF 5 rfl (zQ) hS (zF 6 rfl (zQ) hS (zF 7 rfl (xy rfl rfl (zr (by omega))) hS (zF 8 rfl (zQ) hS (zF 9 rfl (zQ) hS (zF 10 rfl (zQ) hS (zF 11 rfl (xy rfl rfl (zr (by omega))) hS ?_))))))))))))
     refine zF 14 rfl (zQ) hS (zF 15 rfl (zQ) hS (zF 16 rfl (zQ) hS (zF 17 rfl (xy rfl rfl (zr (by omega))) hS (zk 12 18 ?_ ?_))))
     ·
      refine zX 12 rfl hw (zH (pV 0 rfl) 1 (f + c) rfl rfl rfl (by omega) rfl (zG [] rfl (by decide) (fun w' hw hS => zk 13 18 ?_ ?_)))
      ·
       refine zX 13 rfl hw (zV (pV 0 rfl) 1 (f + c) 0 (fun _ => rfl) rfl rfl (by omega) rfl rfl (zN 18 rfl (zH (pV 0 rfl) 1 (f + r) rfl rfl rfl (by omega) rfl (zN 19 rfl (zV (pV 0 rfl) 1 (f + r) 0 (fun _ => rfl) rfl rfl (by omega) rfl rfl (zN 20 rfl (zH (pV 0 rfl) 1 (f + r) rfl rfl rfl (by omega) rfl (zN 21 rfl ?_))))))))
       refine za 0 (f + r) (zI m (f + c)) rfl (fun _ => rfl) rfl (by omega) rfl rfl rfl (by omega) (zN 22 rfl (zH (pV 0 rfl) 1 (f + c) rfl rfl rfl (by simp only [List.length_set]; omega) rfl (zN 23 rfl (za 0 (f + c) (zI m (f + r)) rfl (fun _ => rfl) rfl (by omega) rfl rfl rfl (by simp only [List.length_set]; omega) (zG [] rfl (by decide) (fun w' hw hS => zR ?_))))))
       exact ⟨yp m (f + r) (f + c), ⟨rfl, rfl, rfl, rfl, trivial⟩, rfl, hw⟩
      ·
       refine zX 18 rfl hw (zH (pV 0 rfl) 1 (f + r) rfl rfl rfl (by omega) rfl (zG [] rfl (by decide) (fun w' hw hS => zk 13 19 ?_ ?_)))
       ·
        refine zX 13 rfl hw (zV (pV 0 rfl) 1 (f + c) 0 (fun _ => rfl) rfl rfl (by omega) rfl rfl (zN 19 rfl (zV (pV 0 rfl) 1 (f + r) 0 (fun _ => rfl) rfl rfl (by omega) rfl rfl (zN 20 rfl (zH (pV 0 rfl) 1 (f + r) rfl rfl rfl (by omega) rfl (zN 21 rfl (za 0 (f + r) (zI m (f + c)) rfl (fun _ => rfl) rfl (by omega) rfl rfl rfl (by omega) (zN 22 rfl ?_))))))))
        refine zH (pV 0 rfl) 1 (f + c) rfl rfl rfl (by simp only [List.length_set]; omega) rfl (zN 23 rfl (za 0 (f + c) (zI m (f + r)) rfl (fun _ => rfl) rfl (by omega) rfl rfl rfl (by simp only [List.length_set]; omega) (zG [] rfl (by decide) (fun w' hw hS => zR ?_))))
        exact ⟨yp m (f + r) (f + c), ⟨rfl, rfl, rfl, rfl, trivial⟩, rfl, hw⟩
       ·
        refine zX 19 rfl hw (zV (pV 0 rfl) 1 (f + r) 0 (fun _ => rfl) rfl rfl (by omega) rfl rfl (zN 13 rfl (zV (pV 0 rfl) 1 (f + c) 0 (fun _ => rfl) rfl rfl (by omega) rfl rfl (zN 20 rfl (zH (pV 0 rfl) 1 (f + r) rfl rfl rfl (by omega) rfl (zN 21 rfl (za 0 (f + r) (zI m (f + c)) rfl (fun _ => rfl) rfl (by omega) rfl rfl rfl (by omega) (zN 22 rfl ?_))))))))
        refine zH (pV 0 rfl) 1 (f + c) rfl rfl rfl (by simp only [List.length_set]; omega) rfl (zN 23 rfl (za 0 (f + c) (zI m (f + r)) rfl (fun _ => rfl) rfl (by omega) rfl rfl rfl (by simp only [List.length_set]; omega) (zG [] rfl (by decide) (fun w' hw hS => zR ?_))))
        exact ⟨yp m (f + r) (f + c), ⟨rfl, rfl, rfl, rfl, trivial⟩, rfl, hw⟩
     ·
      refine zX 18 rfl hw (zH (pV 0 rfl) 1 (f + r) rfl rfl rfl (by omega) rfl (zG [] rfl (by decide) (fun w' hw hS => zk 12 19 ?_ ?_)))
      ·
       refine zX 12 rfl hw (zH (pV 0 rfl) 1 (f + c) rfl rfl rfl (by omega) rfl (zG [] rfl (by decide) (fun w' hw hS => zk 13 19 ?_ ?_)))
       ·
        refine zX 13 rfl hw (zV (pV 0 rfl) 1 (f + c) 0 (fun _ => rfl) rfl rfl (by omega) rfl rfl (zN 19 rfl (zV (pV 0 rfl) 1 (f + r) 0 (fun _ => rfl) rfl rfl (by omega) rfl rfl (zN 20 rfl (zH (pV 0 rfl) 1 (f + r) rfl rfl rfl (by omega) rfl (zN 21 rfl (za 0 (f + r) (zI m (f + c)) rfl (fun _ => rfl) rfl (by omega) rfl rfl rfl (by omega) (zN 22 rfl ?_))))))))
        refine zH (pV 0 rfl) 1 (f + c) rfl rfl rfl (by simp only [List.length_set]; omega) rfl (zN 23 rfl (za 0 (f + c) (zI m (f + r)) rfl (fun _ => rfl) rfl (by omega) rfl rfl rfl (by simp only [List.length_set]; omega) (zG [] rfl (by decide) (fun w' hw hS => zR ?_))))
        exact ⟨yp m (f + r) (f + c), ⟨rfl, rfl, rfl, rfl, trivial⟩, rfl, hw⟩
       ·
        refine zX 19 rfl hw (zV (pV 0 rfl) 1 (f + r) 0 (fun _ => rfl) rfl rfl (by omega) rfl rfl (zN 13 rfl (zV (pV 0 rfl) 1 (f + c) 0 (fun _ => rfl) rfl rfl (by omega) rfl rfl (zN 20 rfl (zH (pV 0 rfl) 1 (f + r) rfl rfl rfl (by omega) rfl (zN 21 rfl (za 0 (f + r) (zI m (f + c)) rfl (fun _ => rfl) rfl (by omega) rfl rfl rfl (by omega) (zN 22 rfl ?_))))))))
        refine zH (pV 0 rfl) 1 (f + c) rfl rfl rfl (by simp only [List.length_set]; omega) rfl (zN 23 rfl (za 0 (f + c) (zI m (f + r)) rfl (fun _ => rfl) rfl (by omega) rfl rfl rfl (by simp only [List.length_set]; omega) (zG [] rfl (by decide) (fun w' hw hS => zR ?_))))
        exact ⟨yp m (f + r) (f + c), ⟨rfl, rfl, rfl, rfl, trivial⟩, rfl, hw⟩
      ·
       refine zX 19 rfl hw (zV (pV 0 rfl) 1 (f + r) 0 (fun _ => rfl) rfl rfl (by omega) rfl rfl (zN 12 rfl (zH (pV 0 rfl) 1 (f + c) rfl rfl rfl (by omega) rfl (zN 13 rfl (zV (pV 0 rfl) 1 (f + c) 0 (fun _ => rfl) rfl rfl (by omega) rfl rfl (zN 20 rfl (zH (pV 0 rfl) 1 (f + r) rfl rfl rfl (by omega) rfl (zN 21 rfl ?_))))))))
       refine za 0 (f + r) (zI m (f + c)) rfl (fun _ => rfl) rfl (by omega) rfl rfl rfl (by omega) (zN 22 rfl (zH (pV 0 rfl) 1 (f + c) rfl rfl rfl (by simp only [List.length_set]; omega) rfl (zN 23 rfl (za 0 (f + c) (zI m (f + r)) rfl (fun _ => rfl) rfl (by omega) rfl rfl rfl (by simp only [List.length_set]; omega) (zG [] rfl (by decide) (fun w' hw hS => zR ?_))))))
       exact ⟨yp m (f + r) (f + c), ⟨rfl, rfl, rfl, rfl, trivial⟩, rfl, hw⟩
    have hn := hΦ
    refine zd (zC rfl (zD rfl ?_))
    exact zj (fun w' hw => ⟨c, n, ⟨rfl, rfl, rfl, rfl, trivial⟩, ⟨⟨by omega, by omega⟩, by rw [hn]; exact hSm.then_swp ⟨by omega, by omega⟩ ⟨by omega, by omega⟩ hh, by rw [hn]; exact hX.step hr.1 hc.1 hc.2 (by omega) hmx (Decidable.not_not.1 c4)⟩, hw, (by omega)⟩)
theorem zFw {S : List Nat} (v : Value) (l : List Nat) (a b : Nat) (w : World) (ha : a < b) (hb : b ≤ l.length) (hl : zb l.length) (hin : Own w S [Res.vec 28 1 v l.length (l.flatMap U1)] w) : Rets Tryz.prog 142 #[v, Vj a, Vj b] w fun u_ w' => ∃ (l' : List Nat), u_ = .tuple #[] ∧ Same a b l l' ∧ Up a b l' ∧ Own w S [Res.vec 28 1 v l'.length (l'.flatMap U1)] w' := by
  refine zW Tryz.func142 rfl Tryz.ntmps142 hin ?_
  refine zB (zC rfl (zD rfl (zA (zB (zD rfl (zA (zB (zC rfl (zC rfl (yX (c := ((b - a : Nat) : Int)) rfl rfl (wsi (by omega) (by omega)) rfl (zD rfl (zA ?_))))))))))))
  refine zL (zB (zC rfl (yX (c := ((b - a - 1 : Nat) : Int)) rfl rfl (kO (by omega) (by omega)) rfl (zBV (c := (((b - a - 1) / 2 : Nat) : Int)) rfl rfl (by decide) (qui (b := 2) (by omega)) rfl (zD rfl (zA (zT ?_)))))))
  refine xT (fun (i : Nat) (m : List Nat) => [(0, v), (6, Vj a), (7, Vi 0), (8, Vj (b - a)), (9, Vi (((i : Nat) : Int) - 1))]) (fun (i : Nat) (m : List Nat) => i ≤ (b - a - 1) / 2 + 1 ∧ Same a b l m ∧ Hp i (b - a) a m) (fun (i : Nat) (m : List Nat) => [Res.vec 28 1 v m.length (m.flatMap U1)]) (fun (i : Nat) (m : List Nat) => i) (fun w' hw => ⟨(b - a - 1) / 2 + 1, l, ⟨rfl, rfl, rfl, rfl, vi (by omega), trivial⟩, ⟨Nat.le_refl _, Same.refl _ _ _, Hp.none (by omega)⟩, hw⟩) (fun i m g hΦ => ?_)
  have hml := hΦ.2.1.len
  have hi1 := hΦ.1
  have hSm := hΦ.2.1
  have hH := hΦ.2.2
  refine zL (zB (zC rfl (xC rfl rfl rfl (zA (zU rfl (fun c1 => ?_) (fun c1 => ?_))))))
  ·
   refine zK (zL (zT (zd (zC rfl (zC rfl (zC rfl (zC rfl (zJ rfl rfl (fun w' hw => (zH0 v m (((i : Nat) : Int) - 1) ((b - a : Nat) : Int) a w' (by omega) (by omega) (by first | assumption | omega | (simp <;> omega) | (constructor <;> (first | omega | (simp only [zb]; omega) | (simp <;> omega)))) (by rw [show (((i : Nat) : Int) - 1).toNat + 1 = i by omega, Int.toNat_natCast]; exact hH) (hw.give [0] rfl (by decide))).mono ?_)))))))))
   rintro _ w1 ⟨l'1_, rfl, hf6_4, hf6_4_1, hO⟩
   have q2 : Hp (i - 1) (b - a) a l'1_ := (by have h := hf6_4_1; rwa [show (((i : Nat) : Int) - 1).toNat = i - 1 by omega, Int.toNat_natCast] at h)
   refine (?_ : CL _ _ _ _ _ _ (Own w S [Res.vec 28 1 v l'1_.length (l'1_.flatMap U1)])) w1 (hw.frameL [0] rfl hO)
   refine zA (zd (zC rfl (yX rfl rfl (zr (by omega)) rfl (zD rfl ?_))))
   exact zj (fun w' hw => ⟨i - 1, l'1_, ⟨rfl, rfl, rfl, rfl, vi (by omega), trivial⟩, ⟨by omega, hSm.trans (hf6_4.wide (by omega) (by omega)), q2⟩, hw, (by omega)⟩)
  ·
   refine yG rfl (zB (zC rfl (yX rfl rfl (zr (by omega)) rfl (zD rfl (zA (zT ?_))))))
   refine xT (fun (i : Nat) (m : List Nat) => [(0, v), (6, Vj a), (7, Vi 0), (10, Vi (((i : Nat) : Int) - 1))]) (fun (i : Nat) (m : List Nat) => i ≤ b - a ∧ Same a b l m ∧ HpUp i (b - a) a m) (fun (i : Nat) (m : List Nat) => [Res.vec 28 1 v m.length (m.flatMap U1)]) (fun (i : Nat) (m : List Nat) => i) (fun w' hw => ⟨b - a, m, ⟨rfl, rfl, rfl, rfl, trivial⟩, ⟨Nat.le_refl _, hSm, HpUp.start (by have h0 : i = 0 := (by omega); rw [h0] at hH; exact hH)⟩, hw⟩) (fun i m g hΦ => ?_)
   have hml2 := hΦ.2.1.len
   have hi2 := hΦ.1
   have hS2 := hΦ.2.1
   have hU2 := hΦ.2.2
   refine zL (zB (zC rfl (xC rfl rfl rfl (zA (zU rfl (fun c2 => ?_) (fun c2 => ?_))))))
   ·
    have hU3 : HpUp (i - 1 + 1) (b - a) a m := by rw [show i - 1 + 1 = i by omega]; exact hU2
    have hsw := hU3.swap (by omega) (by omega)
    refine zK (zL (zT (xB (fun (n : List Nat) => [(0, v), (6, Vj a), (7, Vi 0), (10, Vi (((i : Nat) : Int) - 1))]) (fun (n : List Nat) => n = yp m a (a + (i - 1))) (fun (n : List Nat) => [Res.vec 28 1 v n.length (n.flatMap U1)]) ?_ (fun n g hΦ => ?_))))
    ·
     refine zg [] rfl (by decide) (by kernel_rfl) (fun w' hw hS => zF 0 rfl (zQ) hS (zF 1 rfl (zQ) hS (zF 2 rfl (zQ) hS (zF 3 rfl (zQ) hS (zF 4 rfl (zQ) hS (zF 5 rfl (xy (c := ((a + (i - 1) : Nat) : Int)) rfl rfl (by rw [show ((a : Nat) : Int) + (((i : Nat) : Int) - 1) = ((a + (i - 1) : Nat) : Int) by omega]; exact zr (by omega))) hS (zF 6 rfl (zQ) hS (zF 7 rfl (zQ) hS (zF 8 rfl (zQ) hS (zF 9 rfl (xy (c := ((a + (i - 1) : Nat) : Int)) rfl rfl (by rw [show ((a : Nat) : Int) + (((i : Nat) : Int) - 1) = ((a + (i - 1) : Nat) : Int) by omega]; exact zr (by omega))) hS (zF 12 rfl (zQ) hS (zF 13 rfl (zQ) hS ?_))))))))))))
     refine zk 10 14 ?_ ?_
     ·
      refine zX 10 rfl hw (zH (pV 0 rfl) 1 (a + (i - 1)) rfl rfl rfl (by omega) rfl (zG [] rfl (by decide) (fun w' hw hS => zk 11 14 ?_ ?_)))
      ·
       refine zX 11 rfl hw (zV (pV 0 rfl) 1 (a + (i - 1)) 0 (fun _ => rfl) rfl rfl (by omega) rfl rfl (zN 14 rfl (zH (pV 0 rfl) 1 a rfl rfl rfl (by omega) rfl (zN 15 rfl (zV (pV 0 rfl) 1 a 0 (fun _ => rfl) rfl rfl (by omega) rfl rfl (zN 16 rfl (zH (pV 0 rfl) 1 a rfl rfl rfl (by omega) rfl (zN 17 rfl ?_))))))))
       refine za 0 a (zI m (a + (i - 1))) rfl (fun _ => rfl) rfl (by omega) rfl rfl rfl (by omega) (zN 18 rfl (zH (pV 0 rfl) 1 (a + (i - 1)) rfl rfl rfl (by simp only [List.length_set]; omega) rfl (zN 19 rfl (za 0 (a + (i - 1)) (zI m a) rfl (fun _ => rfl) rfl (by omega) rfl rfl rfl (by simp only [List.length_set]; omega) (zG [] rfl (by decide) (fun w' hw hS => zR ?_))))))
       exact ⟨yp m a (a + (i - 1)), ⟨rfl, rfl, rfl, rfl, trivial⟩, rfl, hw⟩
      ·
       refine zX 14 rfl hw (zH (pV 0 rfl) 1 a rfl rfl rfl (by omega) rfl (zG [] rfl (by decide) (fun w' hw hS => zk 11 15 ?_ ?_)))
       ·
        refine zX 11 rfl hw (zV (pV 0 rfl) 1 (a + (i - 1)) 0 (fun _ => rfl) rfl rfl (by omega) rfl rfl (zN 15 rfl (zV (pV 0 rfl) 1 a 0 (fun _ => rfl) rfl rfl (by omega) rfl rfl (zN 16 rfl (zH (pV 0 rfl) 1 a rfl rfl rfl (by omega) rfl (zN 17 rfl (za 0 a (zI m (a + (i - 1))) rfl (fun _ => rfl) rfl (by omega) rfl rfl rfl (by omega) (zN 18 rfl ?_))))))))
        refine zH (pV 0 rfl) 1 (a + (i - 1)) rfl rfl rfl (by simp only [List.length_set]; omega) rfl (zN 19 rfl (za 0 (a + (i - 1)) (zI m a) rfl (fun _ => rfl) rfl (by omega) rfl rfl rfl (by simp only [List.length_set]; omega) (zG [] rfl (by decide) (fun w' hw hS => zR ?_))))
        exact ⟨yp m a (a + (i - 1)), ⟨rfl, rfl, rfl, rfl, trivial⟩, rfl, hw⟩
       ·
        refine zX 15 rfl hw (zV (pV 0 rfl) 1 a 0 (fun _ => rfl) rfl rfl (by omega) rfl rfl (zN 11 rfl (zV (pV 0 rfl) 1 (a + (i - 1)) 0 (fun _ => rfl) rfl rfl (by omega) rfl rfl (zN 16 rfl (zH (pV 0 rfl) 1 a rfl rfl rfl (by omega) rfl (zN 17 rfl (za 0 a (zI m (a + (i - 1))) rfl (fun _ => rfl) rfl (by omega) rfl rfl rfl (by omega) (zN 18 rfl ?_))))))))
        refine zH (pV 0 rfl) 1 (a + (i - 1)) rfl rfl rfl (by simp only [List.length_set]; omega) rfl (zN 19 rfl (za 0 (a + (i - 1)) (zI m a) rfl (fun _ => rfl) rfl (by omega) rfl rfl rfl (by simp only [List.length_set]; omega) (zG [] rfl (by decide) (fun w' hw hS => zR ?_))))
        exact ⟨yp m a (a + (i - 1)), ⟨rfl, rfl, rfl, rfl, trivial⟩, rfl, hw⟩
     ·
      refine zX 14 rfl hw (zH (pV 0 rfl) 1 a rfl rfl rfl (by omega) rfl (zG [] rfl (by decide) (fun w' hw hS => zk 10 15 ?_ ?_)))
      ·
       refine zX 10 rfl hw (zH (pV 0 rfl) 1 (a + (i - 1)) rfl rfl rfl (by omega) rfl (zG [] rfl (by decide) (fun w' hw hS => zk 11 15 ?_ ?_)))
       ·
        refine zX 11 rfl hw (zV (pV 0 rfl) 1 (a + (i - 1)) 0 (fun _ => rfl) rfl rfl (by omega) rfl rfl (zN 15 rfl (zV (pV 0 rfl) 1 a 0 (fun _ => rfl) rfl rfl (by omega) rfl rfl (zN 16 rfl (zH (pV 0 rfl) 1 a rfl rfl rfl (by omega) rfl (zN 17 rfl (za 0 a (zI m (a + (i - 1))) rfl (fun _ => rfl) rfl (by omega) rfl rfl rfl (by omega) (zN 18 rfl ?_))))))))
        refine zH (pV 0 rfl) 1 (a + (i - 1)) rfl rfl rfl (by simp only [List.length_set]; omega) rfl (zN 19 rfl (za 0 (a + (i - 1)) (zI m a) rfl (fun _ => rfl) rfl (by omega) rfl rfl rfl (by simp only [List.length_set]; omega) (zG [] rfl (by decide) (fun w' hw hS => zR ?_))))
        exact ⟨yp m a (a + (i - 1)), ⟨rfl, rfl, rfl, rfl, trivial⟩, rfl, hw⟩
       ·
        refine zX 15 rfl hw (zV (pV 0 rfl) 1 a 0 (fun _ => rfl) rfl rfl (by omega) rfl rfl (zN 11 rfl (zV (pV 0 rfl) 1 (a + (i - 1)) 0 (fun _ => rfl) rfl rfl (by omega) rfl rfl (zN 16 rfl (zH (pV 0 rfl) 1 a rfl rfl rfl (by omega) rfl (zN 17 rfl (za 0 a (zI m (a + (i - 1))) rfl (fun _ => rfl) rfl (by omega) rfl rfl rfl (by omega) (zN 18 rfl ?_))))))))
        refine zH (pV 0 rfl) 1 (a + (i - 1)) rfl rfl rfl (by simp only [List.length_set]; omega) rfl (zN 19 rfl (za 0 (a + (i - 1)) (zI m a) rfl (fun _ => rfl) rfl (by omega) rfl rfl rfl (by simp only [List.length_set]; omega) (zG [] rfl (by decide) (fun w' hw hS => zR ?_))))
        exact ⟨yp m a (a + (i - 1)), ⟨rfl, rfl, rfl, rfl, trivial⟩, rfl, hw⟩
      ·
       refine zX 15 rfl hw (zV (pV 0 rfl) 1 a 0 (fun _ => rfl) rfl rfl (by omega) rfl rfl (zN 10 rfl (zH (pV 0 rfl) 1 (a + (i - 1)) rfl rfl rfl (by omega) rfl (zN 11 rfl (zV (pV 0 rfl) 1 (a + (i - 1)) 0 (fun _ => rfl) rfl rfl (by omega) rfl rfl (zN 16 rfl (zH (pV 0 rfl) 1 a rfl rfl rfl (by omega) rfl (zN 17 rfl ?_))))))))
       refine za 0 a (zI m (a + (i - 1))) rfl (fun _ => rfl) rfl (by omega) rfl rfl rfl (by omega) (zN 18 rfl (zH (pV 0 rfl) 1 (a + (i - 1)) rfl rfl rfl (by simp only [List.length_set]; omega) rfl (zN 19 rfl (za 0 (a + (i - 1)) (zI m a) rfl (fun _ => rfl) rfl (by omega) rfl rfl rfl (by simp only [List.length_set]; omega) (zG [] rfl (by decide) (fun w' hw hS => zR ?_))))))
       exact ⟨yp m a (a + (i - 1)), ⟨rfl, rfl, rfl, rfl, trivial⟩, rfl, hw⟩
    have hn := hΦ
    have hnl : n.length = m.length := by rw [hn, zD3]
    refine zd (zC rfl (zC rfl (zC rfl (zC rfl (zJ rfl rfl (fun w' hw => (zH0 v n 0 (((i : Nat) : Int) - 1) a w' (by omega) (by omega) (by first | assumption | omega | (simp <;> omega) | (constructor <;> (first | omega | (simp only [zb]; omega) | (simp <;> omega)))) (by rw [show (((i : Nat) : Int) - 1).toNat = i - 1 by omega, hn]; exact hsw.1) (hw.give [0] rfl (by decide))).mono ?_))))))
    rintro _ w1 ⟨l'2_, rfl, hf11_4, hf11_4_1, hO⟩
    have q3 : Hp 0 (i - 1) a l'2_ := (by have h := hf11_4_1; rwa [show (((i : Nat) : Int) - 1).toNat = i - 1 by omega] at h)
    have q4 : Same a (a + (i - 1)) n l'2_ := hf11_4.wide (by omega) (by omega)
    refine (?_ : CL _ _ _ _ _ _ (Own w S [Res.vec 28 1 v l'2_.length (l'2_.flatMap U1)])) w1 (hw.frameL [0] rfl hO)
    refine zA (zd (zC rfl (yX rfl rfl (zr (by omega)) rfl (zD rfl ?_))))
    exact zj (fun w' hw => ⟨i - 1, l'2_, ⟨rfl, rfl, rfl, vi (by omega), trivial⟩, ⟨by omega, (hS2.then_swp ⟨by omega, by omega⟩ ⟨by omega, by omega⟩ hb).trans ((hn ▸ q4).wide (by omega) (by omega)), HpUp.sift hsw.2 q3 (hn ▸ q4) (by omega) (by rw [zD3]; omega)⟩, hw, (by omega)⟩)
   ·
    exact xA rfl (jq rfl (fun w' hw => ⟨m, rfl, hS2, (by have h := hU2.up; have h0 : i = 0 := (by omega); rw [h0, Nat.add_zero, show a + (b - a) = b by omega] at h; exact h), hw⟩))
end Go.Proofs.YthincafbmpialaaGreat
