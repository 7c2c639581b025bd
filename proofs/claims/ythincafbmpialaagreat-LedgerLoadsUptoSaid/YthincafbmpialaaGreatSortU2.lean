import Derived.Test.YthincafbmpialaaGreatSortU
set_option linter.unusedSectionVars false
set_option linter.unusedSimpArgs false
set_option linter.unusedVariables false
set_option maxRecDepth 10000
namespace Go.Proofs.YthincafbmpialaaGreat
open Go Go.Sc Go.Proofs
theorem zJL {S : List Nat} (v : Value) (l : List Nat) (a b p : Nat) (w : World) (ha : a ≤ p ∧ p < b) (hb : b ≤ l.length) (hl : zb l.length) (hin : Own w S [Res.vec 28 1 v l.length (l.flatMap U1)] w) : Rets Tryz.prog 149 #[v, Vj a, Vj b, Vj p] w fun u_ w' => ∃ (l' : List Nat) (m : Nat) (al : Bool), u_ = .tuple #[Vj m, .bool al] ∧ Same a b l l' ∧ (a ≤ m ∧ m < b) ∧ Part a b m l' ∧ Own w S [Res.vec 28 1 v l'.length (l'.flatMap U1)] w' := by
  refine zW Tryz.func149 rfl Tryz.ntmps149 hin ?_
  refine zB (zD rfl (zD rfl (zA (xB (fun (q : List Nat) => [(0, v), (1, Vj a), (2, Vj b)]) (fun (q : List Nat) => Same a b l q) (fun (q : List Nat) => [Res.vec 28 1 v q.length (q.flatMap U1)]) ?_ (fun q g hΦ => ?_)))))
  ·
   refine zg [] rfl (by decide) (by kernel_rfl) (fun w' hw hS => zF 0 rfl (zQ) hS (zF 1 rfl (zQ) hS (zF 2 rfl (zQ) hS (zF 3 rfl (zQ) hS (zF 4 rfl (zQ) hS (zF 5 rfl (zQ) hS (zF 8 rfl (zQ) hS (zF 9 rfl (zQ) hS (zk 6 10 ?_ ?_)))))))))
   ·
    refine zX 6 rfl hw (zH (pV 0 rfl) 1 p rfl rfl rfl (by omega) rfl (zG [] rfl (by decide) (fun w' hw hS => zk 7 10 ?_ ?_)))
    ·
     refine zX 7 rfl hw (zV (pV 0 rfl) 1 p 0 (fun _ => rfl) rfl rfl (by omega) rfl rfl (zN 10 rfl (zH (pV 0 rfl) 1 a rfl rfl rfl (by omega) rfl (zN 11 rfl (zV (pV 0 rfl) 1 a 0 (fun _ => rfl) rfl rfl (by omega) rfl rfl (zN 12 rfl (zH (pV 0 rfl) 1 a rfl rfl rfl (by omega) rfl (zN 13 rfl ?_))))))))
     refine za 0 a (zI l p) rfl (fun _ => rfl) rfl (by omega) rfl rfl rfl (by omega) (zN 14 rfl (zH (pV 0 rfl) 1 p rfl rfl rfl (by simp only [List.length_set]; omega) rfl (zN 15 rfl (za 0 p (zI l a) rfl (fun _ => rfl) rfl (by omega) rfl rfl rfl (by simp only [List.length_set]; omega) (zG [] rfl (by decide) (fun w' hw hS => zR ?_))))))
     exact ⟨yp l a p, ⟨rfl, rfl, rfl, trivial⟩, Same.ex ⟨by omega, by omega⟩ ⟨by omega, by omega⟩ hb, hw⟩
    ·
     refine zX 10 rfl hw (zH (pV 0 rfl) 1 a rfl rfl rfl (by omega) rfl (zG [] rfl (by decide) (fun w' hw hS => zk 7 11 ?_ ?_)))
     ·
      refine zX 7 rfl hw (zV (pV 0 rfl) 1 p 0 (fun _ => rfl) rfl rfl (by omega) rfl rfl (zN 11 rfl (zV (pV 0 rfl) 1 a 0 (fun _ => rfl) rfl rfl (by omega) rfl rfl (zN 12 rfl (zH (pV 0 rfl) 1 a rfl rfl rfl (by omega) rfl (zN 13 rfl (za 0 a (zI l p) rfl (fun _ => rfl) rfl (by omega) rfl rfl rfl (by omega) (zN 14 rfl ?_))))))))
      refine zH (pV 0 rfl) 1 p rfl rfl rfl (by simp only [List.length_set]; omega) rfl (zN 15 rfl (za 0 p (zI l a) rfl (fun _ => rfl) rfl (by omega) rfl rfl rfl (by simp only [List.length_set]; omega) (zG [] rfl (by decide) (fun w' hw hS => zR ?_))))
      exact ⟨yp l a p, ⟨rfl, rfl, rfl, trivial⟩, Same.ex ⟨by omega, by omega⟩ ⟨by omega, by omega⟩ hb, hw⟩
     ·
      refine zX 11 rfl hw (zV (pV 0 rfl) 1 a 0 (fun _ => rfl) rfl rfl (by omega) rfl rfl (zN 7 rfl (zV (pV 0 rfl) 1 p 0 (fun _ => rfl) rfl rfl (by omega) rfl rfl (zN 12 rfl (zH (pV 0 rfl) 1 a rfl rfl rfl (by omega) rfl (zN 13 rfl (za 0 a (zI l p) rfl (fun _ => rfl) rfl (by omega) rfl rfl rfl (by omega) (zN 14 rfl ?_))))))))
      refine zH (pV 0 rfl) 1 p rfl rfl rfl (by simp only [List.length_set]; omega) rfl (zN 15 rfl (za 0 p (zI l a) rfl (fun _ => rfl) rfl (by omega) rfl rfl rfl (by simp only [List.length_set]; omega) (zG [] rfl (by decide) (fun w' hw hS => zR ?_))))
      exact ⟨yp l a p, ⟨rfl, rfl, rfl, trivial⟩, Same.ex ⟨by omega, by omega⟩ ⟨by omega, by omega⟩ hb, hw⟩
   ·
    refine zX 10 rfl hw (zH (pV 0 rfl) 1 a rfl rfl rfl (by omega) rfl (zG [] rfl (by decide) (fun w' hw hS => zk 6 11 ?_ ?_)))
    ·
     refine zX 6 rfl hw (zH (pV 0 rfl) 1 p rfl rfl rfl (by omega) rfl (zG [] rfl (by decide) (fun w' hw hS => zk 7 11 ?_ ?_)))
     ·
      refine zX 7 rfl hw (zV (pV 0 rfl) 1 p 0 (fun _ => rfl) rfl rfl (by omega) rfl rfl (zN 11 rfl (zV (pV 0 rfl) 1 a 0 (fun _ => rfl) rfl rfl (by omega) rfl rfl (zN 12 rfl (zH (pV 0 rfl) 1 a rfl rfl rfl (by omega) rfl (zN 13 rfl (za 0 a (zI l p) rfl (fun _ => rfl) rfl (by omega) rfl rfl rfl (by omega) (zN 14 rfl ?_))))))))
      refine zH (pV 0 rfl) 1 p rfl rfl rfl (by simp only [List.length_set]; omega) rfl (zN 15 rfl (za 0 p (zI l a) rfl (fun _ => rfl) rfl (by omega) rfl rfl rfl (by simp only [List.length_set]; omega) (zG [] rfl (by decide) (fun w' hw hS => zR ?_))))
      exact ⟨yp l a p, ⟨rfl, rfl, rfl, trivial⟩, Same.ex ⟨by omega, by omega⟩ ⟨by omega, by omega⟩ hb, hw⟩
     ·
      refine zX 11 rfl hw (zV (pV 0 rfl) 1 a 0 (fun _ => rfl) rfl rfl (by omega) rfl rfl (zN 7 rfl (zV (pV 0 rfl) 1 p 0 (fun _ => rfl) rfl rfl (by omega) rfl rfl (zN 12 rfl (zH (pV 0 rfl) 1 a rfl rfl rfl (by omega) rfl (zN 13 rfl (za 0 a (zI l p) rfl (fun _ => rfl) rfl (by omega) rfl rfl rfl (by omega) (zN 14 rfl ?_))))))))
      refine zH (pV 0 rfl) 1 p rfl rfl rfl (by simp only [List.length_set]; omega) rfl (zN 15 rfl (za 0 p (zI l a) rfl (fun _ => rfl) rfl (by omega) rfl rfl rfl (by simp only [List.length_set]; omega) (zG [] rfl (by decide) (fun w' hw hS => zR ?_))))
      exact ⟨yp l a p, ⟨rfl, rfl, rfl, trivial⟩, Same.ex ⟨by omega, by omega⟩ ⟨by omega, by omega⟩ hb, hw⟩
    ·
     refine zX 11 rfl hw (zV (pV 0 rfl) 1 a 0 (fun _ => rfl) rfl rfl (by omega) rfl rfl (zN 6 rfl (zH (pV 0 rfl) 1 p rfl rfl rfl (by omega) rfl (zN 7 rfl (zV (pV 0 rfl) 1 p 0 (fun _ => rfl) rfl rfl (by omega) rfl rfl (zN 12 rfl (zH (pV 0 rfl) 1 a rfl rfl rfl (by omega) rfl (zN 13 rfl ?_))))))))
     refine za 0 a (zI l p) rfl (fun _ => rfl) rfl (by omega) rfl rfl rfl (by omega) (zN 14 rfl (zH (pV 0 rfl) 1 p rfl rfl rfl (by simp only [List.length_set]; omega) rfl (zN 15 rfl (za 0 p (zI l a) rfl (fun _ => rfl) rfl (by omega) rfl rfl rfl (by simp only [List.length_set]; omega) (zG [] rfl (by decide) (fun w' hw hS => zR ?_))))))
     exact ⟨yp l a p, ⟨rfl, rfl, rfl, trivial⟩, Same.ex ⟨by omega, by omega⟩ ⟨by omega, by omega⟩ hb, hw⟩
  have hql := hΦ.len
  have hSq := hΦ
  refine zB (zC rfl (zt rfl rfl (zr (by omega)) rfl (zC rfl (yX (c := ((b - 1 : Nat) : Int)) rfl rfl (kO (by omega) (by omega)) rfl (zD rfl (zD rfl (zA (xB (fun (i : Nat) => [(0, v), (1, Vj a), (10, Vj i), (11, Vj (b - 1))]) (fun (i : Nat) => (a + 1 ≤ i ∧ i ≤ b) ∧ Lo a i q ∧ (i < b → x3 (zI q a) (zI q i))) (fun (i : Nat) => [Res.vec 28 1 v q.length (q.flatMap U1)]) ?_ (fun i g hΦ => ?_)))))))))
  ·
   refine zT ?_
   refine xG (fun (i : Nat) => [(0, v), (1, Vj a), (10, Vj i), (11, Vj (b - 1))]) (fun (i : Nat) => (a + 1 ≤ i ∧ i ≤ b) ∧ Lo a i q) (fun (i : Nat) => [Res.vec 28 1 v q.length (q.flatMap U1)]) (fun (i : Nat) => b - i) (fun w' hw => ⟨a + 1, ⟨rfl, rfl, rfl, rfl, trivial⟩, ⟨⟨by omega, by omega⟩, fun k h1 h2 => by omega⟩, hw⟩) (fun i g hΦ => ?_)
   have hi1 := hΦ.1
   have hLo := hΦ.2
   refine zL (zL (zg [0] rfl (by decide) (by kernel_rfl) (fun w' hw hS => zF 0 rfl (zQ) hS (zF 1 rfl (zQ) hS (zF 2 rfl (zAj rfl rfl) hS (zF 3 rfl (zQ) hS ?_))))))
   by_cases g3_3 : ((i : Nat) : Int) ≤ ((b - 1 : Nat) : Int)
   ·
    refine zl 4 rfl rfl (gT g3_3) (zQ) hS (zl 5 rfl rfl (gT g3_3) (zQ) hS (zl 6 rfl rfl (gT g3_3) (yR (pV 0 rfl) 1 i rfl rfl rfl (by omega)) hS (zl 7 rfl rfl (gT g3_3) (yq (pV 0 rfl) 1 i 0 (fun _ => rfl) rfl rfl (by omega) rfl) hS (zl 8 rfl rfl (gT g3_3) (zQ) hS (zl 9 rfl rfl (gT g3_3) (zQ) hS (zl 10 rfl rfl (gT g3_3) (yR (pV 0 rfl) 1 a rfl rfl rfl (by omega)) hS (zl 11 rfl rfl (gT g3_3) (yq (pV 0 rfl) 1 a 0 (fun _ => rfl) rfl rfl (by omega) rfl) hS (zY 12 rfl hw (zO rfl (gT g3_3) (zJ rfl rfl (fun w' hw => (kJ (zI q i) (zI q a) w').mono ?_)))))))))))
    rintro _ w1 ⟨rfl, hO⟩
    refine (?_ : CL _ _ _ _ _ _ (Own w S [Res.vec 28 1 v q.length (q.flatMap U1)])) w1 (hw.frame0 hO)
    refine zG [0] rfl (by decide) (fun w' hw hS => zF 13 rfl (y5 (gT g3_3)) hS (zR ?_))
    refine (?_ : C _ _ _ _ _ _ _ (Own w S [Res.vec 28 1 v q.length (q.flatMap U1)])) _ hw
    refine zU rfl (fun c1 => ?_) (fun c1 => ?_)
    ·
     refine zK (zT (zd (zC rfl (zt rfl rfl (zr (by omega)) rfl (zD rfl ?_)))))
     exact zj (fun w' hw => ⟨i + 1, ⟨rfl, rfl, rfl, rfl, trivial⟩, ⟨⟨by omega, by omega⟩, hLo.step c1⟩, hw, (by omega)⟩)
    ·
     exact xA rfl (fun w' hw => ⟨i, ⟨rfl, rfl, rfl, rfl, trivial⟩, ⟨hi1, hLo, fun _ => c1⟩, hw⟩)
   ·
    refine zc 4 rfl rfl (gF g3_3) rfl hS (zc 5 rfl rfl (gF g3_3) rfl hS (zc 6 rfl rfl (gF g3_3) rfl hS (zc 7 rfl rfl (gF g3_3) rfl hS (zc 8 rfl rfl (gF g3_3) rfl hS (zc 9 rfl rfl (gF g3_3) rfl hS (zc 10 rfl rfl (gF g3_3) rfl hS (zc 11 rfl rfl (gF g3_3) rfl hS (zc 12 rfl rfl (gF g3_3) rfl hS (zF 13 rfl (yz (gF g3_3)) hS (zR ?_))))))))))
    refine (?_ : C _ _ _ _ _ _ _ (Own w S [Res.vec 28 1 v q.length (q.flatMap U1)])) _ hw
    refine xQ rfl ?_
    exact xA rfl (fun w' hw => ⟨i, ⟨rfl, rfl, rfl, rfl, trivial⟩, ⟨hi1, hLo, fun h => absurd h (by omega)⟩, hw⟩)
  have hi2 := hΦ.1
  have hLo2 := hΦ.2.1
  have hge := hΦ.2.2
  refine xB (fun (j : Nat) => [(0, v), (1, Vj a), (10, Vj i), (11, Vj j)]) (fun (j : Nat) => (i ≤ j + 1 ∧ j < b) ∧ Hi a j b q ∧ (i ≤ j → olt (zI q j) (zI q a))) (fun (j : Nat) => [Res.vec 28 1 v q.length (q.flatMap U1)]) ?_ (fun j g hΦ => ?_)
  ·
   refine zT ?_
   refine xG (fun (j : Nat) => [(0, v), (1, Vj a), (10, Vj i), (11, Vj j)]) (fun (j : Nat) => (i ≤ j + 1 ∧ j < b) ∧ Hi a j b q) (fun (j : Nat) => [Res.vec 28 1 v q.length (q.flatMap U1)]) (fun (j : Nat) => j) (fun w' hw => ⟨b - 1, ⟨rfl, rfl, rfl, rfl, trivial⟩, ⟨⟨by omega, by omega⟩, fun k h1 h2 => by omega⟩, hw⟩) (fun j g hΦ => ?_)
   have hj1 := hΦ.1
   have hHi := hΦ.2
   refine zL (zL (zg [0] rfl (by decide) (by kernel_rfl) (fun w' hw hS => zF 0 rfl (zQ) hS (zF 1 rfl (zQ) hS (zF 2 rfl (zAj rfl rfl) hS (zF 3 rfl (zQ) hS ?_))))))
   by_cases g5_3 : ((i : Nat) : Int) ≤ ((j : Nat) : Int)
   ·
    refine zl 4 rfl rfl (gT g5_3) (zQ) hS (zl 5 rfl rfl (gT g5_3) (zQ) hS (zl 6 rfl rfl (gT g5_3) (yR (pV 0 rfl) 1 j rfl rfl rfl (by omega)) hS (zl 7 rfl rfl (gT g5_3) (yq (pV 0 rfl) 1 j 0 (fun _ => rfl) rfl rfl (by omega) rfl) hS (zl 8 rfl rfl (gT g5_3) (zQ) hS (zl 9 rfl rfl (gT g5_3) (zQ) hS (zl 10 rfl rfl (gT g5_3) (yR (pV 0 rfl) 1 a rfl rfl rfl (by omega)) hS (zl 11 rfl rfl (gT g5_3) (yq (pV 0 rfl) 1 a 0 (fun _ => rfl) rfl rfl (by omega) rfl) hS (zY 12 rfl hw (zO rfl (gT g5_3) (zJ rfl rfl (fun w' hw => (kJ (zI q j) (zI q a) w').mono ?_)))))))))))
    rintro _ w1 ⟨rfl, hO⟩
    refine (?_ : CL _ _ _ _ _ _ (Own w S [Res.vec 28 1 v q.length (q.flatMap U1)])) w1 (hw.frame0 hO)
    refine zG [0] rfl (by decide) (fun w' hw hS => zl 13 rfl rfl (gT g5_3) (jN (q := olt (zI q j) (zI q a)) rfl) hS (zF 14 rfl (y5 (gT g5_3)) hS (zR ?_)))
    refine (?_ : C _ _ _ _ _ _ _ (Own w S [Res.vec 28 1 v q.length (q.flatMap U1)])) _ hw
    refine zU rfl (fun c3 => ?_) (fun c3 => ?_)
    ·
     refine zK (zT (zd (zC rfl (yX (c := ((j - 1 : Nat) : Int)) rfl rfl (kO (by omega) (by omega)) rfl (zD rfl ?_)))))
     exact zj (fun w' hw => ⟨j - 1, ⟨rfl, rfl, rfl, rfl, trivial⟩, ⟨⟨by omega, by omega⟩, hHi.step c3⟩, hw, (by omega)⟩)
    ·
     exact xA rfl (fun w' hw => ⟨j, ⟨rfl, rfl, rfl, rfl, trivial⟩, ⟨hj1, hHi, fun _ => Decidable.not_not.1 c3⟩, hw⟩)
   ·
    refine zc 4 rfl rfl (gF g5_3) rfl hS (zc 5 rfl rfl (gF g5_3) rfl hS (zc 6 rfl rfl (gF g5_3) rfl hS (zc 7 rfl rfl (gF g5_3) rfl hS (zc 8 rfl rfl (gF g5_3) rfl hS (zc 9 rfl rfl (gF g5_3) rfl hS (zc 10 rfl rfl (gF g5_3) rfl hS (zc 11 rfl rfl (gF g5_3) rfl hS (zc 12 rfl rfl (gF g5_3) rfl hS (zc 13 rfl rfl (gF g5_3) rfl hS (zF 14 rfl (yz (gF g5_3)) hS (zR ?_)))))))))))
    refine (?_ : C _ _ _ _ _ _ _ (Own w S [Res.vec 28 1 v q.length (q.flatMap U1)])) _ hw
    refine xQ rfl ?_
    exact xA rfl (fun w' hw => ⟨j, ⟨rfl, rfl, rfl, rfl, trivial⟩, ⟨hj1, hHi, fun h => absurd h (by omega)⟩, hw⟩)
  have hj2 := hΦ.1
  have hHi2 := hΦ.2.1
  have hlt := hΦ.2.2
  refine zL (zB (zC rfl (zC rfl (yg rfl rfl rfl (zA (zU rfl (fun c5 => ?_) (fun c5 => ?_)))))))
  ·
   refine xB (fun (n : List Nat) => [(11, Vj j)]) (fun (n : List Nat) => n = yp q j a) (fun (n : List Nat) => [Res.vec 28 1 v n.length (n.flatMap U1)]) ?_ (fun n g hΦ => ?_)
   ·
    refine zg [] rfl (by decide) (by kernel_rfl) (fun w' hw hS => zF 0 rfl (zQ) hS (zF 1 rfl (zQ) hS (zF 2 rfl (zQ) hS (zF 3 rfl (zQ) hS (zF 4 rfl (zQ) hS (zF 5 rfl (zQ) hS (zF 8 rfl (zQ) hS (zF 9 rfl (zQ) hS (zk 6 10 ?_ ?_)))))))))
    ·
     refine zX 6 rfl hw (zH (pV 0 rfl) 1 a rfl rfl rfl (by omega) rfl (zG [] rfl (by decide) (fun w' hw hS => zk 7 10 ?_ ?_)))
     ·
      refine zX 7 rfl hw (zV (pV 0 rfl) 1 a 0 (fun _ => rfl) rfl rfl (by omega) rfl rfl (zN 10 rfl (zH (pV 0 rfl) 1 j rfl rfl rfl (by omega) rfl (zN 11 rfl (zV (pV 0 rfl) 1 j 0 (fun _ => rfl) rfl rfl (by omega) rfl rfl (zN 12 rfl (zH (pV 0 rfl) 1 j rfl rfl rfl (by omega) rfl (zN 13 rfl ?_))))))))
      refine za 0 j (zI q a) rfl (fun _ => rfl) rfl (by omega) rfl rfl rfl (by omega) (zN 14 rfl (zH (pV 0 rfl) 1 a rfl rfl rfl (by simp only [List.length_set]; omega) rfl (zN 15 rfl (za 0 a (zI q j) rfl (fun _ => rfl) rfl (by omega) rfl rfl rfl (by simp only [List.length_set]; omega) (zG [] rfl (by decide) (fun w' hw hS => zR ?_))))))
      exact ⟨yp q j a, ⟨rfl, trivial⟩, rfl, hw⟩
     ·
      refine zX 10 rfl hw (zH (pV 0 rfl) 1 j rfl rfl rfl (by omega) rfl (zG [] rfl (by decide) (fun w' hw hS => zk 7 11 ?_ ?_)))
      ·
       refine zX 7 rfl hw (zV (pV 0 rfl) 1 a 0 (fun _ => rfl) rfl rfl (by omega) rfl rfl (zN 11 rfl (zV (pV 0 rfl) 1 j 0 (fun _ => rfl) rfl rfl (by omega) rfl rfl (zN 12 rfl (zH (pV 0 rfl) 1 j rfl rfl rfl (by omega) rfl (zN 13 rfl (za 0 j (zI q a) rfl (fun _ => rfl) rfl (by omega) rfl rfl rfl (by omega) (zN 14 rfl ?_))))))))
       refine zH (pV 0 rfl) 1 a rfl rfl rfl (by simp only [List.length_set]; omega) rfl (zN 15 rfl (za 0 a (zI q j) rfl (fun _ => rfl) rfl (by omega) rfl rfl rfl (by simp only [List.length_set]; omega) (zG [] rfl (by decide) (fun w' hw hS => zR ?_))))
       exact ⟨yp q j a, ⟨rfl, trivial⟩, rfl, hw⟩
      ·
       refine zX 11 rfl hw (zV (pV 0 rfl) 1 j 0 (fun _ => rfl) rfl rfl (by omega) rfl rfl (zN 7 rfl (zV (pV 0 rfl) 1 a 0 (fun _ => rfl) rfl rfl (by omega) rfl rfl (zN 12 rfl (zH (pV 0 rfl) 1 j rfl rfl rfl (by omega) rfl (zN 13 rfl (za 0 j (zI q a) rfl (fun _ => rfl) rfl (by omega) rfl rfl rfl (by omega) (zN 14 rfl ?_))))))))
       refine zH (pV 0 rfl) 1 a rfl rfl rfl (by simp only [List.length_set]; omega) rfl (zN 15 rfl (za 0 a (zI q j) rfl (fun _ => rfl) rfl (by omega) rfl rfl rfl (by simp only [List.length_set]; omega) (zG [] rfl (by decide) (fun w' hw hS => zR ?_))))
       exact ⟨yp q j a, ⟨rfl, trivial⟩, rfl, hw⟩
    ·
     refine zX 10 rfl hw (zH (pV 0 rfl) 1 j rfl rfl rfl (by omega) rfl (zG [] rfl (by decide) (fun w' hw hS => zk 6 11 ?_ ?_)))
     ·
      refine zX 6 rfl hw (zH (pV 0 rfl) 1 a rfl rfl rfl (by omega) rfl (zG [] rfl (by decide) (fun w' hw hS => zk 7 11 ?_ ?_)))
      ·
       refine zX 7 rfl hw (zV (pV 0 rfl) 1 a 0 (fun _ => rfl) rfl rfl (by omega) rfl rfl (zN 11 rfl (zV (pV 0 rfl) 1 j 0 (fun _ => rfl) rfl rfl (by omega) rfl rfl (zN 12 rfl (zH (pV 0 rfl) 1 j rfl rfl rfl (by omega) rfl (zN 13 rfl (za 0 j (zI q a) rfl (fun _ => rfl) rfl (by omega) rfl rfl rfl (by omega) (zN 14 rfl ?_))))))))
       refine zH (pV 0 rfl) 1 a rfl rfl rfl (by simp only [List.length_set]; omega) rfl (zN 15 rfl (za 0 a (zI q j) rfl (fun _ => rfl) rfl (by omega) rfl rfl rfl (by simp only [List.length_set]; omega) (zG [] rfl (by decide) (fun w' hw hS => zR ?_))))
       exact ⟨yp q j a, ⟨rfl, trivial⟩, rfl, hw⟩
      ·
       refine zX 11 rfl hw (zV (pV 0 rfl) 1 j 0 (fun _ => rfl) rfl rfl (by omega) rfl rfl (zN 7 rfl (zV (pV 0 rfl) 1 a 0 (fun _ => rfl) rfl rfl (by omega) rfl rfl (zN 12 rfl (zH (pV 0 rfl) 1 j rfl rfl rfl (by omega) rfl (zN 13 rfl (za 0 j (zI q a) rfl (fun _ => rfl) rfl (by omega) rfl rfl rfl (by omega) (zN 14 rfl ?_))))))))
       refine zH (pV 0 rfl) 1 a rfl rfl rfl (by simp only [List.length_set]; omega) rfl (zN 15 rfl (za 0 a (zI q j) rfl (fun _ => rfl) rfl (by omega) rfl rfl rfl (by simp only [List.length_set]; omega) (zG [] rfl (by decide) (fun w' hw hS => zR ?_))))
       exact ⟨yp q j a, ⟨rfl, trivial⟩, rfl, hw⟩
     ·
      refine zX 11 rfl hw (zV (pV 0 rfl) 1 j 0 (fun _ => rfl) rfl rfl (by omega) rfl rfl (zN 6 rfl (zH (pV 0 rfl) 1 a rfl rfl rfl (by omega) rfl (zN 7 rfl (zV (pV 0 rfl) 1 a 0 (fun _ => rfl) rfl rfl (by omega) rfl rfl (zN 12 rfl (zH (pV 0 rfl) 1 j rfl rfl rfl (by omega) rfl (zN 13 rfl ?_))))))))
      refine za 0 j (zI q a) rfl (fun _ => rfl) rfl (by omega) rfl rfl rfl (by omega) (zN 14 rfl (zH (pV 0 rfl) 1 a rfl rfl rfl (by simp only [List.length_set]; omega) rfl (zN 15 rfl (za 0 a (zI q j) rfl (fun _ => rfl) rfl (by omega) rfl rfl rfl (by simp only [List.length_set]; omega) (zG [] rfl (by decide) (fun w' hw hS => zR ?_))))))
      exact ⟨yp q j a, ⟨rfl, trivial⟩, rfl, hw⟩
   have hn := hΦ
   refine zB (zC rfl (zD rfl (zD rfl (zA ?_))))
   exact zM (xK (v := Vj j) (v' := .bool true) rfl rfl rfl (fun w' hw => ⟨n, j, true, rfl, (by rw [hn]; exact hSq.then_swp ⟨by omega, by omega⟩ ⟨by omega, by omega⟩ hb), ⟨by omega, by omega⟩, (by rw [hn]; exact zEq (by rw [show j + 1 = i by omega]; exact hLo2) hHi2 (by omega) (by omega) (by omega)), hw⟩))
  ·
   refine zK (xB (fun (n : List Nat) => [(0, v), (1, Vj a), (10, Vj i), (11, Vj j)]) (fun (n : List Nat) => n = yp q i j) (fun (n : List Nat) => [Res.vec 28 1 v n.length (n.flatMap U1)]) ?_ (fun n g hΦ => ?_))
   ·
    refine zg [] rfl (by decide) (by kernel_rfl) (fun w' hw hS => zF 0 rfl (zQ) hS (zF 1 rfl (zQ) hS (zF 2 rfl (zQ) hS (zF 3 rfl (zQ) hS (zF 4 rfl (zQ) hS (zF 5 rfl (zQ) hS (zF 8 rfl (zQ) hS (zF 9 rfl (zQ) hS (zk 6 10 ?_ ?_)))))))))
    ·
     refine zX 6 rfl hw (zH (pV 0 rfl) 1 j rfl rfl rfl (by omega) rfl (zG [] rfl (by decide) (fun w' hw hS => zk 7 10 ?_ ?_)))
     ·
      refine zX 7 rfl hw (zV (pV 0 rfl) 1 j 0 (fun _ => rfl) rfl rfl (by omega) rfl rfl (zN 10 rfl (zH (pV 0 rfl) 1 i rfl rfl rfl (by omega) rfl (zN 11 rfl (zV (pV 0 rfl) 1 i 0 (fun _ => rfl) rfl rfl (by omega) rfl rfl (zN 12 rfl (zH (pV 0 rfl) 1 i rfl rfl rfl (by omega) rfl (zN 13 rfl ?_))))))))
      refine za 0 i (zI q j) rfl (fun _ => rfl) rfl (by omega) rfl rfl rfl (by omega) (zN 14 rfl (zH (pV 0 rfl) 1 j rfl rfl rfl (by simp only [List.length_set]; omega) rfl (zN 15 rfl (za 0 j (zI q i) rfl (fun _ => rfl) rfl (by omega) rfl rfl rfl (by simp only [List.length_set]; omega) (zG [] rfl (by decide) (fun w' hw hS => zR ?_))))))
      exact ⟨yp q i j, ⟨rfl, rfl, rfl, rfl, trivial⟩, rfl, hw⟩
     ·
      refine zX 10 rfl hw (zH (pV 0 rfl) 1 i rfl rfl rfl (by omega) rfl (zG [] rfl (by decide) (fun w' hw hS => zk 7 11 ?_ ?_)))
      ·
       refine zX 7 rfl hw (zV (pV 0 rfl) 1 j 0 (fun _ => rfl) rfl rfl (by omega) rfl rfl (zN 11 rfl (zV (pV 0 rfl) 1 i 0 (fun _ => rfl) rfl rfl (by omega) rfl rfl (zN 12 rfl (zH (pV 0 rfl) 1 i rfl rfl rfl (by omega) rfl (zN 13 rfl (za 0 i (zI q j) rfl (fun _ => rfl) rfl (by omega) rfl rfl rfl (by omega) (zN 14 rfl ?_))))))))
       refine zH (pV 0 rfl) 1 j rfl rfl rfl (by simp only [List.length_set]; omega) rfl (zN 15 rfl (za 0 j (zI q i) rfl (fun _ => rfl) rfl (by omega) rfl rfl rfl (by simp only [List.length_set]; omega) (zG [] rfl (by decide) (fun w' hw hS => zR ?_))))
       exact ⟨yp q i j, ⟨rfl, rfl, rfl, rfl, trivial⟩, rfl, hw⟩
      ·
       refine zX 11 rfl hw (zV (pV 0 rfl) 1 i 0 (fun _ => rfl) rfl rfl (by omega) rfl rfl (zN 7 rfl (zV (pV 0 rfl) 1 j 0 (fun _ => rfl) rfl rfl (by omega) rfl rfl (zN 12 rfl (zH (pV 0 rfl) 1 i rfl rfl rfl (by omega) rfl (zN 13 rfl (za 0 i (zI q j) rfl (fun _ => rfl) rfl (by omega) rfl rfl rfl (by omega) (zN 14 rfl ?_))))))))
       refine zH (pV 0 rfl) 1 j rfl rfl rfl (by simp only [List.length_set]; omega) rfl (zN 15 rfl (za 0 j (zI q i) rfl (fun _ => rfl) rfl (by omega) rfl rfl rfl (by simp only [List.length_set]; omega) (zG [] rfl (by decide) (fun w' hw hS => zR ?_))))
       exact ⟨yp q i j, ⟨rfl, rfl, rfl, rfl, trivial⟩, rfl, hw⟩
    ·
     refine zX 10 rfl hw (zH (pV 0 rfl) 1 i rfl rfl rfl (by omega) rfl (zG [] rfl (by decide) (fun w' hw hS => zk 6 11 ?_ ?_)))
     ·
      refine zX 6 rfl hw (zH (pV 0 rfl) 1 j rfl rfl rfl (by omega) rfl (zG [] rfl (by decide) (fun w' hw hS => zk 7 11 ?_ ?_)))
      ·
       refine zX 7 rfl hw (zV (pV 0 rfl) 1 j 0 (fun _ => rfl) rfl rfl (by omega) rfl rfl (zN 11 rfl (zV (pV 0 rfl) 1 i 0 (fun _ => rfl) rfl rfl (by omega) rfl rfl (zN 12 rfl (zH (pV 0 rfl) 1 i rfl rfl rfl (by omega) rfl (zN 13 rfl (za 0 i (zI q j) rfl (fun _ => rfl) rfl (by omega) rfl rfl rfl (by omega) (zN 14 rfl ?_))))))))
       refine zH (pV 0 rfl) 1 j rfl rfl rfl (by simp only [List.length_set]; omega) rfl (zN 15 rfl (za 0 j (zI q i) rfl (fun _ => rfl) rfl (by omega) rfl rfl rfl (by simp only [List.length_set]; omega) (zG [] rfl (by decide) (fun w' hw hS => zR ?_))))
       exact ⟨yp q i j, ⟨rfl, rfl, rfl, rfl, trivial⟩, rfl, hw⟩
      ·
       refine zX 11 rfl hw (zV (pV 0 rfl) 1 i 0 (fun _ => rfl) rfl rfl (by omega) rfl rfl (zN 7 rfl (zV (pV 0 rfl) 1 j 0 (fun _ => rfl) rfl rfl (by omega) rfl rfl (zN 12 rfl (zH (pV 0 rfl) 1 i rfl rfl rfl (by omega) rfl (zN 13 rfl (za 0 i (zI q j) rfl (fun _ => rfl) rfl (by omega) rfl rfl rfl (by omega) (zN 14 rfl ?_))))))))
       refine zH (pV 0 rfl) 1 j rfl rfl rfl (by simp only [List.length_set]; omega) rfl (zN 15 rfl (za 0 j (zI q i) rfl (fun _ => rfl) rfl (by omega) rfl rfl rfl (by simp only [List.length_set]; omega) (zG [] rfl (by decide) (fun w' hw hS => zR ?_))))
       exact ⟨yp q i j, ⟨rfl, rfl, rfl, rfl, trivial⟩, rfl, hw⟩
     ·
      refine zX 11 rfl hw (zV (pV 0 rfl) 1 i 0 (fun _ => rfl) rfl rfl (by omega) rfl rfl (zN 6 rfl (zH (pV 0 rfl) 1 j rfl rfl rfl (by omega) rfl (zN 7 rfl (zV (pV 0 rfl) 1 j 0 (fun _ => rfl) rfl rfl (by omega) rfl rfl (zN 12 rfl (zH (pV 0 rfl) 1 i rfl rfl rfl (by omega) rfl (zN 13 rfl ?_))))))))
      refine za 0 i (zI q j) rfl (fun _ => rfl) rfl (by omega) rfl rfl rfl (by omega) (zN 14 rfl (zH (pV 0 rfl) 1 j rfl rfl rfl (by simp only [List.length_set]; omega) rfl (zN 15 rfl (za 0 j (zI q i) rfl (fun _ => rfl) rfl (by omega) rfl rfl rfl (by simp only [List.length_set]; omega) (zG [] rfl (by decide) (fun w' hw hS => zR ?_))))))
      exact ⟨yp q i j, ⟨rfl, rfl, rfl, rfl, trivial⟩, rfl, hw⟩
   have hn := hΦ
   have hij : i < j := (by have h1 := hlt (by omega); have h2 := hge (by omega); rcases Nat.lt_or_ge i j with h | h; exact h; rw [show i = j by omega] at h2; exact absurd h1 h2)
   have hsw := zDR hLo2 hHi2 hij (by omega) (by omega) (by omega) (hge (by omega)) (hlt (by omega))
   refine zB (zC rfl (zt rfl rfl (zr (by omega)) rfl (zD rfl (zA (zB (zC rfl (yX (c := ((j - 1 : Nat) : Int)) rfl rfl (kO (by omega) (by omega)) rfl (zD rfl (zA (zL (zT ?_)))))))))))
   refine xS (fun (i j : Nat) (q : List Nat) => [(0, v), (1, Vj a), (10, Vj i), (11, Vj j)]) (fun (i j : Nat) (q : List Nat) => ((a + 1 ≤ i ∧ i ≤ j + 1) ∧ j < b) ∧ Same a b l q ∧ Lo a i q ∧ Hi a j b q) (fun (i j : Nat) (q : List Nat) => [Res.vec 28 1 v q.length (q.flatMap U1)]) (fun (i j : Nat) (q : List Nat) => j + 1 - i) (fun w' hw => ⟨i + 1, j - 1, n, ⟨rfl, rfl, rfl, rfl, trivial⟩, ⟨⟨⟨by omega, by omega⟩, by omega⟩, (by rw [hn]; exact hSq.then_swp ⟨by omega, by omega⟩ ⟨by omega, by omega⟩ hb), (by rw [hn]; exact hsw.1), (by rw [hn]; exact hsw.2)⟩, hw⟩) (fun i j q g hΦ => ?_)
   have hij3 := hΦ.1
   have hS3 := hΦ.2.1
   have hL3 := hΦ.2.2.1
   have hH3 := hΦ.2.2.2
   have hq3 := hS3.len
   refine zT (xB (fun (i2 : Nat) => [(0, v), (1, Vj a), (10, Vj i2), (11, Vj j)]) (fun (i2 : Nat) => (i ≤ i2 ∧ i2 ≤ j + 1) ∧ Lo a i2 q ∧ (i2 ≤ j → x3 (zI q a) (zI q i2))) (fun (i2 : Nat) => [Res.vec 28 1 v q.length (q.flatMap U1)]) ?_ (fun i2 g hΦ => ?_))
   ·
    refine zT ?_
    refine xG (fun (i2 : Nat) => [(0, v), (1, Vj a), (10, Vj i2), (11, Vj j)]) (fun (i2 : Nat) => (i ≤ i2 ∧ i2 ≤ j + 1) ∧ Lo a i2 q) (fun (i2 : Nat) => [Res.vec 28 1 v q.length (q.flatMap U1)]) (fun (i2 : Nat) => j + 1 - i2) (fun w' hw => ⟨i, ⟨rfl, rfl, rfl, rfl, trivial⟩, ⟨⟨by omega, by omega⟩, hL3⟩, hw⟩) (fun i2 g hΦ => ?_)
    have hi4 := hΦ.1
    have hL4 := hΦ.2
    refine zL (zL (zg [0] rfl (by decide) (by kernel_rfl) (fun w' hw hS => zF 0 rfl (zQ) hS (zF 1 rfl (zQ) hS (zF 2 rfl (zAj rfl rfl) hS (zF 3 rfl (zQ) hS ?_))))))
    by_cases g13_3 : ((i2 : Nat) : Int) ≤ ((j : Nat) : Int)
    ·
     refine zl 4 rfl rfl (gT g13_3) (zQ) hS (zl 5 rfl rfl (gT g13_3) (zQ) hS (zl 6 rfl rfl (gT g13_3) (yR (pV 0 rfl) 1 i2 rfl rfl rfl (by omega)) hS (zl 7 rfl rfl (gT g13_3) (yq (pV 0 rfl) 1 i2 0 (fun _ => rfl) rfl rfl (by omega) rfl) hS (zl 8 rfl rfl (gT g13_3) (zQ) hS (zl 9 rfl rfl (gT g13_3) (zQ) hS (zl 10 rfl rfl (gT g13_3) (yR (pV 0 rfl) 1 a rfl rfl rfl (by omega)) hS (zl 11 rfl rfl (gT g13_3) (yq (pV 0 rfl) 1 a 0 (fun _ => rfl) rfl rfl (by omega) rfl) hS (zY 12 rfl hw (zO rfl (gT g13_3) (zJ rfl rfl (fun w' hw => (kJ (zI q i2) (zI q a) w').mono ?_)))))))))))
     rintro _ w1 ⟨rfl, hO⟩
     refine (?_ : CL _ _ _ _ _ _ (Own w S [Res.vec 28 1 v q.length (q.flatMap U1)])) w1 (hw.frame0 hO)
     refine zG [0] rfl (by decide) (fun w' hw hS => zF 13 rfl (y5 (gT g13_3)) hS (zR ?_))
     refine (?_ : C _ _ _ _ _ _ _ (Own w S [Res.vec 28 1 v q.length (q.flatMap U1)])) _ hw
     refine zU rfl (fun c6 => ?_) (fun c6 => ?_)
     ·
      refine zK (zT (zd (zC rfl (zt rfl rfl (zr (by omega)) rfl (zD rfl ?_)))))
      exact zj (fun w' hw => ⟨i2 + 1, ⟨rfl, rfl, rfl, rfl, trivial⟩, ⟨⟨by omega, by omega⟩, hL4.step c6⟩, hw, (by omega)⟩)
     ·
      exact xA rfl (fun w' hw => ⟨i2, ⟨rfl, rfl, rfl, rfl, trivial⟩, ⟨hi4, hL4, fun _ => c6⟩, hw⟩)
    ·
     refine zc 4 rfl rfl (gF g13_3) rfl hS (zc 5 rfl rfl (gF g13_3) rfl hS (zc 6 rfl rfl (gF g13_3) rfl hS (zc 7 rfl rfl (gF g13_3) rfl hS (zc 8 rfl rfl (gF g13_3) rfl hS (zc 9 rfl rfl (gF g13_3) rfl hS (zc 10 rfl rfl (gF g13_3) rfl hS (zc 11 rfl rfl (gF g13_3) rfl hS (zc 12 rfl rfl (gF g13_3) rfl hS (zF 13 rfl (yz (gF g13_3)) hS (zR ?_))))))))))
     refine (?_ : C _ _ _ _ _ _ _ (Own w S [Res.vec 28 1 v q.length (q.flatMap U1)])) _ hw
     refine xQ rfl ?_
     exact xA rfl (fun w' hw => ⟨i2, ⟨rfl, rfl, rfl, rfl, trivial⟩, ⟨hi4, hL4, fun h => absurd h (by omega)⟩, hw⟩)
   have hi5 := hΦ.1
   have hL5 := hΦ.2.1
   have hge5 := hΦ.2.2
   refine xB (fun (j2 : Nat) => [(0, v), (1, Vj a), (10, Vj i2), (11, Vj j2)]) (fun (j2 : Nat) => (i2 ≤ j2 + 1 ∧ j2 ≤ j) ∧ Hi a j2 b q ∧ (i2 ≤ j2 → olt (zI q j2) (zI q a))) (fun (j2 : Nat) => [Res.vec 28 1 v q.length (q.flatMap U1)]) ?_ (fun j2 g hΦ => ?_)
   ·
    refine zT ?_
    refine xG (fun (j2 : Nat) => [(0, v), (1, Vj a), (10, Vj i2), (11, Vj j2)]) (fun (j2 : Nat) => (i2 ≤ j2 + 1 ∧ j2 ≤ j) ∧ Hi a j2 b q) (fun (j2 : Nat) => [Res.vec 28 1 v q.length (q.flatMap U1)]) (fun (j2 : Nat) => j2) (fun w' hw => ⟨j, ⟨rfl, rfl, rfl, rfl, trivial⟩, ⟨⟨by omega, by omega⟩, hH3⟩, hw⟩) (fun j2 g hΦ => ?_)
    have hj6 := hΦ.1
    have hH6 := hΦ.2
    refine zL (zL (zg [0] rfl (by decide) (by kernel_rfl) (fun w' hw hS => zF 0 rfl (zQ) hS (zF 1 rfl (zQ) hS (zF 2 rfl (zAj rfl rfl) hS (zF 3 rfl (zQ) hS ?_))))))
    by_cases g15_3 : ((i2 : Nat) : Int) ≤ ((j2 : Nat) : Int)
    ·
     refine zl 4 rfl rfl (gT g15_3) (zQ) hS (zl 5 rfl rfl (gT g15_3) (zQ) hS (zl 6 rfl rfl (gT g15_3) (yR (pV 0 rfl) 1 j2 rfl rfl rfl (by omega)) hS (zl 7 rfl rfl (gT g15_3) (yq (pV 0 rfl) 1 j2 0 (fun _ => rfl) rfl rfl (by omega) rfl) hS (zl 8 rfl rfl (gT g15_3) (zQ) hS (zl 9 rfl rfl (gT g15_3) (zQ) hS (zl 10 rfl rfl (gT g15_3) (yR (pV 0 rfl) 1 a rfl rfl rfl (by omega)) hS (zl 11 rfl rfl (gT g15_3) (yq (pV 0 rfl) 1 a 0 (fun _ => rfl) rfl rfl (by omega) rfl) hS (zY 12 rfl hw (zO rfl (gT g15_3) (zJ rfl rfl (fun w' hw => (kJ (zI q j2) (zI q a) w').mono ?_)))))))))))
     rintro _ w1 ⟨rfl, hO⟩
     refine (?_ : CL _ _ _ _ _ _ (Own w S [Res.vec 28 1 v q.length (q.flatMap U1)])) w1 (hw.frame0 hO)
     refine zG [0] rfl (by decide) (fun w' hw hS => zl 13 rfl rfl (gT g15_3) (jN (q := olt (zI q j2) (zI q a)) rfl) hS (zF 14 rfl (y5 (gT g15_3)) hS (zR ?_)))
     refine (?_ : C _ _ _ _ _ _ _ (Own w S [Res.vec 28 1 v q.length (q.flatMap U1)])) _ hw
     refine zU rfl (fun c8 => ?_) (fun c8 => ?_)
     ·
      refine zK (zT (zd (zC rfl (yX (c := ((j2 - 1 : Nat) : Int)) rfl rfl (kO (by omega) (by omega)) rfl (zD rfl ?_)))))
      exact zj (fun w' hw => ⟨j2 - 1, ⟨rfl, rfl, rfl, rfl, trivial⟩, ⟨⟨by omega, by omega⟩, hH6.step c8⟩, hw, (by omega)⟩)
     ·
      exact xA rfl (fun w' hw => ⟨j2, ⟨rfl, rfl, rfl, rfl, trivial⟩, ⟨hj6, hH6, fun _ => Decidable.not_not.1 c8⟩, hw⟩)
    ·
     refine zc 4 rfl rfl (gF g15_3) rfl hS (zc 5 rfl rfl (gF g15_3) rfl hS (zc 6 rfl rfl (gF g15_3) rfl hS (zc 7 rfl rfl (gF g15_3) rfl hS (zc 8 rfl rfl (gF g15_3) rfl hS (zc 9 rfl rfl (gF g15_3) rfl hS (zc 10 rfl rfl (gF g15_3) rfl hS (zc 11 rfl rfl (gF g15_3) rfl hS (zc 12 rfl rfl (gF g15_3) rfl hS (zc 13 rfl rfl (gF g15_3) rfl hS (zF 14 rfl (yz (gF g15_3)) hS (zR ?_)))))))))))
     refine (?_ : C _ _ _ _ _ _ _ (Own w S [Res.vec 28 1 v q.length (q.flatMap U1)])) _ hw
     refine xQ rfl ?_
     exact xA rfl (fun w' hw => ⟨j2, ⟨rfl, rfl, rfl, rfl, trivial⟩, ⟨hj6, hH6, fun h => absurd h (by omega)⟩, hw⟩)
   have hj7 := hΦ.1
   have hH7 := hΦ.2.1
   have hlt7 := hΦ.2.2
   refine zL (zB (zC rfl (zC rfl (yg rfl rfl rfl (zA (zU rfl (fun c10 => ?_) (fun c10 => ?_)))))))
   ·
    refine yG rfl (xB (fun (n : List Nat) => [(11, Vj j2)]) (fun (n : List Nat) => n = yp q j2 a) (fun (n : List Nat) => [Res.vec 28 1 v n.length (n.flatMap U1)]) ?_ (fun n g hΦ => ?_))
    ·
     refine zg [] rfl (by decide) (by kernel_rfl) (fun w' hw hS => zF 0 rfl (zQ) hS (zF 1 rfl (zQ) hS (zF 2 rfl (zQ) hS (zF 3 rfl (zQ) hS (zF 4 rfl (zQ) hS (zF 5 rfl (zQ) hS (zF 8 rfl (zQ) hS (zF 9 rfl (zQ) hS (zk 6 10 ?_ ?_)))))))))
     ·
      refine zX 6 rfl hw (zH (pV 0 rfl) 1 a rfl rfl rfl (by omega) rfl (zG [] rfl (by decide) (fun w' hw hS => zk 7 10 ?_ ?_)))
      ·
       refine zX 7 rfl hw (zV (pV 0 rfl) 1 a 0 (fun _ => rfl) rfl rfl (by omega) rfl rfl (zN 10 rfl (zH (pV 0 rfl) 1 j2 rfl rfl rfl (by omega) rfl (zN 11 rfl (zV (pV 0 rfl) 1 j2 0 (fun _ => rfl) rfl rfl (by omega) rfl rfl (zN 12 rfl (zH (pV 0 rfl) 1 j2 rfl rfl rfl (by omega) rfl (zN 13 rfl ?_))))))))
       refine za 0 j2 (zI q a) rfl (fun _ => rfl) rfl (by omega) rfl rfl rfl (by omega) (zN 14 rfl (zH (pV 0 rfl) 1 a rfl rfl rfl (by simp only [List.length_set]; omega) rfl (zN 15 rfl (za 0 a (zI q j2) rfl (fun _ => rfl) rfl (by omega) rfl rfl rfl (by simp only [List.length_set]; omega) (zG [] rfl (by decide) (fun w' hw hS => zR ?_))))))
       exact ⟨yp q j2 a, ⟨rfl, trivial⟩, rfl, hw⟩
      ·
       refine zX 10 rfl hw (zH (pV 0 rfl) 1 j2 rfl rfl rfl (by omega) rfl (zG [] rfl (by decide) (fun w' hw hS => zk 7 11 ?_ ?_)))
       ·
        refine zX 7 rfl hw (zV (pV 0 rfl) 1 a 0 (fun _ => rfl) rfl rfl (by omega) rfl rfl (zN 11 rfl (zV (pV 0 rfl) 1 j2 0 (fun _ => rfl) rfl rfl (by omega) rfl rfl (zN 12 rfl (zH (pV 0 rfl) 1 j2 rfl rfl rfl (by omega) rfl (zN 13 rfl (za 0 j2 (zI q a) rfl (fun _ => rfl) rfl (by omega) rfl rfl rfl (by omega) (zN 14 rfl ?_))))))))
        refine zH (pV 0 rfl) 1 a rfl rfl rfl (by simp only [List.length_set]; omega) rfl (zN 15 rfl (za 0 a (zI q j2) rfl (fun _ => rfl) rfl (by omega) rfl rfl rfl (by simp only [List.length_set]; omega) (zG [] rfl (by decide) (fun w' hw hS => zR ?_))))
        exact ⟨yp q j2 a, ⟨rfl, trivial⟩, rfl, hw⟩
       ·
        refine zX 11 rfl hw (zV (pV 0 rfl) 1 j2 0 (fun _ => rfl) rfl rfl (by omega) rfl rfl (zN 7 rfl (zV (pV 0 rfl) 1 a 0 (fun _ => rfl) rfl rfl (by omega) rfl rfl (zN 12 rfl (zH (pV 0 rfl) 1 j2 rfl rfl rfl (by omega) rfl (zN 13 rfl (za 0 j2 (zI q a) rfl (fun _ => rfl) rfl (by omega) rfl rfl rfl (by omega) (zN 14 rfl ?_))))))))
        refine zH (pV 0 rfl) 1 a rfl rfl rfl (by simp only [List.length_set]; omega) rfl (zN 15 rfl (za 0 a (zI q j2) rfl (fun _ => rfl) rfl (by omega) rfl rfl rfl (by simp only [List.length_set]; omega) (zG [] rfl (by decide) (fun w' hw hS => zR ?_))))
        exact ⟨yp q j2 a, ⟨rfl, trivial⟩, rfl, hw⟩
     ·
      refine zX 10 rfl hw (zH (pV 0 rfl) 1 j2 rfl rfl rfl (by omega) rfl (zG [] rfl (by decide) (fun w' hw hS => zk 6 11 ?_ ?_)))
      ·
       refine zX 6 rfl hw (zH (pV 0 rfl) 1 a rfl rfl rfl (by omega) rfl (zG [] rfl (by decide) (fun w' hw hS => zk 7 11 ?_ ?_)))
       ·
        refine zX 7 rfl hw (zV (pV 0 rfl) 1 a 0 (fun _ => rfl) rfl rfl (by omega) rfl rfl (zN 11 rfl (zV (pV 0 rfl) 1 j2 0 (fun _ => rfl) rfl rfl (by omega) rfl rfl (zN 12 rfl (zH (pV 0 rfl) 1 j2 rfl rfl rfl (by omega) rfl (zN 13 rfl (za 0 j2 (zI q a) rfl (fun _ => rfl) rfl (by omega) rfl rfl rfl (by omega) (zN 14 rfl ?_))))))))
        refine zH (pV 0 rfl) 1 a rfl rfl rfl (by simp only [List.length_set]; omega) rfl (zN 15 rfl (za 0 a (zI q j2) rfl (fun _ => rfl) rfl (by omega) rfl rfl rfl (by simp only [List.length_set]; omega) (zG [] rfl (by decide) (fun w' hw hS => zR ?_))))
        exact ⟨yp q j2 a, ⟨rfl, trivial⟩, rfl, hw⟩
       ·
        refine zX 11 rfl hw (zV (pV 0 rfl) 1 j2 0 (fun _ => rfl) rfl rfl (by omega) rfl rfl (zN 7 rfl (zV (pV 0 rfl) 1 a 0 (fun _ => rfl) rfl rfl (by omega) rfl rfl (zN 12 rfl (zH (pV 0 rfl) 1 j2 rfl rfl rfl (by omega) rfl (zN 13 rfl (za 0 j2 (zI q a) rfl (fun _ => rfl) rfl (by omega) rfl rfl rfl (by omega) (zN 14 rfl ?_))))))))
        refine zH (pV 0 rfl) 1 a rfl rfl rfl (by simp only [List.length_set]; omega) rfl (zN 15 rfl (za 0 a (zI q j2) rfl (fun _ => rfl) rfl (by omega) rfl rfl rfl (by simp only [List.length_set]; omega) (zG [] rfl (by decide) (fun w' hw hS => zR ?_))))
        exact ⟨yp q j2 a, ⟨rfl, trivial⟩, rfl, hw⟩
      ·
       refine zX 11 rfl hw (zV (pV 0 rfl) 1 j2 0 (fun _ => rfl) rfl rfl (by omega) rfl rfl (zN 6 rfl (zH (pV 0 rfl) 1 a rfl rfl rfl (by omega) rfl (zN 7 rfl (zV (pV 0 rfl) 1 a 0 (fun _ => rfl) rfl rfl (by omega) rfl rfl (zN 12 rfl (zH (pV 0 rfl) 1 j2 rfl rfl rfl (by omega) rfl (zN 13 rfl ?_))))))))
       refine za 0 j2 (zI q a) rfl (fun _ => rfl) rfl (by omega) rfl rfl rfl (by omega) (zN 14 rfl (zH (pV 0 rfl) 1 a rfl rfl rfl (by simp only [List.length_set]; omega) rfl (zN 15 rfl (za 0 a (zI q j2) rfl (fun _ => rfl) rfl (by omega) rfl rfl rfl (by simp only [List.length_set]; omega) (zG [] rfl (by decide) (fun w' hw hS => zR ?_))))))
       exact ⟨yp q j2 a, ⟨rfl, trivial⟩, rfl, hw⟩
    have hn := hΦ
    refine zB (zC rfl (zD rfl (zD rfl (zA ?_))))
    exact zM (xK (v := Vj j2) (v' := .bool false) rfl rfl rfl (fun w' hw => ⟨n, j2, false, rfl, (by rw [hn]; exact hS3.then_swp ⟨by omega, by omega⟩ ⟨by omega, by omega⟩ hb), ⟨by omega, by omega⟩, (by rw [hn]; exact zEq (by rw [show j2 + 1 = i2 by omega]; exact hL5) hH7 (by omega) (by omega) (by omega)), hw⟩))
   ·
    refine zK (xB (fun (n : List Nat) => [(0, v), (1, Vj a), (10, Vj i2), (11, Vj j2)]) (fun (n : List Nat) => n = yp q i2 j2) (fun (n : List Nat) => [Res.vec 28 1 v n.length (n.flatMap U1)]) ?_ (fun n g hΦ => ?_))
    ·
     refine zg [] rfl (by decide) (by kernel_rfl) (fun w' hw hS => zF 0 rfl (zQ) hS (zF 1 rfl (zQ) hS (zF 2 rfl (zQ) hS (zF 3 rfl (zQ) hS (zF 4 rfl (zQ) hS (zF 5 rfl (zQ) hS (zF 8 rfl (zQ) hS (zF 9 rfl (zQ) hS (zk 6 10 ?_ ?_)))))))))
     ·
      refine zX 6 rfl hw (zH (pV 0 rfl) 1 j2 rfl rfl rfl (by omega) rfl (zG [] rfl (by decide) (fun w' hw hS => zk 7 10 ?_ ?_)))
      ·
       refine zX 7 rfl hw (zV (pV 0 rfl) 1 j2 0 (fun _ => rfl) rfl rfl (by omega) rfl rfl (zN 10 rfl (zH (pV 0 rfl) 1 i2 rfl rfl rfl (by omega) rfl (zN 11 rfl (zV (pV 0 rfl) 1 i2 0 (fun _ => rfl) rfl rfl (by omega) rfl rfl (zN 12 rfl (zH (pV 0 rfl) 1 i2 rfl rfl rfl (by omega) rfl (zN 13 rfl ?_))))))))
       refine za 0 i2 (zI q j2) rfl (fun _ => rfl) rfl (by omega) rfl rfl rfl (by omega) (zN 14 rfl (zH (pV 0 rfl) 1 j2 rfl rfl rfl (by simp only [List.length_set]; omega) rfl (zN 15 rfl (za 0 j2 (zI q i2) rfl (fun _ => rfl) rfl (by omega) rfl rfl rfl (by simp only [List.length_set]; omega) (zG [] rfl (by decide) (fun w' hw hS => zR ?_))))))
       exact ⟨yp q i2 j2, ⟨rfl, rfl, rfl, rfl, trivial⟩, rfl, hw⟩
      ·
       refine zX 10 rfl hw (zH (pV 0 rfl) 1 i2 rfl rfl rfl (by omega) rfl (zG [] rfl (by decide) (fun w' hw hS => zk 7 11 ?_ ?_)))
       ·
        refine zX 7 rfl hw (zV (pV 0 rfl) 1 j2 0 (fun _ => rfl) rfl rfl (by omega) rfl rfl (zN 11 rfl (zV (pV 0 rfl) 1 i2 0 (fun _ => rfl) rfl rfl (by omega) rfl rfl (zN 12 rfl (zH (pV 0 rfl) 1 i2 rfl rfl rfl (by omega) rfl (zN 13 rfl (za 0 i2 (zI q j2) rfl (fun _ => rfl) rfl (by omega) rfl rfl rfl (by omega) (zN 14 rfl ?_))))))))
        refine zH (pV 0 rfl) 1 j2 rfl rfl rfl (by simp only [List.length_set]; omega) rfl (zN 15 rfl (za 0 j2 (zI q i2) rfl (fun _ => rfl) rfl (by omega) rfl rfl rfl (by simp only [List.length_set]; omega) (zG [] rfl (by decide) (fun w' hw hS => zR ?_))))
        exact ⟨yp q i2 j2, ⟨rfl, rfl, rfl, rfl, trivial⟩, rfl, hw⟩
       ·
        refine zX 11 rfl hw (zV (pV 0 rfl) 1 i2 0 (fun _ => rfl) rfl rfl (by omega) rfl rfl (zN 7 rfl (zV (pV 0 rfl) 1 j2 0 (fun _ => rfl) rfl rfl (by omega) rfl rfl (zN 12 rfl (zH (pV 0 rfl) 1 i2 rfl rfl rfl (by omega) rfl (zN 13 rfl (za 0 i2 (zI q j2) rfl (fun _ => rfl) rfl (by omega) rfl rfl rfl (by omega) (zN 14 rfl ?_))))))))
        refine zH (pV 0 rfl) 1 j2 rfl rfl rfl (by simp only [List.length_set]; omega) rfl (zN 15 rfl (za 0 j2 (zI q i2) rfl (fun _ => rfl) rfl (by omega) rfl rfl rfl (by simp only [List.length_set]; omega) (zG [] rfl (by decide) (fun w' hw hS => zR ?_))))
        exact ⟨yp q i2 j2, ⟨rfl, rfl, rfl, rfl, trivial⟩, rfl, hw⟩
     ·
      refine zX 10 rfl hw (zH (pV 0 rfl) 1 i2 rfl rfl rfl (by omega) rfl (zG [] rfl (by decide) (fun w' hw hS => zk 6 11 ?_ ?_)))
      ·
       refine zX 6 rfl hw (zH (pV 0 rfl) 1 j2 rfl rfl rfl (by omega) rfl (zG [] rfl (by decide) (fun w' hw hS => zk 7 11 ?_ ?_)))
       ·
        refine zX 7 rfl hw (zV (pV 0 rfl) 1 j2 0 (fun _ => rfl) rfl rfl (by omega) rfl rfl (zN 11 rfl (zV (pV 0 rfl) 1 i2 0 (fun _ => rfl) rfl rfl (by omega) rfl rfl (zN 12 rfl (zH (pV 0 rfl) 1 i2 rfl rfl rfl (by omega) rfl (zN 13 rfl (za 0 i2 (zI q j2) rfl (fun _ => rfl) rfl (by omega) rfl rfl rfl (by omega) (zN 14 rfl ?_))))))))
        refine zH (pV 0 rfl) 1 j2 rfl rfl rfl (by simp only [List.length_set]; omega) rfl (zN 15 rfl (za 0 j2 (zI q i2) rfl (fun _ => rfl) rfl (by omega) rfl rfl rfl (by simp only [List.length_set]; omega) (zG [] rfl (by decide) (fun w' hw hS => zR ?_))))
        exact ⟨yp q i2 j2, ⟨rfl, rfl, rfl, rfl, trivial⟩, rfl, hw⟩
       ·
        refine zX 11 rfl hw (zV (pV 0 rfl) 1 i2 0 (fun _ => rfl) rfl rfl (by omega) rfl rfl (zN 7 rfl (zV (pV 0 rfl) 1 j2 0 (fun _ => rfl) rfl rfl (by omega) rfl rfl (zN 12 rfl (zH (pV 0 rfl) 1 i2 rfl rfl rfl (by omega) rfl (zN 13 rfl (za 0 i2 (zI q j2) rfl (fun _ => rfl) rfl (by omega) rfl rfl rfl (by omega) (zN 14 rfl ?_))))))))
        refine zH (pV 0 rfl) 1 j2 rfl rfl rfl (by simp only [List.length_set]; omega) rfl (zN 15 rfl (za 0 j2 (zI q i2) rfl (fun _ => rfl) rfl (by omega) rfl rfl rfl (by simp only [List.length_set]; omega) (zG [] rfl (by decide) (fun w' hw hS => zR ?_))))
        exact ⟨yp q i2 j2, ⟨rfl, rfl, rfl, rfl, trivial⟩, rfl, hw⟩
      ·
       refine zX 11 rfl hw (zV (pV 0 rfl) 1 i2 0 (fun _ => rfl) rfl rfl (by omega) rfl rfl (zN 6 rfl (zH (pV 0 rfl) 1 j2 rfl rfl rfl (by omega) rfl (zN 7 rfl (zV (pV 0 rfl) 1 j2 0 (fun _ => rfl) rfl rfl (by omega) rfl rfl (zN 12 rfl (zH (pV 0 rfl) 1 i2 rfl rfl rfl (by omega) rfl (zN 13 rfl ?_))))))))
       refine za 0 i2 (zI q j2) rfl (fun _ => rfl) rfl (by omega) rfl rfl rfl (by omega) (zN 14 rfl (zH (pV 0 rfl) 1 j2 rfl rfl rfl (by simp only [List.length_set]; omega) rfl (zN 15 rfl (za 0 j2 (zI q i2) rfl (fun _ => rfl) rfl (by omega) rfl rfl rfl (by simp only [List.length_set]; omega) (zG [] rfl (by decide) (fun w' hw hS => zR ?_))))))
       exact ⟨yp q i2 j2, ⟨rfl, rfl, rfl, rfl, trivial⟩, rfl, hw⟩
    have hn := hΦ
    have hij : i2 < j2 := (by have h1 := hlt7 (by omega); have h2 := hge5 (by omega); rcases Nat.lt_or_ge i2 j2 with h | h; exact h; rw [show i2 = j2 by omega] at h2; first | exact absurd h1 h2 | exact absurd h2 h1)
    have hsw := zDR hL5 hH7 hij (by omega) (by omega) (by omega) (hge5 (by omega)) (hlt7 (by omega))
    refine zB (zC rfl (zt rfl rfl (zr (by omega)) rfl (zD rfl (zA (zd (zC rfl (yX (c := ((j2 - 1 : Nat) : Int)) rfl rfl (kO (by omega) (by omega)) rfl (zD rfl ?_))))))))
    exact zj (fun w' hw => ⟨i2 + 1, j2 - 1, n, ⟨rfl, rfl, rfl, rfl, trivial⟩, ⟨⟨⟨by omega, by omega⟩, by omega⟩, (by rw [hn]; exact hS3.then_swp ⟨by omega, by omega⟩ ⟨by omega, by omega⟩ hb), (by rw [hn]; exact hsw.1), (by rw [hn]; exact hsw.2)⟩, hw, (by omega)⟩)
theorem zIQ {S : List Nat} (v : Value) (l : List Nat) (a b p : Nat) (w : World) (ha : a ≤ p ∧ p < b) (hb : b ≤ l.length) (hl : zb l.length) (hin : Own w S [Res.vec 28 1 v l.length (l.flatMap U1)] w) : Rets Tryz.prog 148 #[v, Vj a, Vj b, Vj p] w fun u_ w' => ∃ (l' : List Nat) (m : Nat), u_ = Vj m ∧ Same a b l l' ∧ (a + 1 ≤ m ∧ m ≤ b) ∧ Eqs a m b (zI l p) l' ∧ Own w S [Res.vec 28 1 v l'.length (l'.flatMap U1)] w' := by
  refine zW Tryz.func148 rfl Tryz.ntmps148 hin ?_
  refine zB (zD rfl (zA (xB (fun (q : List Nat) => [(0, v), (1, Vj a), (2, Vj b)]) (fun (q : List Nat) => Same a b l q ∧ zI q a = zI l p) (fun (q : List Nat) => [Res.vec 28 1 v q.length (q.flatMap U1)]) ?_ (fun q g hΦ => ?_))))
  ·
   refine zg [] rfl (by decide) (by kernel_rfl) (fun w' hw hS => zF 0 rfl (zQ) hS (zF 1 rfl (zQ) hS (zF 2 rfl (zQ) hS (zF 3 rfl (zQ) hS (zF 4 rfl (zQ) hS (zF 5 rfl (zQ) hS (zF 8 rfl (zQ) hS (zF 9 rfl (zQ) hS (zk 6 10 ?_ ?_)))))))))
   ·
    refine zX 6 rfl hw (zH (pV 0 rfl) 1 p rfl rfl rfl (by omega) rfl (zG [] rfl (by decide) (fun w' hw hS => zk 7 10 ?_ ?_)))
    ·
     refine zX 7 rfl hw (zV (pV 0 rfl) 1 p 0 (fun _ => rfl) rfl rfl (by omega) rfl rfl (zN 10 rfl (zH (pV 0 rfl) 1 a rfl rfl rfl (by omega) rfl (zN 11 rfl (zV (pV 0 rfl) 1 a 0 (fun _ => rfl) rfl rfl (by omega) rfl rfl (zN 12 rfl (zH (pV 0 rfl) 1 a rfl rfl rfl (by omega) rfl (zN 13 rfl ?_))))))))
     refine za 0 a (zI l p) rfl (fun _ => rfl) rfl (by omega) rfl rfl rfl (by omega) (zN 14 rfl (zH (pV 0 rfl) 1 p rfl rfl rfl (by simp only [List.length_set]; omega) rfl (zN 15 rfl (za 0 p (zI l a) rfl (fun _ => rfl) rfl (by omega) rfl rfl rfl (by simp only [List.length_set]; omega) (zG [] rfl (by decide) (fun w' hw hS => zR ?_))))))
     exact ⟨yp l a p, ⟨rfl, rfl, rfl, trivial⟩, ⟨Same.ex ⟨by omega, by omega⟩ ⟨by omega, by omega⟩ hb, kw (by omega) (by omega)⟩, hw⟩
    ·
     refine zX 10 rfl hw (zH (pV 0 rfl) 1 a rfl rfl rfl (by omega) rfl (zG [] rfl (by decide) (fun w' hw hS => zk 7 11 ?_ ?_)))
     ·
      refine zX 7 rfl hw (zV (pV 0 rfl) 1 p 0 (fun _ => rfl) rfl rfl (by omega) rfl rfl (zN 11 rfl (zV (pV 0 rfl) 1 a 0 (fun _ => rfl) rfl rfl (by omega) rfl rfl (zN 12 rfl (zH (pV 0 rfl) 1 a rfl rfl rfl (by omega) rfl (zN 13 rfl (za 0 a (zI l p) rfl (fun _ => rfl) rfl (by omega) rfl rfl rfl (by omega) (zN 14 rfl ?_))))))))
      refine zH (pV 0 rfl) 1 p rfl rfl rfl (by simp only [List.length_set]; omega) rfl (zN 15 rfl (za 0 p (zI l a) rfl (fun _ => rfl) rfl (by omega) rfl rfl rfl (by simp only [List.length_set]; omega) (zG [] rfl (by decide) (fun w' hw hS => zR ?_))))
      exact ⟨yp l a p, ⟨rfl, rfl, rfl, trivial⟩, ⟨Same.ex ⟨by omega, by omega⟩ ⟨by omega, by omega⟩ hb, kw (by omega) (by omega)⟩, hw⟩
     ·
      refine zX 11 rfl hw (zV (pV 0 rfl) 1 a 0 (fun _ => rfl) rfl rfl (by omega) rfl rfl (zN 7 rfl (zV (pV 0 rfl) 1 p 0 (fun _ => rfl) rfl rfl (by omega) rfl rfl (zN 12 rfl (zH (pV 0 rfl) 1 a rfl rfl rfl (by omega) rfl (zN 13 rfl (za 0 a (zI l p) rfl (fun _ => rfl) rfl (by omega) rfl rfl rfl (by omega) (zN 14 rfl ?_))))))))
      refine zH (pV 0 rfl) 1 p rfl rfl rfl (by simp only [List.length_set]; omega) rfl (zN 15 rfl (za 0 p (zI l a) rfl (fun _ => rfl) rfl (by omega) rfl rfl rfl (by simp only [List.length_set]; omega) (zG [] rfl (by decide) (fun w' hw hS => zR ?_))))
      exact ⟨yp l a p, ⟨rfl, rfl, rfl, trivial⟩, ⟨Same.ex ⟨by omega, by omega⟩ ⟨by omega, by omega⟩ hb, kw (by omega) (by omega)⟩, hw⟩
   ·
    refine zX 10 rfl hw (zH (pV 0 rfl) 1 a rfl rfl rfl (by omega) rfl (zG [] rfl (by decide) (fun w' hw hS => zk 6 11 ?_ ?_)))
    ·
     refine zX 6 rfl hw (zH (pV 0 rfl) 1 p rfl rfl rfl (by omega) rfl (zG [] rfl (by decide) (fun w' hw hS => zk 7 11 ?_ ?_)))
     ·
      refine zX 7 rfl hw (zV (pV 0 rfl) 1 p 0 (fun _ => rfl) rfl rfl (by omega) rfl rfl (zN 11 rfl (zV (pV 0 rfl) 1 a 0 (fun _ => rfl) rfl rfl (by omega) rfl rfl (zN 12 rfl (zH (pV 0 rfl) 1 a rfl rfl rfl (by omega) rfl (zN 13 rfl (za 0 a (zI l p) rfl (fun _ => rfl) rfl (by omega) rfl rfl rfl (by omega) (zN 14 rfl ?_))))))))
      refine zH (pV 0 rfl) 1 p rfl rfl rfl (by simp only [List.length_set]; omega) rfl (zN 15 rfl (za 0 p (zI l a) rfl (fun _ => rfl) rfl (by omega) rfl rfl rfl (by simp only [List.length_set]; omega) (zG [] rfl (by decide) (fun w' hw hS => zR ?_))))
      exact ⟨yp l a p, ⟨rfl, rfl, rfl, trivial⟩, ⟨Same.ex ⟨by omega, by omega⟩ ⟨by omega, by omega⟩ hb, kw (by omega) (by omega)⟩, hw⟩
     ·
      refine zX 11 rfl hw (zV (pV 0 rfl) 1 a 0 (fun _ => rfl) rfl rfl (by omega) rfl rfl (zN 7 rfl (zV (pV 0 rfl) 1 p 0 (fun _ => rfl) rfl rfl (by omega) rfl rfl (zN 12 rfl (zH (pV 0 rfl) 1 a rfl rfl rfl (by omega) rfl (zN 13 rfl (za 0 a (zI l p) rfl (fun _ => rfl) rfl (by omega) rfl rfl rfl (by omega) (zN 14 rfl ?_))))))))
      refine zH (pV 0 rfl) 1 p rfl rfl rfl (by simp only [List.length_set]; omega) rfl (zN 15 rfl (za 0 p (zI l a) rfl (fun _ => rfl) rfl (by omega) rfl rfl rfl (by simp only [List.length_set]; omega) (zG [] rfl (by decide) (fun w' hw hS => zR ?_))))
      exact ⟨yp l a p, ⟨rfl, rfl, rfl, trivial⟩, ⟨Same.ex ⟨by omega, by omega⟩ ⟨by omega, by omega⟩ hb, kw (by omega) (by omega)⟩, hw⟩
    ·
     refine zX 11 rfl hw (zV (pV 0 rfl) 1 a 0 (fun _ => rfl) rfl rfl (by omega) rfl rfl (zN 6 rfl (zH (pV 0 rfl) 1 p rfl rfl rfl (by omega) rfl (zN 7 rfl (zV (pV 0 rfl) 1 p 0 (fun _ => rfl) rfl rfl (by omega) rfl rfl (zN 12 rfl (zH (pV 0 rfl) 1 a rfl rfl rfl (by omega) rfl (zN 13 rfl ?_))))))))
     refine za 0 a (zI l p) rfl (fun _ => rfl) rfl (by omega) rfl rfl rfl (by omega) (zN 14 rfl (zH (pV 0 rfl) 1 p rfl rfl rfl (by simp only [List.length_set]; omega) rfl (zN 15 rfl (za 0 p (zI l a) rfl (fun _ => rfl) rfl (by omega) rfl rfl rfl (by simp only [List.length_set]; omega) (zG [] rfl (by decide) (fun w' hw hS => zR ?_))))))
     exact ⟨yp l a p, ⟨rfl, rfl, rfl, trivial⟩, ⟨Same.ex ⟨by omega, by omega⟩ ⟨by omega, by omega⟩ hb, kw (by omega) (by omega)⟩, hw⟩
  have hql := hΦ.1.len
  have hSq := hΦ.1
  have hpv := hΦ.2
  refine zB (zC rfl (zt rfl rfl (zr (by omega)) rfl (zC rfl (yX (c := ((b - 1 : Nat) : Int)) rfl rfl (kO (by omega) (by omega)) rfl (zD rfl (zD rfl (zA (zL (zT ?_)))))))))
  refine xS (fun (i j : Nat) (q : List Nat) => [(0, v), (1, Vj a), (9, Vj i), (10, Vj j)]) (fun (i j : Nat) (q : List Nat) => ((a + 1 ≤ i ∧ i ≤ j + 1) ∧ j < b) ∧ (Same a b l q ∧ zI q a = zI l p) ∧ Le a i q ∧ Gt a j b q) (fun (i j : Nat) (q : List Nat) => [Res.vec 28 1 v q.length (q.flatMap U1)]) (fun (i j : Nat) (q : List Nat) => j + 1 - i) (fun w' hw => ⟨a + 1, b - 1, q, ⟨rfl, rfl, rfl, rfl, trivial⟩, ⟨⟨⟨by omega, by omega⟩, by omega⟩, ⟨hSq, hpv⟩, fun k h1 h2 => by omega, fun k h1 h2 => by omega⟩, hw⟩) (fun i j q g hΦ => ?_)
  have hij3 := hΦ.1
  have hS3 := hΦ.2.1.1
  have hp3 := hΦ.2.1.2
  have hL3 := hΦ.2.2.1
  have hH3 := hΦ.2.2.2
  have hq3 := hS3.len
  refine zT (xB (fun (i2 : Nat) => [(0, v), (1, Vj a), (9, Vj i2), (10, Vj j)]) (fun (i2 : Nat) => (i ≤ i2 ∧ i2 ≤ j + 1) ∧ Le a i2 q ∧ (i2 ≤ j → olt (zI q a) (zI q i2))) (fun (i2 : Nat) => [Res.vec 28 1 v q.length (q.flatMap U1)]) ?_ (fun i2 g hΦ => ?_))
  ·
   refine zT ?_
   refine xG (fun (i2 : Nat) => [(0, v), (1, Vj a), (9, Vj i2), (10, Vj j)]) (fun (i2 : Nat) => (i ≤ i2 ∧ i2 ≤ j + 1) ∧ Le a i2 q) (fun (i2 : Nat) => [Res.vec 28 1 v q.length (q.flatMap U1)]) (fun (i2 : Nat) => j + 1 - i2) (fun w' hw => ⟨i, ⟨rfl, rfl, rfl, rfl, trivial⟩, ⟨⟨by omega, by omega⟩, hL3⟩, hw⟩) (fun i2 g hΦ => ?_)
   have hi4 := hΦ.1
   have hL4 := hΦ.2
   refine zL (zL (zg [0] rfl (by decide) (by kernel_rfl) (fun w' hw hS => zF 0 rfl (zQ) hS (zF 1 rfl (zQ) hS (zF 2 rfl (zAj rfl rfl) hS (zF 3 rfl (zQ) hS ?_))))))
   by_cases g3_3 : ((i2 : Nat) : Int) ≤ ((j : Nat) : Int)
   ·
    refine zl 4 rfl rfl (gT g3_3) (zQ) hS (zl 5 rfl rfl (gT g3_3) (zQ) hS (zl 6 rfl rfl (gT g3_3) (yR (pV 0 rfl) 1 a rfl rfl rfl (by omega)) hS (zl 7 rfl rfl (gT g3_3) (yq (pV 0 rfl) 1 a 0 (fun _ => rfl) rfl rfl (by omega) rfl) hS (zl 8 rfl rfl (gT g3_3) (zQ) hS (zl 9 rfl rfl (gT g3_3) (zQ) hS (zl 10 rfl rfl (gT g3_3) (yR (pV 0 rfl) 1 i2 rfl rfl rfl (by omega)) hS (zl 11 rfl rfl (gT g3_3) (yq (pV 0 rfl) 1 i2 0 (fun _ => rfl) rfl rfl (by omega) rfl) hS (zY 12 rfl hw (zO rfl (gT g3_3) (zJ rfl rfl (fun w' hw => (kJ (zI q a) (zI q i2) w').mono ?_)))))))))))
    rintro _ w1 ⟨rfl, hO⟩
    refine (?_ : CL _ _ _ _ _ _ (Own w S [Res.vec 28 1 v q.length (q.flatMap U1)])) w1 (hw.frame0 hO)
    refine zG [0] rfl (by decide) (fun w' hw hS => zl 13 rfl rfl (gT g3_3) (jN (q := olt (zI q a) (zI q i2)) rfl) hS (zF 14 rfl (y5 (gT g3_3)) hS (zR ?_)))
    refine (?_ : C _ _ _ _ _ _ _ (Own w S [Res.vec 28 1 v q.length (q.flatMap U1)])) _ hw
    refine zU rfl (fun c1 => ?_) (fun c1 => ?_)
    ·
     refine zK (zT (zd (zC rfl (zt rfl rfl (zr (by omega)) rfl (zD rfl ?_)))))
     exact zj (fun w' hw => ⟨i2 + 1, ⟨rfl, rfl, rfl, rfl, trivial⟩, ⟨⟨by omega, by omega⟩, hL4.step c1⟩, hw, (by omega)⟩)
    ·
     exact xA rfl (fun w' hw => ⟨i2, ⟨rfl, rfl, rfl, rfl, trivial⟩, ⟨hi4, hL4, fun _ => Decidable.not_not.1 c1⟩, hw⟩)
   ·
    refine zc 4 rfl rfl (gF g3_3) rfl hS (zc 5 rfl rfl (gF g3_3) rfl hS (zc 6 rfl rfl (gF g3_3) rfl hS (zc 7 rfl rfl (gF g3_3) rfl hS (zc 8 rfl rfl (gF g3_3) rfl hS (zc 9 rfl rfl (gF g3_3) rfl hS (zc 10 rfl rfl (gF g3_3) rfl hS (zc 11 rfl rfl (gF g3_3) rfl hS (zc 12 rfl rfl (gF g3_3) rfl hS (zc 13 rfl rfl (gF g3_3) rfl hS (zF 14 rfl (yz (gF g3_3)) hS (zR ?_)))))))))))
    refine (?_ : C _ _ _ _ _ _ _ (Own w S [Res.vec 28 1 v q.length (q.flatMap U1)])) _ hw
    refine xQ rfl ?_
    exact xA rfl (fun w' hw => ⟨i2, ⟨rfl, rfl, rfl, rfl, trivial⟩, ⟨hi4, hL4, fun h => absurd h (by omega)⟩, hw⟩)
  have hi5 := hΦ.1
  have hL5 := hΦ.2.1
  have hge5 := hΦ.2.2
  refine xB (fun (j2 : Nat) => [(0, v), (1, Vj a), (9, Vj i2), (10, Vj j2)]) (fun (j2 : Nat) => (i2 ≤ j2 + 1 ∧ j2 ≤ j) ∧ Gt a j2 b q ∧ (i2 ≤ j2 → x3 (zI q j2) (zI q a))) (fun (j2 : Nat) => [Res.vec 28 1 v q.length (q.flatMap U1)]) ?_ (fun j2 g hΦ => ?_)
  ·
   refine zT ?_
   refine xG (fun (j2 : Nat) => [(0, v), (1, Vj a), (9, Vj i2), (10, Vj j2)]) (fun (j2 : Nat) => (i2 ≤ j2 + 1 ∧ j2 ≤ j) ∧ Gt a j2 b q) (fun (j2 : Nat) => [Res.vec 28 1 v q.length (q.flatMap U1)]) (fun (j2 : Nat) => j2) (fun w' hw => ⟨j, ⟨rfl, rfl, rfl, rfl, trivial⟩, ⟨⟨by omega, by omega⟩, hH3⟩, hw⟩) (fun j2 g hΦ => ?_)
   have hj6 := hΦ.1
   have hH6 := hΦ.2
   refine zL (zL (zg [0] rfl (by decide) (by kernel_rfl) (fun w' hw hS => zF 0 rfl (zQ) hS (zF 1 rfl (zQ) hS (zF 2 rfl (zAj rfl rfl) hS (zF 3 rfl (zQ) hS ?_))))))
   by_cases g5_3 : ((i2 : Nat) : Int) ≤ ((j2 : Nat) : Int)
   ·
    refine zl 4 rfl rfl (gT g5_3) (zQ) hS (zl 5 rfl rfl (gT g5_3) (zQ) hS (zl 6 rfl rfl (gT g5_3) (yR (pV 0 rfl) 1 a rfl rfl rfl (by omega)) hS (zl 7 rfl rfl (gT g5_3) (yq (pV 0 rfl) 1 a 0 (fun _ => rfl) rfl rfl (by omega) rfl) hS (zl 8 rfl rfl (gT g5_3) (zQ) hS (zl 9 rfl rfl (gT g5_3) (zQ) hS (zl 10 rfl rfl (gT g5_3) (yR (pV 0 rfl) 1 j2 rfl rfl rfl (by omega)) hS (zl 11 rfl rfl (gT g5_3) (yq (pV 0 rfl) 1 j2 0 (fun _ => rfl) rfl rfl (by omega) rfl) hS (zY 12 rfl hw (zO rfl (gT g5_3) (zJ rfl rfl (fun w' hw => (kJ (zI q a) (zI q j2) w').mono ?_)))))))))))
    rintro _ w1 ⟨rfl, hO⟩
    refine (?_ : CL _ _ _ _ _ _ (Own w S [Res.vec 28 1 v q.length (q.flatMap U1)])) w1 (hw.frame0 hO)
    refine zG [0] rfl (by decide) (fun w' hw hS => zF 13 rfl (y5 (gT g5_3)) hS (zR ?_))
    refine (?_ : C _ _ _ _ _ _ _ (Own w S [Res.vec 28 1 v q.length (q.flatMap U1)])) _ hw
    refine zU rfl (fun c3 => ?_) (fun c3 => ?_)
    ·
     refine zK (zT (zd (zC rfl (yX (c := ((j2 - 1 : Nat) : Int)) rfl rfl (kO (by omega) (by omega)) rfl (zD rfl ?_)))))
     exact zj (fun w' hw => ⟨j2 - 1, ⟨rfl, rfl, rfl, rfl, trivial⟩, ⟨⟨by omega, by omega⟩, hH6.step c3⟩, hw, (by omega)⟩)
    ·
     exact xA rfl (fun w' hw => ⟨j2, ⟨rfl, rfl, rfl, rfl, trivial⟩, ⟨hj6, hH6, fun _ => c3⟩, hw⟩)
   ·
    refine zc 4 rfl rfl (gF g5_3) rfl hS (zc 5 rfl rfl (gF g5_3) rfl hS (zc 6 rfl rfl (gF g5_3) rfl hS (zc 7 rfl rfl (gF g5_3) rfl hS (zc 8 rfl rfl (gF g5_3) rfl hS (zc 9 rfl rfl (gF g5_3) rfl hS (zc 10 rfl rfl (gF g5_3) rfl hS (zc 11 rfl rfl (gF g5_3) rfl hS (zc 12 rfl rfl (gF g5_3) rfl hS (zF 13 rfl (yz (gF g5_3)) hS (zR ?_))))))))))
    refine (?_ : C _ _ _ _ _ _ _ (Own w S [Res.vec 28 1 v q.length (q.flatMap U1)])) _ hw
    refine xQ rfl ?_
    exact xA rfl (fun w' hw => ⟨j2, ⟨rfl, rfl, rfl, rfl, trivial⟩, ⟨hj6, hH6, fun h => absurd h (by omega)⟩, hw⟩)
  have hj7 := hΦ.1
  have hH7 := hΦ.2.1
  have hlt7 := hΦ.2.2
  refine zL (zB (zC rfl (zC rfl (yg rfl rfl rfl (zA (zU rfl (fun c5 => ?_) (fun c5 => ?_)))))))
  ·
   refine yG rfl (zB (zC rfl (zD rfl (zA ?_))))
   exact zM (z6 (v := Vj i2) rfl rfl (fun w' hw => ⟨q, i2, rfl, hS3, ⟨by omega, by omega⟩, zKS hL5 (by rw [show i2 - 1 = j2 by omega]; exact hH7) (by omega) hp3, hw⟩))
  ·
   refine zK (xB (fun (n : List Nat) => [(0, v), (1, Vj a), (9, Vj i2), (10, Vj j2)]) (fun (n : List Nat) => n = yp q i2 j2) (fun (n : List Nat) => [Res.vec 28 1 v n.length (n.flatMap U1)]) ?_ (fun n g hΦ => ?_))
   ·
    refine zg [] rfl (by decide) (by kernel_rfl) (fun w' hw hS => zF 0 rfl (zQ) hS (zF 1 rfl (zQ) hS (zF 2 rfl (zQ) hS (zF 3 rfl (zQ) hS (zF 4 rfl (zQ) hS (zF 5 rfl (zQ) hS (zF 8 rfl (zQ) hS (zF 9 rfl (zQ) hS (zk 6 10 ?_ ?_)))))))))
    ·
     refine zX 6 rfl hw (zH (pV 0 rfl) 1 j2 rfl rfl rfl (by omega) rfl (zG [] rfl (by decide) (fun w' hw hS => zk 7 10 ?_ ?_)))
     ·
      refine zX 7 rfl hw (zV (pV 0 rfl) 1 j2 0 (fun _ => rfl) rfl rfl (by omega) rfl rfl (zN 10 rfl (zH (pV 0 rfl) 1 i2 rfl rfl rfl (by omega) rfl (zN 11 rfl (zV (pV 0 rfl) 1 i2 0 (fun _ => rfl) rfl rfl (by omega) rfl rfl (zN 12 rfl (zH (pV 0 rfl) 1 i2 rfl rfl rfl (by omega) rfl (zN 13 rfl ?_))))))))
      refine za 0 i2 (zI q j2) rfl (fun _ => rfl) rfl (by omega) rfl rfl rfl (by omega) (zN 14 rfl (zH (pV 0 rfl) 1 j2 rfl rfl rfl (by simp only [List.length_set]; omega) rfl (zN 15 rfl (za 0 j2 (zI q i2) rfl (fun _ => rfl) rfl (by omega) rfl rfl rfl (by simp only [List.length_set]; omega) (zG [] rfl (by decide) (fun w' hw hS => zR ?_))))))
      exact ⟨yp q i2 j2, ⟨rfl, rfl, rfl, rfl, trivial⟩, rfl, hw⟩
     ·
      refine zX 10 rfl hw (zH (pV 0 rfl) 1 i2 rfl rfl rfl (by omega) rfl (zG [] rfl (by decide) (fun w' hw hS => zk 7 11 ?_ ?_)))
      ·
       refine zX 7 rfl hw (zV (pV 0 rfl) 1 j2 0 (fun _ => rfl) rfl rfl (by omega) rfl rfl (zN 11 rfl (zV (pV 0 rfl) 1 i2 0 (fun _ => rfl) rfl rfl (by omega) rfl rfl (zN 12 rfl (zH (pV 0 rfl) 1 i2 rfl rfl rfl (by omega) rfl (zN 13 rfl (za 0 i2 (zI q j2) rfl (fun _ => rfl) rfl (by omega) rfl rfl rfl (by omega) (zN 14 rfl ?_))))))))
       refine zH (pV 0 rfl) 1 j2 rfl rfl rfl (by simp only [List.length_set]; omega) rfl (zN 15 rfl (za 0 j2 (zI q i2) rfl (fun _ => rfl) rfl (by omega) rfl rfl rfl (by simp only [List.length_set]; omega) (zG [] rfl (by decide) (fun w' hw hS => zR ?_))))
       exact ⟨yp q i2 j2, ⟨rfl, rfl, rfl, rfl, trivial⟩, rfl, hw⟩
      ·
       refine zX 11 rfl hw (zV (pV 0 rfl) 1 i2 0 (fun _ => rfl) rfl rfl (by omega) rfl rfl (zN 7 rfl (zV (pV 0 rfl) 1 j2 0 (fun _ => rfl) rfl rfl (by omega) rfl rfl (zN 12 rfl (zH (pV 0 rfl) 1 i2 rfl rfl rfl (by omega) rfl (zN 13 rfl (za 0 i2 (zI q j2) rfl (fun _ => rfl) rfl (by omega) rfl rfl rfl (by omega) (zN 14 rfl ?_))))))))
       refine zH (pV 0 rfl) 1 j2 rfl rfl rfl (by simp only [List.length_set]; omega) rfl (zN 15 rfl (za 0 j2 (zI q i2) rfl (fun _ => rfl) rfl (by omega) rfl rfl rfl (by simp only [List.length_set]; omega) (zG [] rfl (by decide) (fun w' hw hS => zR ?_))))
       exact ⟨yp q i2 j2, ⟨rfl, rfl, rfl, rfl, trivial⟩, rfl, hw⟩
    ·
     refine zX 10 rfl hw (zH (pV 0 rfl) 1 i2 rfl rfl rfl (by omega) rfl (zG [] rfl (by decide) (fun w' hw hS => zk 6 11 ?_ ?_)))
     ·
      refine zX 6 rfl hw (zH (pV 0 rfl) 1 j2 rfl rfl rfl (by omega) rfl (zG [] rfl (by decide) (fun w' hw hS => zk 7 11 ?_ ?_)))
      ·
       refine zX 7 rfl hw (zV (pV 0 rfl) 1 j2 0 (fun _ => rfl) rfl rfl (by omega) rfl rfl (zN 11 rfl (zV (pV 0 rfl) 1 i2 0 (fun _ => rfl) rfl rfl (by omega) rfl rfl (zN 12 rfl (zH (pV 0 rfl) 1 i2 rfl rfl rfl (by omega) rfl (zN 13 rfl (za 0 i2 (zI q j2) rfl (fun _ => rfl) rfl (by omega) rfl rfl rfl (by omega) (zN 14 rfl ?_))))))))
       refine zH (pV 0 rfl) 1 j2 rfl rfl rfl (by simp only [List.length_set]; omega) rfl (zN 15 rfl (za 0 j2 (zI q i2) rfl (fun _ => rfl) rfl (by omega) rfl rfl rfl (by simp only [List.length_set]; omega) (zG [] rfl (by decide) (fun w' hw hS => zR ?_))))
       exact ⟨yp q i2 j2, ⟨rfl, rfl, rfl, rfl, trivial⟩, rfl, hw⟩
      ·
       refine zX 11 rfl hw (zV (pV 0 rfl) 1 i2 0 (fun _ => rfl) rfl rfl (by omega) rfl rfl (zN 7 rfl (zV (pV 0 rfl) 1 j2 0 (fun _ => rfl) rfl rfl (by omega) rfl rfl (zN 12 rfl (zH (pV 0 rfl) 1 i2 rfl rfl rfl (by omega) rfl (zN 13 rfl (za 0 i2 (zI q j2) rfl (fun _ => rfl) rfl (by omega) rfl rfl rfl (by omega) (zN 14 rfl ?_))))))))
       refine zH (pV 0 rfl) 1 j2 rfl rfl rfl (by simp only [List.length_set]; omega) rfl (zN 15 rfl (za 0 j2 (zI q i2) rfl (fun _ => rfl) rfl (by omega) rfl rfl rfl (by simp only [List.length_set]; omega) (zG [] rfl (by decide) (fun w' hw hS => zR ?_))))
       exact ⟨yp q i2 j2, ⟨rfl, rfl, rfl, rfl, trivial⟩, rfl, hw⟩
     ·
      refine zX 11 rfl hw (zV (pV 0 rfl) 1 i2 0 (fun _ => rfl) rfl rfl (by omega) rfl rfl (zN 6 rfl (zH (pV 0 rfl) 1 j2 rfl rfl rfl (by omega) rfl (zN 7 rfl (zV (pV 0 rfl) 1 j2 0 (fun _ => rfl) rfl rfl (by omega) rfl rfl (zN 12 rfl (zH (pV 0 rfl) 1 i2 rfl rfl rfl (by omega) rfl (zN 13 rfl ?_))))))))
      refine za 0 i2 (zI q j2) rfl (fun _ => rfl) rfl (by omega) rfl rfl rfl (by omega) (zN 14 rfl (zH (pV 0 rfl) 1 j2 rfl rfl rfl (by simp only [List.length_set]; omega) rfl (zN 15 rfl (za 0 j2 (zI q i2) rfl (fun _ => rfl) rfl (by omega) rfl rfl rfl (by simp only [List.length_set]; omega) (zG [] rfl (by decide) (fun w' hw hS => zR ?_))))))
      exact ⟨yp q i2 j2, ⟨rfl, rfl, rfl, rfl, trivial⟩, rfl, hw⟩
   have hn := hΦ
   have hij : i2 < j2 := (by have h1 := hlt7 (by omega); have h2 := hge5 (by omega); rcases Nat.lt_or_ge i2 j2 with h | h; exact h; rw [show i2 = j2 by omega] at h2; first | exact absurd h1 h2 | exact absurd h2 h1)
   have hsw := zGh hL5 hH7 hij (by omega) (by omega) (by omega) (hge5 (by omega)) (hlt7 (by omega))
   refine zB (zC rfl (zt rfl rfl (zr (by omega)) rfl (zD rfl (zA (zd (zC rfl (yX (c := ((j2 - 1 : Nat) : Int)) rfl rfl (kO (by omega) (by omega)) rfl (zD rfl ?_))))))))
   exact zj (fun w' hw => ⟨i2 + 1, j2 - 1, n, ⟨rfl, rfl, rfl, rfl, trivial⟩, ⟨⟨⟨by omega, by omega⟩, by omega⟩, ⟨(by rw [hn]; exact hS3.then_swp ⟨by omega, by omega⟩ ⟨by omega, by omega⟩ hb), (by rw [hn, hsw.2]; exact hp3)⟩, (by rw [hn]; exact hsw.1.1), (by rw [hn]; exact hsw.1.2)⟩, hw, (by omega)⟩)
end Go.Proofs.YthincafbmpialaaGreat
