import Derived.Test.YtcdiehplbmkmeaaSortU
set_option linter.unusedSectionVars false
set_option linter.unusedSimpArgs false
set_option linter.unusedVariables false
set_option maxRecDepth 10000
namespace Go.Proofs.Ytcdiehplbmkmeaa
open Go Go.Sc Go.Proofs
theorem zGD {S : List Nat} (v : Value) (l : List Nat) (a b p : Nat) (w : World) (ha : a ≤ p ∧ p < b) (hb : b ≤ l.length) (hl : zx l.length) (hin : Own w S [Res.vec 28 1 v l.length (l.flatMap U1)] w) : Rets Try.prog 54 #[v, Vj a, Vj b, Vj p] w fun u_ w' => ∃ (l' : List Nat) (m : Nat) (al : Bool), u_ = .tuple #[Vj m, .bool al] ∧ Same a b l l' ∧ (a ≤ m ∧ m < b) ∧ Part a b m l' ∧ Own w S [Res.vec 28 1 v l'.length (l'.flatMap U1)] w' := by
  refine zh Try.func54 rfl Try.ntmps54 hin ?_
  refine zB (zH rfl (zH rfl (zA (yJ (fun (q : List Nat) => [(0, v), (1, Vj a), (2, Vj b)]) (fun (q : List Nat) => Same a b l q) (fun (q : List Nat) => [Res.vec 28 1 v q.length (q.flatMap U1)]) ?_ (fun q g hΦ => ?_)))))
  ·
   refine zX [] rfl (by decide) (by kernel_rfl) (fun w' hw hS => zE 0 rfl (zJ) hS (zE 1 rfl (zJ) hS (zE 2 rfl (zJ) hS (zE 3 rfl (zJ) hS (zE 4 rfl (zJ) hS (zE 5 rfl (zJ) hS (zE 8 rfl (zJ) hS (zE 9 rfl (zJ) hS (zT 6 10 ?_ ?_)))))))))
   ·
    refine zP 6 rfl hw (zD (pV 0 rfl) 1 p rfl rfl rfl (by omega) rfl (zF [] rfl (by decide) (fun w' hw hS => zT 7 10 ?_ ?_)))
    ·
     refine zP 7 rfl hw (zN (pV 0 rfl) 1 p 0 (fun _ => rfl) rfl rfl (by omega) rfl rfl (zI 10 rfl (zD (pV 0 rfl) 1 a rfl rfl rfl (by omega) rfl (zI 11 rfl (zN (pV 0 rfl) 1 a 0 (fun _ => rfl) rfl rfl (by omega) rfl rfl (zI 12 rfl (zD (pV 0 rfl) 1 a rfl rfl rfl (by omega) rfl (zI 13 rfl ?_))))))))
     refine zO 0 a (zG l p) rfl (fun _ => rfl) rfl (by omega) rfl rfl rfl (by omega) (zI 14 rfl (zD (pV 0 rfl) 1 p rfl rfl rfl (by simp only [List.length_set]; omega) rfl (zI 15 rfl (zO 0 p (zG l a) rfl (fun _ => rfl) rfl (by omega) rfl rfl rfl (by simp only [List.length_set]; omega) (zF [] rfl (by decide) (fun w' hw hS => zK ?_))))))
     exact ⟨z8 l a p, ⟨rfl, rfl, rfl, trivial⟩, Same.ex ⟨by omega, by omega⟩ ⟨by omega, by omega⟩ hb, hw⟩
    ·
     refine zP 10 rfl hw (zD (pV 0 rfl) 1 a rfl rfl rfl (by omega) rfl (zF [] rfl (by decide) (fun w' hw hS => zT 7 11 ?_ ?_)))
     ·
      refine zP 7 rfl hw (zN (pV 0 rfl) 1 p 0 (fun _ => rfl) rfl rfl (by omega) rfl rfl (zI 11 rfl (zN (pV 0 rfl) 1 a 0 (fun _ => rfl) rfl rfl (by omega) rfl rfl (zI 12 rfl (zD (pV 0 rfl) 1 a rfl rfl rfl (by omega) rfl (zI 13 rfl (zO 0 a (zG l p) rfl (fun _ => rfl) rfl (by omega) rfl rfl rfl (by omega) (zI 14 rfl ?_))))))))
      refine zD (pV 0 rfl) 1 p rfl rfl rfl (by simp only [List.length_set]; omega) rfl (zI 15 rfl (zO 0 p (zG l a) rfl (fun _ => rfl) rfl (by omega) rfl rfl rfl (by simp only [List.length_set]; omega) (zF [] rfl (by decide) (fun w' hw hS => zK ?_))))
      exact ⟨z8 l a p, ⟨rfl, rfl, rfl, trivial⟩, Same.ex ⟨by omega, by omega⟩ ⟨by omega, by omega⟩ hb, hw⟩
     ·
      refine zP 11 rfl hw (zN (pV 0 rfl) 1 a 0 (fun _ => rfl) rfl rfl (by omega) rfl rfl (zI 7 rfl (zN (pV 0 rfl) 1 p 0 (fun _ => rfl) rfl rfl (by omega) rfl rfl (zI 12 rfl (zD (pV 0 rfl) 1 a rfl rfl rfl (by omega) rfl (zI 13 rfl (zO 0 a (zG l p) rfl (fun _ => rfl) rfl (by omega) rfl rfl rfl (by omega) (zI 14 rfl ?_))))))))
      refine zD (pV 0 rfl) 1 p rfl rfl rfl (by simp only [List.length_set]; omega) rfl (zI 15 rfl (zO 0 p (zG l a) rfl (fun _ => rfl) rfl (by omega) rfl rfl rfl (by simp only [List.length_set]; omega) (zF [] rfl (by decide) (fun w' hw hS => zK ?_))))
      exact ⟨z8 l a p, ⟨rfl, rfl, rfl, trivial⟩, Same.ex ⟨by omega, by omega⟩ ⟨by omega, by omega⟩ hb, hw⟩
   ·
    refine zP 10 rfl hw (zD (pV 0 rfl) 1 a rfl rfl rfl (by omega) rfl (zF [] rfl (by decide) (fun w' hw hS => zT 6 11 ?_ ?_)))
    ·
     refine zP 6 rfl hw (zD (pV 0 rfl) 1 p rfl rfl rfl (by omega) rfl (zF [] rfl (by decide) (fun w' hw hS => zT 7 11 ?_ ?_)))
     ·
      refine zP 7 rfl hw (zN (pV 0 rfl) 1 p 0 (fun _ => rfl) rfl rfl (by omega) rfl rfl (zI 11 rfl (zN (pV 0 rfl) 1 a 0 (fun _ => rfl) rfl rfl (by omega) rfl rfl (zI 12 rfl (zD (pV 0 rfl) 1 a rfl rfl rfl (by omega) rfl (zI 13 rfl (zO 0 a (zG l p) rfl (fun _ => rfl) rfl (by omega) rfl rfl rfl (by omega) (zI 14 rfl ?_))))))))
      refine zD (pV 0 rfl) 1 p rfl rfl rfl (by simp only [List.length_set]; omega) rfl (zI 15 rfl (zO 0 p (zG l a) rfl (fun _ => rfl) rfl (by omega) rfl rfl rfl (by simp only [List.length_set]; omega) (zF [] rfl (by decide) (fun w' hw hS => zK ?_))))
      exact ⟨z8 l a p, ⟨rfl, rfl, rfl, trivial⟩, Same.ex ⟨by omega, by omega⟩ ⟨by omega, by omega⟩ hb, hw⟩
     ·
      refine zP 11 rfl hw (zN (pV 0 rfl) 1 a 0 (fun _ => rfl) rfl rfl (by omega) rfl rfl (zI 7 rfl (zN (pV 0 rfl) 1 p 0 (fun _ => rfl) rfl rfl (by omega) rfl rfl (zI 12 rfl (zD (pV 0 rfl) 1 a rfl rfl rfl (by omega) rfl (zI 13 rfl (zO 0 a (zG l p) rfl (fun _ => rfl) rfl (by omega) rfl rfl rfl (by omega) (zI 14 rfl ?_))))))))
      refine zD (pV 0 rfl) 1 p rfl rfl rfl (by simp only [List.length_set]; omega) rfl (zI 15 rfl (zO 0 p (zG l a) rfl (fun _ => rfl) rfl (by omega) rfl rfl rfl (by simp only [List.length_set]; omega) (zF [] rfl (by decide) (fun w' hw hS => zK ?_))))
      exact ⟨z8 l a p, ⟨rfl, rfl, rfl, trivial⟩, Same.ex ⟨by omega, by omega⟩ ⟨by omega, by omega⟩ hb, hw⟩
    ·
     refine zP 11 rfl hw (zN (pV 0 rfl) 1 a 0 (fun _ => rfl) rfl rfl (by omega) rfl rfl (zI 6 rfl (zD (pV 0 rfl) 1 p rfl rfl rfl (by omega) rfl (zI 7 rfl (zN (pV 0 rfl) 1 p 0 (fun _ => rfl) rfl rfl (by omega) rfl rfl (zI 12 rfl (zD (pV 0 rfl) 1 a rfl rfl rfl (by omega) rfl (zI 13 rfl ?_))))))))
     refine zO 0 a (zG l p) rfl (fun _ => rfl) rfl (by omega) rfl rfl rfl (by omega) (zI 14 rfl (zD (pV 0 rfl) 1 p rfl rfl rfl (by simp only [List.length_set]; omega) rfl (zI 15 rfl (zO 0 p (zG l a) rfl (fun _ => rfl) rfl (by omega) rfl rfl rfl (by simp only [List.length_set]; omega) (zF [] rfl (by decide) (fun w' hw hS => zK ?_))))))
     exact ⟨z8 l a p, ⟨rfl, rfl, rfl, trivial⟩, Same.ex ⟨by omega, by omega⟩ ⟨by omega, by omega⟩ hb, hw⟩
  have hql := hΦ.len
  have hSq := hΦ
  refine zB (zC rfl (zw rfl rfl (zt (by omega)) rfl (zC rfl (z9 (c := ((b - 1 : Nat) : Int)) rfl rfl (xV (by omega) (by omega)) rfl (zH rfl (zH rfl (zA (yJ (fun (i : Nat) => [(0, v), (1, Vj a), (10, Vj i), (11, Vj (b - 1))]) (fun (i : Nat) => (a + 1 ≤ i ∧ i ≤ b) ∧ Lo a i q ∧ (i < b → xl (zG q a) (zG q i))) (fun (i : Nat) => [Res.vec 28 1 v q.length (q.flatMap U1)]) ?_ (fun i g hΦ => ?_)))))))))
  ·
   refine zS ?_
   refine xL (fun (i : Nat) => [(0, v), (1, Vj a), (10, Vj i), (11, Vj (b - 1))]) (fun (i : Nat) => (a + 1 ≤ i ∧ i ≤ b) ∧ Lo a i q) (fun (i : Nat) => [Res.vec 28 1 v q.length (q.flatMap U1)]) (fun (i : Nat) => b - i) (fun w' hw => ⟨a + 1, ⟨rfl, rfl, rfl, rfl, trivial⟩, ⟨⟨by omega, by omega⟩, fun k h1 h2 => by omega⟩, hw⟩) (fun i g hΦ => ?_)
   have hi1 := hΦ.1
   have hLo := hΦ.2
   refine zM (zM (zX [0] rfl (by decide) (by kernel_rfl) (fun w' hw hS => zE 0 rfl (zJ) hS (zE 1 rfl (zJ) hS (zE 2 rfl (zA3 rfl rfl) hS (zE 3 rfl (zJ) hS ?_))))))
   by_cases g3_3 : ((i : Nat) : Int) ≤ ((b - 1 : Nat) : Int)
   ·
    refine zj 4 rfl rfl (gT g3_3) (zJ) hS (zj 5 rfl rfl (gT g3_3) (zJ) hS (zj 6 rfl rfl (gT g3_3) (z7 (pV 0 rfl) 1 i rfl rfl rfl (by omega)) hS (zj 7 rfl rfl (gT g3_3) (yQ (pV 0 rfl) 1 i 0 (fun _ => rfl) rfl rfl (by omega) rfl) hS (zj 8 rfl rfl (gT g3_3) (zJ) hS (zj 9 rfl rfl (gT g3_3) (zJ) hS (zj 10 rfl rfl (gT g3_3) (z7 (pV 0 rfl) 1 a rfl rfl rfl (by omega)) hS (zj 11 rfl rfl (gT g3_3) (yQ (pV 0 rfl) 1 a 0 (fun _ => rfl) rfl rfl (by omega) rfl) hS (zZ 12 rfl hw (zV rfl (gT g3_3) (zQ rfl rfl (fun w' hw => (xM (zG q i) (zG q a) w').mono ?_)))))))))))
    rintro _ w1 ⟨rfl, hO⟩
    refine (?_ : CL _ _ _ _ _ _ (Own w S [Res.vec 28 1 v q.length (q.flatMap U1)])) w1 (hw.frame0 hO)
    refine zF [0] rfl (by decide) (fun w' hw hS => zE 13 rfl (xe (gT g3_3)) hS (zK ?_))
    refine (?_ : C _ _ _ _ _ _ _ (Own w S [Res.vec 28 1 v q.length (q.flatMap U1)])) _ hw
    refine zU rfl (fun c1 => ?_) (fun c1 => ?_)
    ·
     refine zL (zS (zg (zC rfl (zw rfl rfl (zt (by omega)) rfl (zH rfl ?_)))))
     exact zf (fun w' hw => ⟨i + 1, ⟨rfl, rfl, rfl, rfl, trivial⟩, ⟨⟨by omega, by omega⟩, hLo.step c1⟩, hw, (by omega)⟩)
    ·
     exact yU rfl (fun w' hw => ⟨i, ⟨rfl, rfl, rfl, rfl, trivial⟩, ⟨hi1, hLo, fun _ => c1⟩, hw⟩)
   ·
    refine ze 4 rfl rfl (gF g3_3) rfl hS (ze 5 rfl rfl (gF g3_3) rfl hS (ze 6 rfl rfl (gF g3_3) rfl hS (ze 7 rfl rfl (gF g3_3) rfl hS (ze 8 rfl rfl (gF g3_3) rfl hS (ze 9 rfl rfl (gF g3_3) rfl hS (ze 10 rfl rfl (gF g3_3) rfl hS (ze 11 rfl rfl (gF g3_3) rfl hS (ze 12 rfl rfl (gF g3_3) rfl hS (zE 13 rfl (xg (gF g3_3)) hS (zK ?_))))))))))
    refine (?_ : C _ _ _ _ _ _ _ (Own w S [Res.vec 28 1 v q.length (q.flatMap U1)])) _ hw
    refine xm rfl ?_
    exact yU rfl (fun w' hw => ⟨i, ⟨rfl, rfl, rfl, rfl, trivial⟩, ⟨hi1, hLo, fun h => absurd h (by omega)⟩, hw⟩)
  have hi2 := hΦ.1
  have hLo2 := hΦ.2.1
  have hge := hΦ.2.2
  refine yJ (fun (j : Nat) => [(0, v), (1, Vj a), (10, Vj i), (11, Vj j)]) (fun (j : Nat) => (i ≤ j + 1 ∧ j < b) ∧ Hi a j b q ∧ (i ≤ j → olt (zG q j) (zG q a))) (fun (j : Nat) => [Res.vec 28 1 v q.length (q.flatMap U1)]) ?_ (fun j g hΦ => ?_)
  ·
   refine zS ?_
   refine xL (fun (j : Nat) => [(0, v), (1, Vj a), (10, Vj i), (11, Vj j)]) (fun (j : Nat) => (i ≤ j + 1 ∧ j < b) ∧ Hi a j b q) (fun (j : Nat) => [Res.vec 28 1 v q.length (q.flatMap U1)]) (fun (j : Nat) => j) (fun w' hw => ⟨b - 1, ⟨rfl, rfl, rfl, rfl, trivial⟩, ⟨⟨by omega, by omega⟩, fun k h1 h2 => by omega⟩, hw⟩) (fun j g hΦ => ?_)
   have hj1 := hΦ.1
   have hHi := hΦ.2
   refine zM (zM (zX [0] rfl (by decide) (by kernel_rfl) (fun w' hw hS => zE 0 rfl (zJ) hS (zE 1 rfl (zJ) hS (zE 2 rfl (zA3 rfl rfl) hS (zE 3 rfl (zJ) hS ?_))))))
   by_cases g5_3 : ((i : Nat) : Int) ≤ ((j : Nat) : Int)
   ·
    refine zj 4 rfl rfl (gT g5_3) (zJ) hS (zj 5 rfl rfl (gT g5_3) (zJ) hS (zj 6 rfl rfl (gT g5_3) (z7 (pV 0 rfl) 1 j rfl rfl rfl (by omega)) hS (zj 7 rfl rfl (gT g5_3) (yQ (pV 0 rfl) 1 j 0 (fun _ => rfl) rfl rfl (by omega) rfl) hS (zj 8 rfl rfl (gT g5_3) (zJ) hS (zj 9 rfl rfl (gT g5_3) (zJ) hS (zj 10 rfl rfl (gT g5_3) (z7 (pV 0 rfl) 1 a rfl rfl rfl (by omega)) hS (zj 11 rfl rfl (gT g5_3) (yQ (pV 0 rfl) 1 a 0 (fun _ => rfl) rfl rfl (by omega) rfl) hS (zZ 12 rfl hw (zV rfl (gT g5_3) (zQ rfl rfl (fun w' hw => (xM (zG q j) (zG q a) w').mono ?_)))))))))))
    rintro _ w1 ⟨rfl, hO⟩
    refine (?_ : CL _ _ _ _ _ _ (Own w S [Res.vec 28 1 v q.length (q.flatMap U1)])) w1 (hw.frame0 hO)
    refine zF [0] rfl (by decide) (fun w' hw hS => zj 13 rfl rfl (gT g5_3) (kz (q := olt (zG q j) (zG q a)) rfl) hS (zE 14 rfl (xe (gT g5_3)) hS (zK ?_)))
    refine (?_ : C _ _ _ _ _ _ _ (Own w S [Res.vec 28 1 v q.length (q.flatMap U1)])) _ hw
    refine zU rfl (fun c3 => ?_) (fun c3 => ?_)
    ·
     refine zL (zS (zg (zC rfl (z9 (c := ((j - 1 : Nat) : Int)) rfl rfl (xV (by omega) (by omega)) rfl (zH rfl ?_)))))
     exact zf (fun w' hw => ⟨j - 1, ⟨rfl, rfl, rfl, rfl, trivial⟩, ⟨⟨by omega, by omega⟩, hHi.step c3⟩, hw, (by omega)⟩)
    ·
     exact yU rfl (fun w' hw => ⟨j, ⟨rfl, rfl, rfl, rfl, trivial⟩, ⟨hj1, hHi, fun _ => Decidable.not_not.1 c3⟩, hw⟩)
   ·
    refine ze 4 rfl rfl (gF g5_3) rfl hS (ze 5 rfl rfl (gF g5_3) rfl hS (ze 6 rfl rfl (gF g5_3) rfl hS (ze 7 rfl rfl (gF g5_3) rfl hS (ze 8 rfl rfl (gF g5_3) rfl hS (ze 9 rfl rfl (gF g5_3) rfl hS (ze 10 rfl rfl (gF g5_3) rfl hS (ze 11 rfl rfl (gF g5_3) rfl hS (ze 12 rfl rfl (gF g5_3) rfl hS (ze 13 rfl rfl (gF g5_3) rfl hS (zE 14 rfl (xg (gF g5_3)) hS (zK ?_)))))))))))
    refine (?_ : C _ _ _ _ _ _ _ (Own w S [Res.vec 28 1 v q.length (q.flatMap U1)])) _ hw
    refine xm rfl ?_
    exact yU rfl (fun w' hw => ⟨j, ⟨rfl, rfl, rfl, rfl, trivial⟩, ⟨hj1, hHi, fun h => absurd h (by omega)⟩, hw⟩)
  have hj2 := hΦ.1
  have hHi2 := hΦ.2.1
  have hlt := hΦ.2.2
  refine zM (zB (zC rfl (zC rfl (xY rfl rfl rfl (zA (zU rfl (fun c5 => ?_) (fun c5 => ?_)))))))
  ·
   refine yJ (fun (n : List Nat) => [(11, Vj j)]) (fun (n : List Nat) => n = z8 q j a) (fun (n : List Nat) => [Res.vec 28 1 v n.length (n.flatMap U1)]) ?_ (fun n g hΦ => ?_)
   ·
    refine zX [] rfl (by decide) (by kernel_rfl) (fun w' hw hS => zE 0 rfl (zJ) hS (zE 1 rfl (zJ) hS (zE 2 rfl (zJ) hS (zE 3 rfl (zJ) hS (zE 4 rfl (zJ) hS (zE 5 rfl (zJ) hS (zE 8 rfl (zJ) hS (zE 9 rfl (zJ) hS (zT 6 10 ?_ ?_)))))))))
    ·
     refine zP 6 rfl hw (zD (pV 0 rfl) 1 a rfl rfl rfl (by omega) rfl (zF [] rfl (by decide) (fun w' hw hS => zT 7 10 ?_ ?_)))
     ·
      refine zP 7 rfl hw (zN (pV 0 rfl) 1 a 0 (fun _ => rfl) rfl rfl (by omega) rfl rfl (zI 10 rfl (zD (pV 0 rfl) 1 j rfl rfl rfl (by omega) rfl (zI 11 rfl (zN (pV 0 rfl) 1 j 0 (fun _ => rfl) rfl rfl (by omega) rfl rfl (zI 12 rfl (zD (pV 0 rfl) 1 j rfl rfl rfl (by omega) rfl (zI 13 rfl ?_))))))))
      refine zO 0 j (zG q a) rfl (fun _ => rfl) rfl (by omega) rfl rfl rfl (by omega) (zI 14 rfl (zD (pV 0 rfl) 1 a rfl rfl rfl (by simp only [List.length_set]; omega) rfl (zI 15 rfl (zO 0 a (zG q j) rfl (fun _ => rfl) rfl (by omega) rfl rfl rfl (by simp only [List.length_set]; omega) (zF [] rfl (by decide) (fun w' hw hS => zK ?_))))))
      exact ⟨z8 q j a, ⟨rfl, trivial⟩, rfl, hw⟩
     ·
      refine zP 10 rfl hw (zD (pV 0 rfl) 1 j rfl rfl rfl (by omega) rfl (zF [] rfl (by decide) (fun w' hw hS => zT 7 11 ?_ ?_)))
      ·
       refine zP 7 rfl hw (zN (pV 0 rfl) 1 a 0 (fun _ => rfl) rfl rfl (by omega) rfl rfl (zI 11 rfl (zN (pV 0 rfl) 1 j 0 (fun _ => rfl) rfl rfl (by omega) rfl rfl (zI 12 rfl (zD (pV 0 rfl) 1 j rfl rfl rfl (by omega) rfl (zI 13 rfl (zO 0 j (zG q a) rfl (fun _ => rfl) rfl (by omega) rfl rfl rfl (by omega) (zI 14 rfl ?_))))))))
       refine zD (pV 0 rfl) 1 a rfl rfl rfl (by simp only [List.length_set]; omega) rfl (zI 15 rfl (zO 0 a (zG q j) rfl (fun _ => rfl) rfl (by omega) rfl rfl rfl (by simp only [List.length_set]; omega) (zF [] rfl (by decide) (fun w' hw hS => zK ?_))))
       exact ⟨z8 q j a, ⟨rfl, trivial⟩, rfl, hw⟩
      ·
       refine zP 11 rfl hw (zN (pV 0 rfl) 1 j 0 (fun _ => rfl) rfl rfl (by omega) rfl rfl (zI 7 rfl (zN (pV 0 rfl) 1 a 0 (fun _ => rfl) rfl rfl (by omega) rfl rfl (zI 12 rfl (zD (pV 0 rfl) 1 j rfl rfl rfl (by omega) rfl (zI 13 rfl (zO 0 j (zG q a) rfl (fun _ => rfl) rfl (by omega) rfl rfl rfl (by omega) (zI 14 rfl ?_))))))))
       refine zD (pV 0 rfl) 1 a rfl rfl rfl (by simp only [List.length_set]; omega) rfl (zI 15 rfl (zO 0 a (zG q j) rfl (fun _ => rfl) rfl (by omega) rfl rfl rfl (by simp only [List.length_set]; omega) (zF [] rfl (by decide) (fun w' hw hS => zK ?_))))
       exact ⟨z8 q j a, ⟨rfl, trivial⟩, rfl, hw⟩
    ·
     refine zP 10 rfl hw (zD (pV 0 rfl) 1 j rfl rfl rfl (by omega) rfl (zF [] rfl (by decide) (fun w' hw hS => zT 6 11 ?_ ?_)))
     ·
      refine zP 6 rfl hw (zD (pV 0 rfl) 1 a rfl rfl rfl (by omega) rfl (zF [] rfl (by decide) (fun w' hw hS => zT 7 11 ?_ ?_)))
      ·
       refine zP 7 rfl hw (zN (pV 0 rfl) 1 a 0 (fun _ => rfl) rfl rfl (by omega) rfl rfl (zI 11 rfl (zN (pV 0 rfl) 1 j 0 (fun _ => rfl) rfl rfl (by omega) rfl rfl (zI 12 rfl (zD (pV 0 rfl) 1 j rfl rfl rfl (by omega) rfl (zI 13 rfl (zO 0 j (zG q a) rfl (fun _ => rfl) rfl (by omega) rfl rfl rfl (by omega) (zI 14 rfl ?_))))))))
       refine zD (pV 0 rfl) 1 a rfl rfl rfl (by simp only [List.length_set]; omega) rfl (zI 15 rfl (zO 0 a (zG q j) rfl (fun _ => rfl) rfl (by omega) rfl rfl rfl (by simp only [List.length_set]; omega) (zF [] rfl (by decide) (fun w' hw hS => zK ?_))))
       exact ⟨z8 q j a, ⟨rfl, trivial⟩, rfl, hw⟩
      ·
       refine zP 11 rfl hw (zN (pV 0 rfl) 1 j 0 (fun _ => rfl) rfl rfl (by omega) rfl rfl (zI 7 rfl (zN (pV 0 rfl) 1 a 0 (fun _ => rfl) rfl rfl (by omega) rfl rfl (zI 12 rfl (zD (pV 0 rfl) 1 j rfl rfl rfl (by omega) rfl (zI 13 rfl (zO 0 j (zG q a) rfl (fun _ => rfl) rfl (by omega) rfl rfl rfl (by omega) (zI 14 rfl ?_))))))))
       refine zD (pV 0 rfl) 1 a rfl rfl rfl (by simp only [List.length_set]; omega) rfl (zI 15 rfl (zO 0 a (zG q j) rfl (fun _ => rfl) rfl (by omega) rfl rfl rfl (by simp only [List.length_set]; omega) (zF [] rfl (by decide) (fun w' hw hS => zK ?_))))
       exact ⟨z8 q j a, ⟨rfl, trivial⟩, rfl, hw⟩
     ·
      refine zP 11 rfl hw (zN (pV 0 rfl) 1 j 0 (fun _ => rfl) rfl rfl (by omega) rfl rfl (zI 6 rfl (zD (pV 0 rfl) 1 a rfl rfl rfl (by omega) rfl (zI 7 rfl (zN (pV 0 rfl) 1 a 0 (fun _ => rfl) rfl rfl (by omega) rfl rfl (zI 12 rfl (zD (pV 0 rfl) 1 j rfl rfl rfl (by omega) rfl (zI 13 rfl ?_))))))))
      refine zO 0 j (zG q a) rfl (fun _ => rfl) rfl (by omega) rfl rfl rfl (by omega) (zI 14 rfl (zD (pV 0 rfl) 1 a rfl rfl rfl (by simp only [List.length_set]; omega) rfl (zI 15 rfl (zO 0 a (zG q j) rfl (fun _ => rfl) rfl (by omega) rfl rfl rfl (by simp only [List.length_set]; omega) (zF [] rfl (by decide) (fun w' hw hS => zK ?_))))))
      exact ⟨z8 q j a, ⟨rfl, trivial⟩, rfl, hw⟩
   have hn := hΦ
   refine zB (zC rfl (zH rfl (zH rfl (zA ?_))))
   exact zR (ya (v := Vj j) (v' := .bool true) rfl rfl rfl (fun w' hw => ⟨n, j, true, rfl, (by rw [hn]; exact hSq.then_swp ⟨by omega, by omega⟩ ⟨by omega, by omega⟩ hb), ⟨by omega, by omega⟩, (by rw [hn]; exact zCw (by rw [show j + 1 = i by omega]; exact hLo2) hHi2 (by omega) (by omega) (by omega)), hw⟩))
  ·
   refine zL (yJ (fun (n : List Nat) => [(0, v), (1, Vj a), (10, Vj i), (11, Vj j)]) (fun (n : List Nat) => n = z8 q i j) (fun (n : List Nat) => [Res.vec 28 1 v n.length (n.flatMap U1)]) ?_ (fun n g hΦ => ?_))
   ·
    refine zX [] rfl (by decide) (by kernel_rfl) (fun w' hw hS => zE 0 rfl (zJ) hS (zE 1 rfl (zJ) hS (zE 2 rfl (zJ) hS (zE 3 rfl (zJ) hS (zE 4 rfl (zJ) hS (zE 5 rfl (zJ) hS (zE 8 rfl (zJ) hS (zE 9 rfl (zJ) hS (zT 6 10 ?_ ?_)))))))))
    ·
     refine zP 6 rfl hw (zD (pV 0 rfl) 1 j rfl rfl rfl (by omega) rfl (zF [] rfl (by decide) (fun w' hw hS => zT 7 10 ?_ ?_)))
     ·
      refine zP 7 rfl hw (zN (pV 0 rfl) 1 j 0 (fun _ => rfl) rfl rfl (by omega) rfl rfl (zI 10 rfl (zD (pV 0 rfl) 1 i rfl rfl rfl (by omega) rfl (zI 11 rfl (zN (pV 0 rfl) 1 i 0 (fun _ => rfl) rfl rfl (by omega) rfl rfl (zI 12 rfl (zD (pV 0 rfl) 1 i rfl rfl rfl (by omega) rfl (zI 13 rfl ?_))))))))
      refine zO 0 i (zG q j) rfl (fun _ => rfl) rfl (by omega) rfl rfl rfl (by omega) (zI 14 rfl (zD (pV 0 rfl) 1 j rfl rfl rfl (by simp only [List.length_set]; omega) rfl (zI 15 rfl (zO 0 j (zG q i) rfl (fun _ => rfl) rfl (by omega) rfl rfl rfl (by simp only [List.length_set]; omega) (zF [] rfl (by decide) (fun w' hw hS => zK ?_))))))
      exact ⟨z8 q i j, ⟨rfl, rfl, rfl, rfl, trivial⟩, rfl, hw⟩
     ·
      refine zP 10 rfl hw (zD (pV 0 rfl) 1 i rfl rfl rfl (by omega) rfl (zF [] rfl (by decide) (fun w' hw hS => zT 7 11 ?_ ?_)))
      ·
       refine zP 7 rfl hw (zN (pV 0 rfl) 1 j 0 (fun _ => rfl) rfl rfl (by omega) rfl rfl (zI 11 rfl (zN (pV 0 rfl) 1 i 0 (fun _ => rfl) rfl rfl (by omega) rfl rfl (zI 12 rfl (zD (pV 0 rfl) 1 i rfl rfl rfl (by omega) rfl (zI 13 rfl (zO 0 i (zG q j) rfl (fun _ => rfl) rfl (by omega) rfl rfl rfl (by omega) (zI 14 rfl ?_))))))))
       refine zD (pV 0 rfl) 1 j rfl rfl rfl (by simp only [List.length_set]; omega) rfl (zI 15 rfl (zO 0 j (zG q i) rfl (fun _ => rfl) rfl (by omega) rfl rfl rfl (by simp only [List.length_set]; omega) (zF [] rfl (by decide) (fun w' hw hS => zK ?_))))
       exact ⟨z8 q i j, ⟨rfl, rfl, rfl, rfl, trivial⟩, rfl, hw⟩
      ·
       refine zP 11 rfl hw (zN (pV 0 rfl) 1 i 0 (fun _ => rfl) rfl rfl (by omega) rfl rfl (zI 7 rfl (zN (pV 0 rfl) 1 j 0 (fun _ => rfl) rfl rfl (by omega) rfl rfl (zI 12 rfl (zD (pV 0 rfl) 1 i rfl rfl rfl (by omega) rfl (zI 13 rfl (zO 0 i (zG q j) rfl (fun _ => rfl) rfl (by omega) rfl rfl rfl (by omega) (zI 14 rfl ?_))))))))
       refine zD (pV 0 rfl) 1 j rfl rfl rfl (by simp only [List.length_set]; omega) rfl (zI 15 rfl (zO 0 j (zG q i) rfl (fun _ => rfl) rfl (by omega) rfl rfl rfl (by simp only [List.length_set]; omega) (zF [] rfl (by decide) (fun w' hw hS => zK ?_))))
       exact ⟨z8 q i j, ⟨rfl, rfl, rfl, rfl, trivial⟩, rfl, hw⟩
    ·
     refine zP 10 rfl hw (zD (pV 0 rfl) 1 i rfl rfl rfl (by omega) rfl (zF [] rfl (by decide) (fun w' hw hS => zT 6 11 ?_ ?_)))
     ·
      refine zP 6 rfl hw (zD (pV 0 rfl) 1 j rfl rfl rfl (by omega) rfl (zF [] rfl (by decide) (fun w' hw hS => zT 7 11 ?_ ?_)))
      ·
       refine zP 7 rfl hw (zN (pV 0 rfl) 1 j 0 (fun _ => rfl) rfl rfl (by omega) rfl rfl (zI 11 rfl (zN (pV 0 rfl) 1 i 0 (fun _ => rfl) rfl rfl (by omega) rfl rfl (zI 12 rfl (zD (pV 0 rfl) 1 i rfl rfl rfl (by omega) rfl (zI 13 rfl (zO 0 i (zG q j) rfl (fun _ => rfl) rfl (by omega) rfl rfl rfl (by omega) (zI 14 rfl ?_))))))))
       refine zD (pV 0 rfl) 1 j rfl rfl rfl (by simp only [List.length_set]; omega) rfl (zI 15 rfl (zO 0 j (zG q i) rfl (fun _ => rfl) rfl (by omega) rfl rfl rfl (by simp only [List.length_set]; omega) (zF [] rfl (by decide) (fun w' hw hS => zK ?_))))
       exact ⟨z8 q i j, ⟨rfl, rfl, rfl, rfl, trivial⟩, rfl, hw⟩
      ·
       refine zP 11 rfl hw (zN (pV 0 rfl) 1 i 0 (fun _ => rfl) rfl rfl (by omega) rfl rfl (zI 7 rfl (zN (pV 0 rfl) 1 j 0 (fun _ => rfl) rfl rfl (by omega) rfl rfl (zI 12 rfl (zD (pV 0 rfl) 1 i rfl rfl rfl (by omega) rfl (zI 13 rfl (zO 0 i (zG q j) rfl (fun _ => rfl) rfl (by omega) rfl rfl rfl (by omega) (zI 14 rfl ?_))))))))
       refine zD (pV 0 rfl) 1 j rfl rfl rfl (by simp only [List.length_set]; omega) rfl (zI 15 rfl (zO 0 j (zG q i) rfl (fun _ => rfl) rfl (by omega) rfl rfl rfl (by simp only [List.length_set]; omega) (zF [] rfl (by decide) (fun w' hw hS => zK ?_))))
       exact ⟨z8 q i j, ⟨rfl, rfl, rfl, rfl, trivial⟩, rfl, hw⟩
     ·
      refine zP 11 rfl hw (zN (pV 0 rfl) 1 i 0 (fun _ => rfl) rfl rfl (by omega) rfl rfl (zI 6 rfl (zD (pV 0 rfl) 1 j rfl rfl rfl (by omega) rfl (zI 7 rfl (zN (pV 0 rfl) 1 j 0 (fun _ => rfl) rfl rfl (by omega) rfl rfl (zI 12 rfl (zD (pV 0 rfl) 1 i rfl rfl rfl (by omega) rfl (zI 13 rfl ?_))))))))
      refine zO 0 i (zG q j) rfl (fun _ => rfl) rfl (by omega) rfl rfl rfl (by omega) (zI 14 rfl (zD (pV 0 rfl) 1 j rfl rfl rfl (by simp only [List.length_set]; omega) rfl (zI 15 rfl (zO 0 j (zG q i) rfl (fun _ => rfl) rfl (by omega) rfl rfl rfl (by simp only [List.length_set]; omega) (zF [] rfl (by decide) (fun w' hw hS => zK ?_))))))
      exact ⟨z8 q i j, ⟨rfl, rfl, rfl, rfl, trivial⟩, rfl, hw⟩
   have hn := hΦ
   have hij : i < j := (by have h1 := hlt (by omega); have h2 := hge (by omega); rcases Nat.lt_or_ge i j with h | h; exact h; rw [show i = j by omega] at h2; exact absurd h1 h2)
   have hsw := zCD hLo2 hHi2 hij (by omega) (by omega) (by omega) (hge (by omega)) (hlt (by omega))
   refine zB (zC rfl (zw rfl rfl (zt (by omega)) rfl (zH rfl (zA (zB (zC rfl (z9 (c := ((j - 1 : Nat) : Int)) rfl rfl (xV (by omega) (by omega)) rfl (zH rfl (zA (zM (zS ?_)))))))))))
   refine kh (fun (i j : Nat) (q : List Nat) => [(0, v), (1, Vj a), (10, Vj i), (11, Vj j)]) (fun (i j : Nat) (q : List Nat) => ((a + 1 ≤ i ∧ i ≤ j + 1) ∧ j < b) ∧ Same a b l q ∧ Lo a i q ∧ Hi a j b q) (fun (i j : Nat) (q : List Nat) => [Res.vec 28 1 v q.length (q.flatMap U1)]) (fun (i j : Nat) (q : List Nat) => j + 1 - i) (fun w' hw => ⟨i + 1, j - 1, n, ⟨rfl, rfl, rfl, rfl, trivial⟩, ⟨⟨⟨by omega, by omega⟩, by omega⟩, (by rw [hn]; exact hSq.then_swp ⟨by omega, by omega⟩ ⟨by omega, by omega⟩ hb), (by rw [hn]; exact hsw.1), (by rw [hn]; exact hsw.2)⟩, hw⟩) (fun i j q g hΦ => ?_)
   have hij3 := hΦ.1
   have hS3 := hΦ.2.1
   have hL3 := hΦ.2.2.1
   have hH3 := hΦ.2.2.2
   have hq3 := hS3.len
   refine zS (yJ (fun (i2 : Nat) => [(0, v), (1, Vj a), (10, Vj i2), (11, Vj j)]) (fun (i2 : Nat) => (i ≤ i2 ∧ i2 ≤ j + 1) ∧ Lo a i2 q ∧ (i2 ≤ j → xl (zG q a) (zG q i2))) (fun (i2 : Nat) => [Res.vec 28 1 v q.length (q.flatMap U1)]) ?_ (fun i2 g hΦ => ?_))
   ·
    refine zS ?_
    refine xL (fun (i2 : Nat) => [(0, v), (1, Vj a), (10, Vj i2), (11, Vj j)]) (fun (i2 : Nat) => (i ≤ i2 ∧ i2 ≤ j + 1) ∧ Lo a i2 q) (fun (i2 : Nat) => [Res.vec 28 1 v q.length (q.flatMap U1)]) (fun (i2 : Nat) => j + 1 - i2) (fun w' hw => ⟨i, ⟨rfl, rfl, rfl, rfl, trivial⟩, ⟨⟨by omega, by omega⟩, hL3⟩, hw⟩) (fun i2 g hΦ => ?_)
    have hi4 := hΦ.1
    have hL4 := hΦ.2
    refine zM (zM (zX [0] rfl (by decide) (by kernel_rfl) (fun w' hw hS => zE 0 rfl (zJ) hS (zE 1 rfl (zJ) hS (zE 2 rfl (zA3 rfl rfl) hS (zE 3 rfl (zJ) hS ?_))))))
    by_cases g13_3 : ((i2 : Nat) : Int) ≤ ((j : Nat) : Int)
    ·
     refine zj 4 rfl rfl (gT g13_3) (zJ) hS (zj 5 rfl rfl (gT g13_3) (zJ) hS (zj 6 rfl rfl (gT g13_3) (z7 (pV 0 rfl) 1 i2 rfl rfl rfl (by omega)) hS (zj 7 rfl rfl (gT g13_3) (yQ (pV 0 rfl) 1 i2 0 (fun _ => rfl) rfl rfl (by omega) rfl) hS (zj 8 rfl rfl (gT g13_3) (zJ) hS (zj 9 rfl rfl (gT g13_3) (zJ) hS (zj 10 rfl rfl (gT g13_3) (z7 (pV 0 rfl) 1 a rfl rfl rfl (by omega)) hS (zj 11 rfl rfl (gT g13_3) (yQ (pV 0 rfl) 1 a 0 (fun _ => rfl) rfl rfl (by omega) rfl) hS (zZ 12 rfl hw (zV rfl (gT g13_3) (zQ rfl rfl (fun w' hw => (xM (zG q i2) (zG q a) w').mono ?_)))))))))))
     rintro _ w1 ⟨rfl, hO⟩
     refine (?_ : CL _ _ _ _ _ _ (Own w S [Res.vec 28 1 v q.length (q.flatMap U1)])) w1 (hw.frame0 hO)
     refine zF [0] rfl (by decide) (fun w' hw hS => zE 13 rfl (xe (gT g13_3)) hS (zK ?_))
     refine (?_ : C _ _ _ _ _ _ _ (Own w S [Res.vec 28 1 v q.length (q.flatMap U1)])) _ hw
     refine zU rfl (fun c6 => ?_) (fun c6 => ?_)
     ·
      refine zL (zS (zg (zC rfl (zw rfl rfl (zt (by omega)) rfl (zH rfl ?_)))))
      exact zf (fun w' hw => ⟨i2 + 1, ⟨rfl, rfl, rfl, rfl, trivial⟩, ⟨⟨by omega, by omega⟩, hL4.step c6⟩, hw, (by omega)⟩)
     ·
      exact yU rfl (fun w' hw => ⟨i2, ⟨rfl, rfl, rfl, rfl, trivial⟩, ⟨hi4, hL4, fun _ => c6⟩, hw⟩)
    ·
     refine ze 4 rfl rfl (gF g13_3) rfl hS (ze 5 rfl rfl (gF g13_3) rfl hS (ze 6 rfl rfl (gF g13_3) rfl hS (ze 7 rfl rfl (gF g13_3) rfl hS (ze 8 rfl rfl (gF g13_3) rfl hS (ze 9 rfl rfl (gF g13_3) rfl hS (ze 10 rfl rfl (gF g13_3) rfl hS (ze 11 rfl rfl (gF g13_3) rfl hS (ze 12 rfl rfl (gF g13_3) rfl hS (zE 13 rfl (xg (gF g13_3)) hS (zK ?_))))))))))
     refine (?_ : C _ _ _ _ _ _ _ (Own w S [Res.vec 28 1 v q.length (q.flatMap U1)])) _ hw
     refine xm rfl ?_
     exact yU rfl (fun w' hw => ⟨i2, ⟨rfl, rfl, rfl, rfl, trivial⟩, ⟨hi4, hL4, fun h => absurd h (by omega)⟩, hw⟩)
   have hi5 := hΦ.1
   have hL5 := hΦ.2.1
   have hge5 := hΦ.2.2
   refine yJ (fun (j2 : Nat) => [(0, v), (1, Vj a), (10, Vj i2), (11, Vj j2)]) (fun (j2 : Nat) => (i2 ≤ j2 + 1 ∧ j2 ≤ j) ∧ Hi a j2 b q ∧ (i2 ≤ j2 → olt (zG q j2) (zG q a))) (fun (j2 : Nat) => [Res.vec 28 1 v q.length (q.flatMap U1)]) ?_ (fun j2 g hΦ => ?_)
   ·
    refine zS ?_
    refine xL (fun (j2 : Nat) => [(0, v), (1, Vj a), (10, Vj i2), (11, Vj j2)]) (fun (j2 : Nat) => (i2 ≤ j2 + 1 ∧ j2 ≤ j) ∧ Hi a j2 b q) (fun (j2 : Nat) => [Res.vec 28 1 v q.length (q.flatMap U1)]) (fun (j2 : Nat) => j2) (fun w' hw => ⟨j, ⟨rfl, rfl, rfl, rfl, trivial⟩, ⟨⟨by omega, by omega⟩, hH3⟩, hw⟩) (fun j2 g hΦ => ?_)
    have hj6 := hΦ.1
    have hH6 := hΦ.2
    refine zM (zM (zX [0] rfl (by decide) (by kernel_rfl) (fun w' hw hS => zE 0 rfl (zJ) hS (zE 1 rfl (zJ) hS (zE 2 rfl (zA3 rfl rfl) hS (zE 3 rfl (zJ) hS ?_))))))
    by_cases g15_3 : ((i2 : Nat) : Int) ≤ ((j2 : Nat) : Int)
    ·
     refine zj 4 rfl rfl (gT g15_3) (zJ) hS (zj 5 rfl rfl (gT g15_3) (zJ) hS (zj 6 rfl rfl (gT g15_3) (z7 (pV 0 rfl) 1 j2 rfl rfl rfl (by omega)) hS (zj 7 rfl rfl (gT g15_3) (yQ (pV 0 rfl) 1 j2 0 (fun _ => rfl) rfl rfl (by omega) rfl) hS (zj 8 rfl rfl (gT g15_3) (zJ) hS (zj 9 rfl rfl (gT g15_3) (zJ) hS (zj 10 rfl rfl (gT g15_3) (z7 (pV 0 rfl) 1 a rfl rfl rfl (by omega)) hS (zj 11 rfl rfl (gT g15_3) (yQ (pV 0 rfl) 1 a 0 (fun _ => rfl) rfl rfl (by omega) rfl) hS (zZ 12 rfl hw (zV rfl (gT g15_3) (zQ rfl rfl (fun w' hw => (xM (zG q j2) (zG q a) w').mono ?_)))))))))))
     rintro _ w1 ⟨rfl, hO⟩
     refine (?_ : CL _ _ _ _ _ _ (Own w S [Res.vec 28 1 v q.length (q.flatMap U1)])) w1 (hw.frame0 hO)
     refine zF [0] rfl (by decide) (fun w' hw hS => zj 13 rfl rfl (gT g15_3) (kz (q := olt (zG q j2) (zG q a)) rfl) hS (zE 14 rfl (xe (gT g15_3)) hS (zK ?_)))
     refine (?_ : C _ _ _ _ _ _ _ (Own w S [Res.vec 28 1 v q.length (q.flatMap U1)])) _ hw
     refine zU rfl (fun c8 => ?_) (fun c8 => ?_)
     ·
      refine zL (zS (zg (zC rfl (z9 (c := ((j2 - 1 : Nat) : Int)) rfl rfl (xV (by omega) (by omega)) rfl (zH rfl ?_)))))
      exact zf (fun w' hw => ⟨j2 - 1, ⟨rfl, rfl, rfl, rfl, trivial⟩, ⟨⟨by omega, by omega⟩, hH6.step c8⟩, hw, (by omega)⟩)
     ·
      exact yU rfl (fun w' hw => ⟨j2, ⟨rfl, rfl, rfl, rfl, trivial⟩, ⟨hj6, hH6, fun _ => Decidable.not_not.1 c8⟩, hw⟩)
    ·
     refine ze 4 rfl rfl (gF g15_3) rfl hS (ze 5 rfl rfl (gF g15_3) rfl hS (ze 6 rfl rfl (gF g15_3) rfl hS (ze 7 rfl rfl (gF g15_3) rfl hS (ze 8 rfl rfl (gF g15_3) rfl hS (ze 9 rfl rfl (gF g15_3) rfl hS (ze 10 rfl rfl (gF g15_3) rfl hS (ze 11 rfl rfl (gF g15_3) rfl hS (ze 12 rfl rfl (gF g15_3) rfl hS (ze 13 rfl rfl (gF g15_3) rfl hS (zE 14 rfl (xg (gF g15_3)) hS (zK ?_)))))))))))
     refine (?_ : C _ _ _ _ _ _ _ (Own w S [Res.vec 28 1 v q.length (q.flatMap U1)])) _ hw
     refine xm rfl ?_
     exact yU rfl (fun w' hw => ⟨j2, ⟨rfl, rfl, rfl, rfl, trivial⟩, ⟨hj6, hH6, fun h => absurd h (by omega)⟩, hw⟩)
   have hj7 := hΦ.1
   have hH7 := hΦ.2.1
   have hlt7 := hΦ.2.2
   refine zM (zB (zC rfl (zC rfl (xY rfl rfl rfl (zA (zU rfl (fun c10 => ?_) (fun c10 => ?_)))))))
   ·
    refine yA rfl (yJ (fun (n : List Nat) => [(11, Vj j2)]) (fun (n : List Nat) => n = z8 q j2 a) (fun (n : List Nat) => [Res.vec 28 1 v n.length (n.flatMap U1)]) ?_ (fun n g hΦ => ?_))
    ·
     refine zX [] rfl (by decide) (by kernel_rfl) (fun w' hw hS => zE 0 rfl (zJ) hS (zE 1 rfl (zJ) hS (zE 2 rfl (zJ) hS (zE 3 rfl (zJ) hS (zE 4 rfl (zJ) hS (zE 5 rfl (zJ) hS (zE 8 rfl (zJ) hS (zE 9 rfl (zJ) hS (zT 6 10 ?_ ?_)))))))))
     ·
      refine zP 6 rfl hw (zD (pV 0 rfl) 1 a rfl rfl rfl (by omega) rfl (zF [] rfl (by decide) (fun w' hw hS => zT 7 10 ?_ ?_)))
      ·
       refine zP 7 rfl hw (zN (pV 0 rfl) 1 a 0 (fun _ => rfl) rfl rfl (by omega) rfl rfl (zI 10 rfl (zD (pV 0 rfl) 1 j2 rfl rfl rfl (by omega) rfl (zI 11 rfl (zN (pV 0 rfl) 1 j2 0 (fun _ => rfl) rfl rfl (by omega) rfl rfl (zI 12 rfl (zD (pV 0 rfl) 1 j2 rfl rfl rfl (by omega) rfl (zI 13 rfl ?_))))))))
       refine zO 0 j2 (zG q a) rfl (fun _ => rfl) rfl (by omega) rfl rfl rfl (by omega) (zI 14 rfl (zD (pV 0 rfl) 1 a rfl rfl rfl (by simp only [List.length_set]; omega) rfl (zI 15 rfl (zO 0 a (zG q j2) rfl (fun _ => rfl) rfl (by omega) rfl rfl rfl (by simp only [List.length_set]; omega) (zF [] rfl (by decide) (fun w' hw hS => zK ?_))))))
       exact ⟨z8 q j2 a, ⟨rfl, trivial⟩, rfl, hw⟩
      ·
       refine zP 10 rfl hw (zD (pV 0 rfl) 1 j2 rfl rfl rfl (by omega) rfl (zF [] rfl (by decide) (fun w' hw hS => zT 7 11 ?_ ?_)))
       ·
        refine zP 7 rfl hw (zN (pV 0 rfl) 1 a 0 (fun _ => rfl) rfl rfl (by omega) rfl rfl (zI 11 rfl (zN (pV 0 rfl) 1 j2 0 (fun _ => rfl) rfl rfl (by omega) rfl rfl (zI 12 rfl (zD (pV 0 rfl) 1 j2 rfl rfl rfl (by omega) rfl (zI 13 rfl (zO 0 j2 (zG q a) rfl (fun _ => rfl) rfl (by omega) rfl rfl rfl (by omega) (zI 14 rfl ?_))))))))
        refine zD (pV 0 rfl) 1 a rfl rfl rfl (by simp only [List.length_set]; omega) rfl (zI 15 rfl (zO 0 a (zG q j2) rfl (fun _ => rfl) rfl (by omega) rfl rfl rfl (by simp only [List.length_set]; omega) (zF [] rfl (by decide) (fun w' hw hS => zK ?_))))
        exact ⟨z8 q j2 a, ⟨rfl, trivial⟩, rfl, hw⟩
       ·
        refine zP 11 rfl hw (zN (pV 0 rfl) 1 j2 0 (fun _ => rfl) rfl rfl (by omega) rfl rfl (zI 7 rfl (zN (pV 0 rfl) 1 a 0 (fun _ => rfl) rfl rfl (by omega) rfl rfl (zI 12 rfl (zD (pV 0 rfl) 1 j2 rfl rfl rfl (by omega) rfl (zI 13 rfl (zO 0 j2 (zG q a) rfl (fun _ => rfl) rfl (by omega) rfl rfl rfl (by omega) (zI 14 rfl ?_))))))))
        refine zD (pV 0 rfl) 1 a rfl rfl rfl (by simp only [List.length_set]; omega) rfl (zI 15 rfl (zO 0 a (zG q j2) rfl (fun _ => rfl) rfl (by omega) rfl rfl rfl (by simp only [List.length_set]; omega) (zF [] rfl (by decide) (fun w' hw hS => zK ?_))))
        exact ⟨z8 q j2 a, ⟨rfl, trivial⟩, rfl, hw⟩
     ·
      refine zP 10 rfl hw (zD (pV 0 rfl) 1 j2 rfl rfl rfl (by omega) rfl (zF [] rfl (by decide) (fun w' hw hS => zT 6 11 ?_ ?_)))
      ·
       refine zP 6 rfl hw (zD (pV 0 rfl) 1 a rfl rfl rfl (by omega) rfl (zF [] rfl (by decide) (fun w' hw hS => zT 7 11 ?_ ?_)))
       ·
        refine zP 7 rfl hw (zN (pV 0 rfl) 1 a 0 (fun _ => rfl) rfl rfl (by omega) rfl rfl (zI 11 rfl (zN (pV 0 rfl) 1 j2 0 (fun _ => rfl) rfl rfl (by omega) rfl rfl (zI 12 rfl (zD (pV 0 rfl) 1 j2 rfl rfl rfl (by omega) rfl (zI 13 rfl (zO 0 j2 (zG q a) rfl (fun _ => rfl) rfl (by omega) rfl rfl rfl (by omega) (zI 14 rfl ?_))))))))
        refine zD (pV 0 rfl) 1 a rfl rfl rfl (by simp only [List.length_set]; omega) rfl (zI 15 rfl (zO 0 a (zG q j2) rfl (fun _ => rfl) rfl (by omega) rfl rfl rfl (by simp only [List.length_set]; omega) (zF [] rfl (by decide) (fun w' hw hS => zK ?_))))
        exact ⟨z8 q j2 a, ⟨rfl, trivial⟩, rfl, hw⟩
       ·
        refine zP 11 rfl hw (zN (pV 0 rfl) 1 j2 0 (fun _ => rfl) rfl rfl (by omega) rfl rfl (zI 7 rfl (zN (pV 0 rfl) 1 a 0 (fun _ => rfl) rfl rfl (by omega) rfl rfl (zI 12 rfl (zD (pV 0 rfl) 1 j2 rfl rfl rfl (by omega) rfl (zI 13 rfl (zO 0 j2 (zG q a) rfl (fun _ => rfl) rfl (by omega) rfl rfl rfl (by omega) (zI 14 rfl ?_))))))))
        refine zD (pV 0 rfl) 1 a rfl rfl rfl (by simp only [List.length_set]; omega) rfl (zI 15 rfl (zO 0 a (zG q j2) rfl (fun _ => rfl) rfl (by omega) rfl rfl rfl (by simp only [List.length_set]; omega) (zF [] rfl (by decide) (fun w' hw hS => zK ?_))))
        exact ⟨z8 q j2 a, ⟨rfl, trivial⟩, rfl, hw⟩
      ·
       refine zP 11 rfl hw (zN (pV 0 rfl) 1 j2 0 (fun _ => rfl) rfl rfl (by omega) rfl rfl (zI 6 rfl (zD (pV 0 rfl) 1 a rfl rfl rfl (by omega) rfl (zI 7 rfl (zN (pV 0 rfl) 1 a 0 (fun _ => rfl) rfl rfl (by omega) rfl rfl (zI 12 rfl (zD (pV 0 rfl) 1 j2 rfl rfl rfl (by omega) rfl (zI 13 rfl ?_))))))))
       refine zO 0 j2 (zG q a) rfl (fun _ => rfl) rfl (by omega) rfl rfl rfl (by omega) (zI 14 rfl (zD (pV 0 rfl) 1 a rfl rfl rfl (by simp only [List.length_set]; omega) rfl (zI 15 rfl (zO 0 a (zG q j2) rfl (fun _ => rfl) rfl (by omega) rfl rfl rfl (by simp only [List.length_set]; omega) (zF [] rfl (by decide) (fun w' hw hS => zK ?_))))))
       exact ⟨z8 q j2 a, ⟨rfl, trivial⟩, rfl, hw⟩
    have hn := hΦ
    refine zB (zC rfl (zH rfl (zH rfl (zA ?_))))
    exact zR (ya (v := Vj j2) (v' := .bool false) rfl rfl rfl (fun w' hw => ⟨n, j2, false, rfl, (by rw [hn]; exact hS3.then_swp ⟨by omega, by omega⟩ ⟨by omega, by omega⟩ hb), ⟨by omega, by omega⟩, (by rw [hn]; exact zCw (by rw [show j2 + 1 = i2 by omega]; exact hL5) hH7 (by omega) (by omega) (by omega)), hw⟩))
   ·
    refine zL (yJ (fun (n : List Nat) => [(0, v), (1, Vj a), (10, Vj i2), (11, Vj j2)]) (fun (n : List Nat) => n = z8 q i2 j2) (fun (n : List Nat) => [Res.vec 28 1 v n.length (n.flatMap U1)]) ?_ (fun n g hΦ => ?_))
    ·
     refine zX [] rfl (by decide) (by kernel_rfl) (fun w' hw hS => zE 0 rfl (zJ) hS (zE 1 rfl (zJ) hS (zE 2 rfl (zJ) hS (zE 3 rfl (zJ) hS (zE 4 rfl (zJ) hS (zE 5 rfl (zJ) hS (zE 8 rfl (zJ) hS (zE 9 rfl (zJ) hS (zT 6 10 ?_ ?_)))))))))
     ·
      refine zP 6 rfl hw (zD (pV 0 rfl) 1 j2 rfl rfl rfl (by omega) rfl (zF [] rfl (by decide) (fun w' hw hS => zT 7 10 ?_ ?_)))
      ·
       refine zP 7 rfl hw (zN (pV 0 rfl) 1 j2 0 (fun _ => rfl) rfl rfl (by omega) rfl rfl (zI 10 rfl (zD (pV 0 rfl) 1 i2 rfl rfl rfl (by omega) rfl (zI 11 rfl (zN (pV 0 rfl) 1 i2 0 (fun _ => rfl) rfl rfl (by omega) rfl rfl (zI 12 rfl (zD (pV 0 rfl) 1 i2 rfl rfl rfl (by omega) rfl (zI 13 rfl ?_))))))))
       refine zO 0 i2 (zG q j2) rfl (fun _ => rfl) rfl (by omega) rfl rfl rfl (by omega) (zI 14 rfl (zD (pV 0 rfl) 1 j2 rfl rfl rfl (by simp only [List.length_set]; omega) rfl (zI 15 rfl (zO 0 j2 (zG q i2) rfl (fun _ => rfl) rfl (by omega) rfl rfl rfl (by simp only [List.length_set]; omega) (zF [] rfl (by decide) (fun w' hw hS => zK ?_))))))
       exact ⟨z8 q i2 j2, ⟨rfl, rfl, rfl, rfl, trivial⟩, rfl, hw⟩
      ·
       refine zP 10 rfl hw (zD (pV 0 rfl) 1 i2 rfl rfl rfl (by omega) rfl (zF [] rfl (by decide) (fun w' hw hS => zT 7 11 ?_ ?_)))
       ·
        refine zP 7 rfl hw (zN (pV 0 rfl) 1 j2 0 (fun _ => rfl) rfl rfl (by omega) rfl rfl (zI 11 rfl (zN (pV 0 rfl) 1 i2 0 (fun _ => rfl) rfl rfl (by omega) rfl rfl (zI 12 rfl (zD (pV 0 rfl) 1 i2 rfl rfl rfl (by omega) rfl (zI 13 rfl (zO 0 i2 (zG q j2) rfl (fun _ => rfl) rfl (by omega) rfl rfl rfl (by omega) (zI 14 rfl ?_))))))))
        refine zD (pV 0 rfl) 1 j2 rfl rfl rfl (by simp only [List.length_set]; omega) rfl (zI 15 rfl (zO 0 j2 (zG q i2) rfl (fun _ => rfl) rfl (by omega) rfl rfl rfl (by simp only [List.length_set]; omega) (zF [] rfl (by decide) (fun w' hw hS => zK ?_))))
        exact ⟨z8 q i2 j2, ⟨rfl, rfl, rfl, rfl, trivial⟩, rfl, hw⟩
       ·
        refine zP 11 rfl hw (zN (pV 0 rfl) 1 i2 0 (fun _ => rfl) rfl rfl (by omega) rfl rfl (zI 7 rfl (zN (pV 0 rfl) 1 j2 0 (fun _ => rfl) rfl rfl (by omega) rfl rfl (zI 12 rfl (zD (pV 0 rfl) 1 i2 rfl rfl rfl (by omega) rfl (zI 13 rfl (zO 0 i2 (zG q j2) rfl (fun _ => rfl) rfl (by omega) rfl rfl rfl (by omega) (zI 14 rfl ?_))))))))
        refine zD (pV 0 rfl) 1 j2 rfl rfl rfl (by simp only [List.length_set]; omega) rfl (zI 15 rfl (zO 0 j2 (zG q i2) rfl (fun _ => rfl) rfl (by omega) rfl rfl rfl (by simp only [List.length_set]; omega) (zF [] rfl (by decide) (fun w' hw hS => zK ?_))))
        exact ⟨z8 q i2 j2, ⟨rfl, rfl, rfl, rfl, trivial⟩, rfl, hw⟩
     ·
      refine zP 10 rfl hw (zD (pV 0 rfl) 1 i2 rfl rfl rfl (by omega) rfl (zF [] rfl (by decide) (fun w' hw hS => zT 6 11 ?_ ?_)))
      ·
       refine zP 6 rfl hw (zD (pV 0 rfl) 1 j2 rfl rfl rfl (by omega) rfl (zF [] rfl (by decide) (fun w' hw hS => zT 7 11 ?_ ?_)))
       ·
        refine zP 7 rfl hw (zN (pV 0 rfl) 1 j2 0 (fun _ => rfl) rfl rfl (by omega) rfl rfl (zI 11 rfl (zN (pV 0 rfl) 1 i2 0 (fun _ => rfl) rfl rfl (by omega) rfl rfl (zI 12 rfl (zD (pV 0 rfl) 1 i2 rfl rfl rfl (by omega) rfl (zI 13 rfl (zO 0 i2 (zG q j2) rfl (fun _ => rfl) rfl (by omega) rfl rfl rfl (by omega) (zI 14 rfl ?_))))))))
        refine zD (pV 0 rfl) 1 j2 rfl rfl rfl (by simp only [List.length_set]; omega) rfl (zI 15 rfl (zO 0 j2 (zG q i2) rfl (fun _ => rfl) rfl (by omega) rfl rfl rfl (by simp only [List.length_set]; omega) (zF [] rfl (by decide) (fun w' hw hS => zK ?_))))
        exact ⟨z8 q i2 j2, ⟨rfl, rfl, rfl, rfl, trivial⟩, rfl, hw⟩
       ·
        refine zP 11 rfl hw (zN (pV 0 rfl) 1 i2 0 (fun _ => rfl) rfl rfl (by omega) rfl rfl (zI 7 rfl (zN (pV 0 rfl) 1 j2 0 (fun _ => rfl) rfl rfl (by omega) rfl rfl (zI 12 rfl (zD (pV 0 rfl) 1 i2 rfl rfl rfl (by omega) rfl (zI 13 rfl (zO 0 i2 (zG q j2) rfl (fun _ => rfl) rfl (by omega) rfl rfl rfl (by omega) (zI 14 rfl ?_))))))))
        refine zD (pV 0 rfl) 1 j2 rfl rfl rfl (by simp only [List.length_set]; omega) rfl (zI 15 rfl (zO 0 j2 (zG q i2) rfl (fun _ => rfl) rfl (by omega) rfl rfl rfl (by simp only [List.length_set]; omega) (zF [] rfl (by decide) (fun w' hw hS => zK ?_))))
        exact ⟨z8 q i2 j2, ⟨rfl, rfl, rfl, rfl, trivial⟩, rfl, hw⟩
      ·
       refine zP 11 rfl hw (zN (pV 0 rfl) 1 i2 0 (fun _ => rfl) rfl rfl (by omega) rfl rfl (zI 6 rfl (zD (pV 0 rfl) 1 j2 rfl rfl rfl (by omega) rfl (zI 7 rfl (zN (pV 0 rfl) 1 j2 0 (fun _ => rfl) rfl rfl (by omega) rfl rfl (zI 12 rfl (zD (pV 0 rfl) 1 i2 rfl rfl rfl (by omega) rfl (zI 13 rfl ?_))))))))
       refine zO 0 i2 (zG q j2) rfl (fun _ => rfl) rfl (by omega) rfl rfl rfl (by omega) (zI 14 rfl (zD (pV 0 rfl) 1 j2 rfl rfl rfl (by simp only [List.length_set]; omega) rfl (zI 15 rfl (zO 0 j2 (zG q i2) rfl (fun _ => rfl) rfl (by omega) rfl rfl rfl (by simp only [List.length_set]; omega) (zF [] rfl (by decide) (fun w' hw hS => zK ?_))))))
       exact ⟨z8 q i2 j2, ⟨rfl, rfl, rfl, rfl, trivial⟩, rfl, hw⟩
    have hn := hΦ
    have hij : i2 < j2 := (by have h1 := hlt7 (by omega); have h2 := hge5 (by omega); rcases Nat.lt_or_ge i2 j2 with h | h; exact h; rw [show i2 = j2 by omega] at h2; first | exact absurd h1 h2 | exact absurd h2 h1)
    have hsw := zCD hL5 hH7 hij (by omega) (by omega) (by omega) (hge5 (by omega)) (hlt7 (by omega))
    refine zB (zC rfl (zw rfl rfl (zt (by omega)) rfl (zH rfl (zA (zg (zC rfl (z9 (c := ((j2 - 1 : Nat) : Int)) rfl rfl (xV (by omega) (by omega)) rfl (zH rfl ?_))))))))
    exact zf (fun w' hw => ⟨i2 + 1, j2 - 1, n, ⟨rfl, rfl, rfl, rfl, trivial⟩, ⟨⟨⟨by omega, by omega⟩, by omega⟩, (by rw [hn]; exact hS3.then_swp ⟨by omega, by omega⟩ ⟨by omega, by omega⟩ hb), (by rw [hn]; exact hsw.1), (by rw [hn]; exact hsw.2)⟩, hw, (by omega)⟩)
theorem zFz {S : List Nat} (v : Value) (l : List Nat) (a b p : Nat) (w : World) (ha : a ≤ p ∧ p < b) (hb : b ≤ l.length) (hl : zx l.length) (hin : Own w S [Res.vec 28 1 v l.length (l.flatMap U1)] w) : Rets Try.prog 53 #[v, Vj a, Vj b, Vj p] w fun u_ w' => ∃ (l' : List Nat) (m : Nat), u_ = Vj m ∧ Same a b l l' ∧ (a + 1 ≤ m ∧ m ≤ b) ∧ Eqs a m b (zG l p) l' ∧ Own w S [Res.vec 28 1 v l'.length (l'.flatMap U1)] w' := by
  refine zh Try.func53 rfl Try.ntmps53 hin ?_
  refine zB (zH rfl (zA (yJ (fun (q : List Nat) => [(0, v), (1, Vj a), (2, Vj b)]) (fun (q : List Nat) => Same a b l q ∧ zG q a = zG l p) (fun (q : List Nat) => [Res.vec 28 1 v q.length (q.flatMap U1)]) ?_ (fun q g hΦ => ?_))))
  ·
   refine zX [] rfl (by decide) (by kernel_rfl) (fun w' hw hS => zE 0 rfl (zJ) hS (zE 1 rfl (zJ) hS (zE 2 rfl (zJ) hS (zE 3 rfl (zJ) hS (zE 4 rfl (zJ) hS (zE 5 rfl (zJ) hS (zE 8 rfl (zJ) hS (zE 9 rfl (zJ) hS (zT 6 10 ?_ ?_)))))))))
   ·
    refine zP 6 rfl hw (zD (pV 0 rfl) 1 p rfl rfl rfl (by omega) rfl (zF [] rfl (by decide) (fun w' hw hS => zT 7 10 ?_ ?_)))
    ·
     refine zP 7 rfl hw (zN (pV 0 rfl) 1 p 0 (fun _ => rfl) rfl rfl (by omega) rfl rfl (zI 10 rfl (zD (pV 0 rfl) 1 a rfl rfl rfl (by omega) rfl (zI 11 rfl (zN (pV 0 rfl) 1 a 0 (fun _ => rfl) rfl rfl (by omega) rfl rfl (zI 12 rfl (zD (pV 0 rfl) 1 a rfl rfl rfl (by omega) rfl (zI 13 rfl ?_))))))))
     refine zO 0 a (zG l p) rfl (fun _ => rfl) rfl (by omega) rfl rfl rfl (by omega) (zI 14 rfl (zD (pV 0 rfl) 1 p rfl rfl rfl (by simp only [List.length_set]; omega) rfl (zI 15 rfl (zO 0 p (zG l a) rfl (fun _ => rfl) rfl (by omega) rfl rfl rfl (by simp only [List.length_set]; omega) (zF [] rfl (by decide) (fun w' hw hS => zK ?_))))))
     exact ⟨z8 l a p, ⟨rfl, rfl, rfl, trivial⟩, ⟨Same.ex ⟨by omega, by omega⟩ ⟨by omega, by omega⟩ hb, x2 (by omega) (by omega)⟩, hw⟩
    ·
     refine zP 10 rfl hw (zD (pV 0 rfl) 1 a rfl rfl rfl (by omega) rfl (zF [] rfl (by decide) (fun w' hw hS => zT 7 11 ?_ ?_)))
     ·
      refine zP 7 rfl hw (zN (pV 0 rfl) 1 p 0 (fun _ => rfl) rfl rfl (by omega) rfl rfl (zI 11 rfl (zN (pV 0 rfl) 1 a 0 (fun _ => rfl) rfl rfl (by omega) rfl rfl (zI 12 rfl (zD (pV 0 rfl) 1 a rfl rfl rfl (by omega) rfl (zI 13 rfl (zO 0 a (zG l p) rfl (fun _ => rfl) rfl (by omega) rfl rfl rfl (by omega) (zI 14 rfl ?_))))))))
      refine zD (pV 0 rfl) 1 p rfl rfl rfl (by simp only [List.length_set]; omega) rfl (zI 15 rfl (zO 0 p (zG l a) rfl (fun _ => rfl) rfl (by omega) rfl rfl rfl (by simp only [List.length_set]; omega) (zF [] rfl (by decide) (fun w' hw hS => zK ?_))))
      exact ⟨z8 l a p, ⟨rfl, rfl, rfl, trivial⟩, ⟨Same.ex ⟨by omega, by omega⟩ ⟨by omega, by omega⟩ hb, x2 (by omega) (by omega)⟩, hw⟩
     ·
      refine zP 11 rfl hw (zN (pV 0 rfl) 1 a 0 (fun _ => rfl) rfl rfl (by omega) rfl rfl (zI 7 rfl (zN (pV 0 rfl) 1 p 0 (fun _ => rfl) rfl rfl (by omega) rfl rfl (zI 12 rfl (zD (pV 0 rfl) 1 a rfl rfl rfl (by omega) rfl (zI 13 rfl (zO 0 a (zG l p) rfl (fun _ => rfl) rfl (by omega) rfl rfl rfl (by omega) (zI 14 rfl ?_))))))))
      refine zD (pV 0 rfl) 1 p rfl rfl rfl (by simp only [List.length_set]; omega) rfl (zI 15 rfl (zO 0 p (zG l a) rfl (fun _ => rfl) rfl (by omega) rfl rfl rfl (by simp only [List.length_set]; omega) (zF [] rfl (by decide) (fun w' hw hS => zK ?_))))
      exact ⟨z8 l a p, ⟨rfl, rfl, rfl, trivial⟩, ⟨Same.ex ⟨by omega, by omega⟩ ⟨by omega, by omega⟩ hb, x2 (by omega) (by omega)⟩, hw⟩
   ·
    refine zP 10 rfl hw (zD (pV 0 rfl) 1 a rfl rfl rfl (by omega) rfl (zF [] rfl (by decide) (fun w' hw hS => zT 6 11 ?_ ?_)))
    ·
     refine zP 6 rfl hw (zD (pV 0 rfl) 1 p rfl rfl rfl (by omega) rfl (zF [] rfl (by decide) (fun w' hw hS => zT 7 11 ?_ ?_)))
     ·
      refine zP 7 rfl hw (zN (pV 0 rfl) 1 p 0 (fun _ => rfl) rfl rfl (by omega) rfl rfl (zI 11 rfl (zN (pV 0 rfl) 1 a 0 (fun _ => rfl) rfl rfl (by omega) rfl rfl (zI 12 rfl (zD (pV 0 rfl) 1 a rfl rfl rfl (by omega) rfl (zI 13 rfl (zO 0 a (zG l p) rfl (fun _ => rfl) rfl (by omega) rfl rfl rfl (by omega) (zI 14 rfl ?_))))))))
      refine zD (pV 0 rfl) 1 p rfl rfl rfl (by simp only [List.length_set]; omega) rfl (zI 15 rfl (zO 0 p (zG l a) rfl (fun _ => rfl) rfl (by omega) rfl rfl rfl (by simp only [List.length_set]; omega) (zF [] rfl (by decide) (fun w' hw hS => zK ?_))))
      exact ⟨z8 l a p, ⟨rfl, rfl, rfl, trivial⟩, ⟨Same.ex ⟨by omega, by omega⟩ ⟨by omega, by omega⟩ hb, x2 (by omega) (by omega)⟩, hw⟩
     ·
      refine zP 11 rfl hw (zN (pV 0 rfl) 1 a 0 (fun _ => rfl) rfl rfl (by omega) rfl rfl (zI 7 rfl (zN (pV 0 rfl) 1 p 0 (fun _ => rfl) rfl rfl (by omega) rfl rfl (zI 12 rfl (zD (pV 0 rfl) 1 a rfl rfl rfl (by omega) rfl (zI 13 rfl (zO 0 a (zG l p) rfl (fun _ => rfl) rfl (by omega) rfl rfl rfl (by omega) (zI 14 rfl ?_))))))))
      refine zD (pV 0 rfl) 1 p rfl rfl rfl (by simp only [List.length_set]; omega) rfl (zI 15 rfl (zO 0 p (zG l a) rfl (fun _ => rfl) rfl (by omega) rfl rfl rfl (by simp only [List.length_set]; omega) (zF [] rfl (by decide) (fun w' hw hS => zK ?_))))
      exact ⟨z8 l a p, ⟨rfl, rfl, rfl, trivial⟩, ⟨Same.ex ⟨by omega, by omega⟩ ⟨by omega, by omega⟩ hb, x2 (by omega) (by omega)⟩, hw⟩
    ·
     refine zP 11 rfl hw (zN (pV 0 rfl) 1 a 0 (fun _ => rfl) rfl rfl (by omega) rfl rfl (zI 6 rfl (zD (pV 0 rfl) 1 p rfl rfl rfl (by omega) rfl (zI 7 rfl (zN (pV 0 rfl) 1 p 0 (fun _ => rfl) rfl rfl (by omega) rfl rfl (zI 12 rfl (zD (pV 0 rfl) 1 a rfl rfl rfl (by omega) rfl (zI 13 rfl ?_))))))))
     refine zO 0 a (zG l p) rfl (fun _ => rfl) rfl (by omega) rfl rfl rfl (by omega) (zI 14 rfl (zD (pV 0 rfl) 1 p rfl rfl rfl (by simp only [List.length_set]; omega) rfl (zI 15 rfl (zO 0 p (zG l a) rfl (fun _ => rfl) rfl (by omega) rfl rfl rfl (by simp only [List.length_set]; omega) (zF [] rfl (by decide) (fun w' hw hS => zK ?_))))))
     exact ⟨z8 l a p, ⟨rfl, rfl, rfl, trivial⟩, ⟨Same.ex ⟨by omega, by omega⟩ ⟨by omega, by omega⟩ hb, x2 (by omega) (by omega)⟩, hw⟩
  have hql := hΦ.1.len
  have hSq := hΦ.1
  have hpv := hΦ.2
  refine zB (zC rfl (zw rfl rfl (zt (by omega)) rfl (zC rfl (z9 (c := ((b - 1 : Nat) : Int)) rfl rfl (xV (by omega) (by omega)) rfl (zH rfl (zH rfl (zA (zM (zS ?_)))))))))
  refine kh (fun (i j : Nat) (q : List Nat) => [(0, v), (1, Vj a), (9, Vj i), (10, Vj j)]) (fun (i j : Nat) (q : List Nat) => ((a + 1 ≤ i ∧ i ≤ j + 1) ∧ j < b) ∧ (Same a b l q ∧ zG q a = zG l p) ∧ Le a i q ∧ Gt a j b q) (fun (i j : Nat) (q : List Nat) => [Res.vec 28 1 v q.length (q.flatMap U1)]) (fun (i j : Nat) (q : List Nat) => j + 1 - i) (fun w' hw => ⟨a + 1, b - 1, q, ⟨rfl, rfl, rfl, rfl, trivial⟩, ⟨⟨⟨by omega, by omega⟩, by omega⟩, ⟨hSq, hpv⟩, fun k h1 h2 => by omega, fun k h1 h2 => by omega⟩, hw⟩) (fun i j q g hΦ => ?_)
  have hij3 := hΦ.1
  have hS3 := hΦ.2.1.1
  have hp3 := hΦ.2.1.2
  have hL3 := hΦ.2.2.1
  have hH3 := hΦ.2.2.2
  have hq3 := hS3.len
  refine zS (yJ (fun (i2 : Nat) => [(0, v), (1, Vj a), (9, Vj i2), (10, Vj j)]) (fun (i2 : Nat) => (i ≤ i2 ∧ i2 ≤ j + 1) ∧ Le a i2 q ∧ (i2 ≤ j → olt (zG q a) (zG q i2))) (fun (i2 : Nat) => [Res.vec 28 1 v q.length (q.flatMap U1)]) ?_ (fun i2 g hΦ => ?_))
  ·
   refine zS ?_
   refine xL (fun (i2 : Nat) => [(0, v), (1, Vj a), (9, Vj i2), (10, Vj j)]) (fun (i2 : Nat) => (i ≤ i2 ∧ i2 ≤ j + 1) ∧ Le a i2 q) (fun (i2 : Nat) => [Res.vec 28 1 v q.length (q.flatMap U1)]) (fun (i2 : Nat) => j + 1 - i2) (fun w' hw => ⟨i, ⟨rfl, rfl, rfl, rfl, trivial⟩, ⟨⟨by omega, by omega⟩, hL3⟩, hw⟩) (fun i2 g hΦ => ?_)
   have hi4 := hΦ.1
   have hL4 := hΦ.2
   refine zM (zM (zX [0] rfl (by decide) (by kernel_rfl) (fun w' hw hS => zE 0 rfl (zJ) hS (zE 1 rfl (zJ) hS (zE 2 rfl (zA3 rfl rfl) hS (zE 3 rfl (zJ) hS ?_))))))
   by_cases g3_3 : ((i2 : Nat) : Int) ≤ ((j : Nat) : Int)
   ·
    refine zj 4 rfl rfl (gT g3_3) (zJ) hS (zj 5 rfl rfl (gT g3_3) (zJ) hS (zj 6 rfl rfl (gT g3_3) (z7 (pV 0 rfl) 1 a rfl rfl rfl (by omega)) hS (zj 7 rfl rfl (gT g3_3) (yQ (pV 0 rfl) 1 a 0 (fun _ => rfl) rfl rfl (by omega) rfl) hS (zj 8 rfl rfl (gT g3_3) (zJ) hS (zj 9 rfl rfl (gT g3_3) (zJ) hS (zj 10 rfl rfl (gT g3_3) (z7 (pV 0 rfl) 1 i2 rfl rfl rfl (by omega)) hS (zj 11 rfl rfl (gT g3_3) (yQ (pV 0 rfl) 1 i2 0 (fun _ => rfl) rfl rfl (by omega) rfl) hS (zZ 12 rfl hw (zV rfl (gT g3_3) (zQ rfl rfl (fun w' hw => (xM (zG q a) (zG q i2) w').mono ?_)))))))))))
    rintro _ w1 ⟨rfl, hO⟩
    refine (?_ : CL _ _ _ _ _ _ (Own w S [Res.vec 28 1 v q.length (q.flatMap U1)])) w1 (hw.frame0 hO)
    refine zF [0] rfl (by decide) (fun w' hw hS => zj 13 rfl rfl (gT g3_3) (kz (q := olt (zG q a) (zG q i2)) rfl) hS (zE 14 rfl (xe (gT g3_3)) hS (zK ?_)))
    refine (?_ : C _ _ _ _ _ _ _ (Own w S [Res.vec 28 1 v q.length (q.flatMap U1)])) _ hw
    refine zU rfl (fun c1 => ?_) (fun c1 => ?_)
    ·
     refine zL (zS (zg (zC rfl (zw rfl rfl (zt (by omega)) rfl (zH rfl ?_)))))
     exact zf (fun w' hw => ⟨i2 + 1, ⟨rfl, rfl, rfl, rfl, trivial⟩, ⟨⟨by omega, by omega⟩, hL4.step c1⟩, hw, (by omega)⟩)
    ·
     exact yU rfl (fun w' hw => ⟨i2, ⟨rfl, rfl, rfl, rfl, trivial⟩, ⟨hi4, hL4, fun _ => Decidable.not_not.1 c1⟩, hw⟩)
   ·
    refine ze 4 rfl rfl (gF g3_3) rfl hS (ze 5 rfl rfl (gF g3_3) rfl hS (ze 6 rfl rfl (gF g3_3) rfl hS (ze 7 rfl rfl (gF g3_3) rfl hS (ze 8 rfl rfl (gF g3_3) rfl hS (ze 9 rfl rfl (gF g3_3) rfl hS (ze 10 rfl rfl (gF g3_3) rfl hS (ze 11 rfl rfl (gF g3_3) rfl hS (ze 12 rfl rfl (gF g3_3) rfl hS (ze 13 rfl rfl (gF g3_3) rfl hS (zE 14 rfl (xg (gF g3_3)) hS (zK ?_)))))))))))
    refine (?_ : C _ _ _ _ _ _ _ (Own w S [Res.vec 28 1 v q.length (q.flatMap U1)])) _ hw
    refine xm rfl ?_
    exact yU rfl (fun w' hw => ⟨i2, ⟨rfl, rfl, rfl, rfl, trivial⟩, ⟨hi4, hL4, fun h => absurd h (by omega)⟩, hw⟩)
  have hi5 := hΦ.1
  have hL5 := hΦ.2.1
  have hge5 := hΦ.2.2
  refine yJ (fun (j2 : Nat) => [(0, v), (1, Vj a), (9, Vj i2), (10, Vj j2)]) (fun (j2 : Nat) => (i2 ≤ j2 + 1 ∧ j2 ≤ j) ∧ Gt a j2 b q ∧ (i2 ≤ j2 → xl (zG q j2) (zG q a))) (fun (j2 : Nat) => [Res.vec 28 1 v q.length (q.flatMap U1)]) ?_ (fun j2 g hΦ => ?_)
  ·
   refine zS ?_
   refine xL (fun (j2 : Nat) => [(0, v), (1, Vj a), (9, Vj i2), (10, Vj j2)]) (fun (j2 : Nat) => (i2 ≤ j2 + 1 ∧ j2 ≤ j) ∧ Gt a j2 b q) (fun (j2 : Nat) => [Res.vec 28 1 v q.length (q.flatMap U1)]) (fun (j2 : Nat) => j2) (fun w' hw => ⟨j, ⟨rfl, rfl, rfl, rfl, trivial⟩, ⟨⟨by omega, by omega⟩, hH3⟩, hw⟩) (fun j2 g hΦ => ?_)
   have hj6 := hΦ.1
   have hH6 := hΦ.2
   refine zM (zM (zX [0] rfl (by decide) (by kernel_rfl) (fun w' hw hS => zE 0 rfl (zJ) hS (zE 1 rfl (zJ) hS (zE 2 rfl (zA3 rfl rfl) hS (zE 3 rfl (zJ) hS ?_))))))
   by_cases g5_3 : ((i2 : Nat) : Int) ≤ ((j2 : Nat) : Int)
   ·
    refine zj 4 rfl rfl (gT g5_3) (zJ) hS (zj 5 rfl rfl (gT g5_3) (zJ) hS (zj 6 rfl rfl (gT g5_3) (z7 (pV 0 rfl) 1 a rfl rfl rfl (by omega)) hS (zj 7 rfl rfl (gT g5_3) (yQ (pV 0 rfl) 1 a 0 (fun _ => rfl) rfl rfl (by omega) rfl) hS (zj 8 rfl rfl (gT g5_3) (zJ) hS (zj 9 rfl rfl (gT g5_3) (zJ) hS (zj 10 rfl rfl (gT g5_3) (z7 (pV 0 rfl) 1 j2 rfl rfl rfl (by omega)) hS (zj 11 rfl rfl (gT g5_3) (yQ (pV 0 rfl) 1 j2 0 (fun _ => rfl) rfl rfl (by omega) rfl) hS (zZ 12 rfl hw (zV rfl (gT g5_3) (zQ rfl rfl (fun w' hw => (xM (zG q a) (zG q j2) w').mono ?_)))))))))))
    rintro _ w1 ⟨rfl, hO⟩
    refine (?_ : CL _ _ _ _ _ _ (Own w S [Res.vec 28 1 v q.length (q.flatMap U1)])) w1 (hw.frame0 hO)
    refine zF [0] rfl (by decide) (fun w' hw hS => zE 13 rfl (xe (gT g5_3)) hS (zK ?_))
    refine (?_ : C _ _ _ _ _ _ _ (Own w S [Res.vec 28 1 v q.length (q.flatMap U1)])) _ hw
    refine zU rfl (fun c3 => ?_) (fun c3 => ?_)
    ·
     refine zL (zS (zg (zC rfl (z9 (c := ((j2 - 1 : Nat) : Int)) rfl rfl (xV (by omega) (by omega)) rfl (zH rfl ?_)))))
     exact zf (fun w' hw => ⟨j2 - 1, ⟨rfl, rfl, rfl, rfl, trivial⟩, ⟨⟨by omega, by omega⟩, hH6.step c3⟩, hw, (by omega)⟩)
    ·
     exact yU rfl (fun w' hw => ⟨j2, ⟨rfl, rfl, rfl, rfl, trivial⟩, ⟨hj6, hH6, fun _ => c3⟩, hw⟩)
   ·
    refine ze 4 rfl rfl (gF g5_3) rfl hS (ze 5 rfl rfl (gF g5_3) rfl hS (ze 6 rfl rfl (gF g5_3) rfl hS (ze 7 rfl rfl (gF g5_3) rfl hS (ze 8 rfl rfl (gF g5_3) rfl hS (ze 9 rfl rfl (gF g5_3) rfl hS (ze 10 rfl rfl (gF g5_3) rfl hS (ze 11 rfl rfl (gF g5_3) rfl hS (ze 12 rfl rfl (gF g5_3) rfl hS (zE 13 rfl (xg (gF g5_3)) hS (zK ?_))))))))))
    refine (?_ : C _ _ _ _ _ _ _ (Own w S [Res.vec 28 1 v q.length (q.flatMap U1)])) _ hw
    refine xm rfl ?_
    exact yU rfl (fun w' hw => ⟨j2, ⟨rfl, rfl, rfl, rfl, trivial⟩, ⟨hj6, hH6, fun h => absurd h (by omega)⟩, hw⟩)
  have hj7 := hΦ.1
  have hH7 := hΦ.2.1
  have hlt7 := hΦ.2.2
  refine zM (zB (zC rfl (zC rfl (xY rfl rfl rfl (zA (zU rfl (fun c5 => ?_) (fun c5 => ?_)))))))
  ·
   refine yA rfl (zB (zC rfl (zH rfl (zA ?_))))
   exact zR (z3 (v := Vj i2) rfl rfl (fun w' hw => ⟨q, i2, rfl, hS3, ⟨by omega, by omega⟩, zIC hL5 (by rw [show i2 - 1 = j2 by omega]; exact hH7) (by omega) hp3, hw⟩))
  ·
   refine zL (yJ (fun (n : List Nat) => [(0, v), (1, Vj a), (9, Vj i2), (10, Vj j2)]) (fun (n : List Nat) => n = z8 q i2 j2) (fun (n : List Nat) => [Res.vec 28 1 v n.length (n.flatMap U1)]) ?_ (fun n g hΦ => ?_))
   ·
    refine zX [] rfl (by decide) (by kernel_rfl) (fun w' hw hS => zE 0 rfl (zJ) hS (zE 1 rfl (zJ) hS (zE 2 rfl (zJ) hS (zE 3 rfl (zJ) hS (zE 4 rfl (zJ) hS (zE 5 rfl (zJ) hS (zE 8 rfl (zJ) hS (zE 9 rfl (zJ) hS (zT 6 10 ?_ ?_)))))))))
    ·
     refine zP 6 rfl hw (zD (pV 0 rfl) 1 j2 rfl rfl rfl (by omega) rfl (zF [] rfl (by decide) (fun w' hw hS => zT 7 10 ?_ ?_)))
     ·
      refine zP 7 rfl hw (zN (pV 0 rfl) 1 j2 0 (fun _ => rfl) rfl rfl (by omega) rfl rfl (zI 10 rfl (zD (pV 0 rfl) 1 i2 rfl rfl rfl (by omega) rfl (zI 11 rfl (zN (pV 0 rfl) 1 i2 0 (fun _ => rfl) rfl rfl (by omega) rfl rfl (zI 12 rfl (zD (pV 0 rfl) 1 i2 rfl rfl rfl (by omega) rfl (zI 13 rfl ?_))))))))
      refine zO 0 i2 (zG q j2) rfl (fun _ => rfl) rfl (by omega) rfl rfl rfl (by omega) (zI 14 rfl (zD (pV 0 rfl) 1 j2 rfl rfl rfl (by simp only [List.length_set]; omega) rfl (zI 15 rfl (zO 0 j2 (zG q i2) rfl (fun _ => rfl) rfl (by omega) rfl rfl rfl (by simp only [List.length_set]; omega) (zF [] rfl (by decide) (fun w' hw hS => zK ?_))))))
      exact ⟨z8 q i2 j2, ⟨rfl, rfl, rfl, rfl, trivial⟩, rfl, hw⟩
     ·
      refine zP 10 rfl hw (zD (pV 0 rfl) 1 i2 rfl rfl rfl (by omega) rfl (zF [] rfl (by decide) (fun w' hw hS => zT 7 11 ?_ ?_)))
      ·
       refine zP 7 rfl hw (zN (pV 0 rfl) 1 j2 0 (fun _ => rfl) rfl rfl (by omega) rfl rfl (zI 11 rfl (zN (pV 0 rfl) 1 i2 0 (fun _ => rfl) rfl rfl (by omega) rfl rfl (zI 12 rfl (zD (pV 0 rfl) 1 i2 rfl rfl rfl (by omega) rfl (zI 13 rfl (zO 0 i2 (zG q j2) rfl (fun _ => rfl) rfl (by omega) rfl rfl rfl (by omega) (zI 14 rfl ?_))))))))
       refine zD (pV 0 rfl) 1 j2 rfl rfl rfl (by simp only [List.length_set]; omega) rfl (zI 15 rfl (zO 0 j2 (zG q i2) rfl (fun _ => rfl) rfl (by omega) rfl rfl rfl (by simp only [List.length_set]; omega) (zF [] rfl (by decide) (fun w' hw hS => zK ?_))))
       exact ⟨z8 q i2 j2, ⟨rfl, rfl, rfl, rfl, trivial⟩, rfl, hw⟩
      ·
       refine zP 11 rfl hw (zN (pV 0 rfl) 1 i2 0 (fun _ => rfl) rfl rfl (by omega) rfl rfl (zI 7 rfl (zN (pV 0 rfl) 1 j2 0 (fun _ => rfl) rfl rfl (by omega) rfl rfl (zI 12 rfl (zD (pV 0 rfl) 1 i2 rfl rfl rfl (by omega) rfl (zI 13 rfl (zO 0 i2 (zG q j2) rfl (fun _ => rfl) rfl (by omega) rfl rfl rfl (by omega) (zI 14 rfl ?_))))))))
       refine zD (pV 0 rfl) 1 j2 rfl rfl rfl (by simp only [List.length_set]; omega) rfl (zI 15 rfl (zO 0 j2 (zG q i2) rfl (fun _ => rfl) rfl (by omega) rfl rfl rfl (by simp only [List.length_set]; omega) (zF [] rfl (by decide) (fun w' hw hS => zK ?_))))
       exact ⟨z8 q i2 j2, ⟨rfl, rfl, rfl, rfl, trivial⟩, rfl, hw⟩
    ·
     refine zP 10 rfl hw (zD (pV 0 rfl) 1 i2 rfl rfl rfl (by omega) rfl (zF [] rfl (by decide) (fun w' hw hS => zT 6 11 ?_ ?_)))
     ·
      refine zP 6 rfl hw (zD (pV 0 rfl) 1 j2 rfl rfl rfl (by omega) rfl (zF [] rfl (by decide) (fun w' hw hS => zT 7 11 ?_ ?_)))
      ·
       refine zP 7 rfl hw (zN (pV 0 rfl) 1 j2 0 (fun _ => rfl) rfl rfl (by omega) rfl rfl (zI 11 rfl (zN (pV 0 rfl) 1 i2 0 (fun _ => rfl) rfl rfl (by omega) rfl rfl (zI 12 rfl (zD (pV 0 rfl) 1 i2 rfl rfl rfl (by omega) rfl (zI 13 rfl (zO 0 i2 (zG q j2) rfl (fun _ => rfl) rfl (by omega) rfl rfl rfl (by omega) (zI 14 rfl ?_))))))))
       refine zD (pV 0 rfl) 1 j2 rfl rfl rfl (by simp only [List.length_set]; omega) rfl (zI 15 rfl (zO 0 j2 (zG q i2) rfl (fun _ => rfl) rfl (by omega) rfl rfl rfl (by simp only [List.length_set]; omega) (zF [] rfl (by decide) (fun w' hw hS => zK ?_))))
       exact ⟨z8 q i2 j2, ⟨rfl, rfl, rfl, rfl, trivial⟩, rfl, hw⟩
      ·
       refine zP 11 rfl hw (zN (pV 0 rfl) 1 i2 0 (fun _ => rfl) rfl rfl (by omega) rfl rfl (zI 7 rfl (zN (pV 0 rfl) 1 j2 0 (fun _ => rfl) rfl rfl (by omega) rfl rfl (zI 12 rfl (zD (pV 0 rfl) 1 i2 rfl rfl rfl (by omega) rfl (zI 13 rfl (zO 0 i2 (zG q j2) rfl (fun _ => rfl) rfl (by omega) rfl rfl rfl (by omega) (zI 14 rfl ?_))))))))
       refine zD (pV 0 rfl) 1 j2 rfl rfl rfl (by simp only [List.length_set]; omega) rfl (zI 15 rfl (zO 0 j2 (zG q i2) rfl (fun _ => rfl) rfl (by omega) rfl rfl rfl (by simp only [List.length_set]; omega) (zF [] rfl (by decide) (fun w' hw hS => zK ?_))))
       exact ⟨z8 q i2 j2, ⟨rfl, rfl, rfl, rfl, trivial⟩, rfl, hw⟩
     ·
      refine zP 11 rfl hw (zN (pV 0 rfl) 1 i2 0 (fun _ => rfl) rfl rfl (by omega) rfl rfl (zI 6 rfl (zD (pV 0 rfl) 1 j2 rfl rfl rfl (by omega) rfl (zI 7 rfl (zN (pV 0 rfl) 1 j2 0 (fun _ => rfl) rfl rfl (by omega) rfl rfl (zI 12 rfl (zD (pV 0 rfl) 1 i2 rfl rfl rfl (by omega) rfl (zI 13 rfl ?_))))))))
      refine zO 0 i2 (zG q j2) rfl (fun _ => rfl) rfl (by omega) rfl rfl rfl (by omega) (zI 14 rfl (zD (pV 0 rfl) 1 j2 rfl rfl rfl (by simp only [List.length_set]; omega) rfl (zI 15 rfl (zO 0 j2 (zG q i2) rfl (fun _ => rfl) rfl (by omega) rfl rfl rfl (by simp only [List.length_set]; omega) (zF [] rfl (by decide) (fun w' hw hS => zK ?_))))))
      exact ⟨z8 q i2 j2, ⟨rfl, rfl, rfl, rfl, trivial⟩, rfl, hw⟩
   have hn := hΦ
   have hij : i2 < j2 := (by have h1 := hlt7 (by omega); have h2 := hge5 (by omega); rcases Nat.lt_or_ge i2 j2 with h | h; exact h; rw [show i2 = j2 by omega] at h2; first | exact absurd h1 h2 | exact absurd h2 h1)
   have hsw := zFS hL5 hH7 hij (by omega) (by omega) (by omega) (hge5 (by omega)) (hlt7 (by omega))
   refine zB (zC rfl (zw rfl rfl (zt (by omega)) rfl (zH rfl (zA (zg (zC rfl (z9 (c := ((j2 - 1 : Nat) : Int)) rfl rfl (xV (by omega) (by omega)) rfl (zH rfl ?_))))))))
   exact zf (fun w' hw => ⟨i2 + 1, j2 - 1, n, ⟨rfl, rfl, rfl, rfl, trivial⟩, ⟨⟨⟨by omega, by omega⟩, by omega⟩, ⟨(by rw [hn]; exact hS3.then_swp ⟨by omega, by omega⟩ ⟨by omega, by omega⟩ hb), (by rw [hn, hsw.2]; exact hp3)⟩, (by rw [hn]; exact hsw.1.1), (by rw [hn]; exact hsw.1.2)⟩, hw, (by omega)⟩)
end Go.Proofs.Ytcdiehplbmkmeaa
