import Derived.Test.YtcdiehplbmkmeaaGreatSortU
set_option linter.unusedSectionVars false
set_option linter.unusedSimpArgs false
set_option linter.unusedVariables false
set_option maxRecDepth 10000
namespace Go.Proofs.YtcdiehplbmkmeaaGreat
open Go Go.Sc Go.Proofs
theorem zHk {S : List Nat} (v : Value) (l : List Nat) (a b p : Nat) (w : World) (ha : a ≤ p ∧ p < b) (hb : b ≤ l.length) (hl : z6 l.length) (hin : Own w S [Res.vec 32 1 v l.length (l.flatMap U1)] w) : Rets Tryz.prog 86 #[v, Vj a, Vj b, Vj p] w fun u_ w' => ∃ (l' : List Nat) (m : Nat) (al : Bool), u_ = .tuple #[Vj m, .bool al] ∧ Same a b l l' ∧ (a ≤ m ∧ m < b) ∧ Part a b m l' ∧ Own w S [Res.vec 32 1 v l'.length (l'.flatMap U1)] w' := by
  refine ze Tryz.func86 rfl Tryz.ntmps86 hin ?_
  refine zB (zH rfl (zH rfl (zA (ye (fun (q : List Nat) => [(0, v), (1, Vj a), (2, Vj b)]) (fun (q : List Nat) => Same a b l q) (fun (q : List Nat) => [Res.vec 32 1 v q.length (q.flatMap U1)]) ?_ (fun q g hΦ => ?_)))))
  ·
   refine zZ [] rfl (by decide) (by kernel_rfl) (fun w' hw hS => zD 0 rfl (zK) hS (zD 1 rfl (zK) hS (zD 2 rfl (zK) hS (zD 3 rfl (zK) hS (zD 4 rfl (zK) hS (zD 5 rfl (zK) hS (zD 8 rfl (zK) hS (zD 9 rfl (zK) hS (za 6 10 ?_ ?_)))))))))
   ·
    refine zT 6 rfl hw (zF (pV 0 rfl) 1 p rfl rfl rfl (by omega) rfl (zE [] rfl (by decide) (fun w' hw hS => za 7 10 ?_ ?_)))
    ·
     refine zT 7 rfl hw (zP (pV 0 rfl) 1 p 0 (fun _ => rfl) rfl rfl (by omega) rfl rfl (zI 10 rfl (zF (pV 0 rfl) 1 a rfl rfl rfl (by omega) rfl (zI 11 rfl (zP (pV 0 rfl) 1 a 0 (fun _ => rfl) rfl rfl (by omega) rfl rfl (zI 12 rfl (zF (pV 0 rfl) 1 a rfl rfl rfl (by omega) rfl (zI 13 rfl ?_))))))))
     refine zS 0 a (zG l p) rfl (fun _ => rfl) rfl (by omega) rfl rfl rfl (by omega) (zI 14 rfl (zF (pV 0 rfl) 1 p rfl rfl rfl (by simp only [List.length_set]; omega) rfl (zI 15 rfl (zS 0 p (zG l a) rfl (fun _ => rfl) rfl (by omega) rfl rfl rfl (by simp only [List.length_set]; omega) (zE [] rfl (by decide) (fun w' hw hS => zM ?_))))))
     exact ⟨yL l a p, ⟨rfl, rfl, rfl, trivial⟩, Same.ex ⟨by omega, by omega⟩ ⟨by omega, by omega⟩ hb, hw⟩
    ·
     refine zT 10 rfl hw (zF (pV 0 rfl) 1 a rfl rfl rfl (by omega) rfl (zE [] rfl (by decide) (fun w' hw hS => za 7 11 ?_ ?_)))
     ·
      refine zT 7 rfl hw (zP (pV 0 rfl) 1 p 0 (fun _ => rfl) rfl rfl (by omega) rfl rfl (zI 11 rfl (zP (pV 0 rfl) 1 a 0 (fun _ => rfl) rfl rfl (by omega) rfl rfl (zI 12 rfl (zF (pV 0 rfl) 1 a rfl rfl rfl (by omega) rfl (zI 13 rfl (zS 0 a (zG l p) rfl (fun _ => rfl) rfl (by omega) rfl rfl rfl (by omega) (zI 14 rfl ?_))))))))
      refine zF (pV 0 rfl) 1 p rfl rfl rfl (by simp only [List.length_set]; omega) rfl (zI 15 rfl (zS 0 p (zG l a) rfl (fun _ => rfl) rfl (by omega) rfl rfl rfl (by simp only [List.length_set]; omega) (zE [] rfl (by decide) (fun w' hw hS => zM ?_))))
      exact ⟨yL l a p, ⟨rfl, rfl, rfl, trivial⟩, Same.ex ⟨by omega, by omega⟩ ⟨by omega, by omega⟩ hb, hw⟩
     ·
      refine zT 11 rfl hw (zP (pV 0 rfl) 1 a 0 (fun _ => rfl) rfl rfl (by omega) rfl rfl (zI 7 rfl (zP (pV 0 rfl) 1 p 0 (fun _ => rfl) rfl rfl (by omega) rfl rfl (zI 12 rfl (zF (pV 0 rfl) 1 a rfl rfl rfl (by omega) rfl (zI 13 rfl (zS 0 a (zG l p) rfl (fun _ => rfl) rfl (by omega) rfl rfl rfl (by omega) (zI 14 rfl ?_))))))))
      refine zF (pV 0 rfl) 1 p rfl rfl rfl (by simp only [List.length_set]; omega) rfl (zI 15 rfl (zS 0 p (zG l a) rfl (fun _ => rfl) rfl (by omega) rfl rfl rfl (by simp only [List.length_set]; omega) (zE [] rfl (by decide) (fun w' hw hS => zM ?_))))
      exact ⟨yL l a p, ⟨rfl, rfl, rfl, trivial⟩, Same.ex ⟨by omega, by omega⟩ ⟨by omega, by omega⟩ hb, hw⟩
   ·
    refine zT 10 rfl hw (zF (pV 0 rfl) 1 a rfl rfl rfl (by omega) rfl (zE [] rfl (by decide) (fun w' hw hS => za 6 11 ?_ ?_)))
    ·
     refine zT 6 rfl hw (zF (pV 0 rfl) 1 p rfl rfl rfl (by omega) rfl (zE [] rfl (by decide) (fun w' hw hS => za 7 11 ?_ ?_)))
     ·
      refine zT 7 rfl hw (zP (pV 0 rfl) 1 p 0 (fun _ => rfl) rfl rfl (by omega) rfl rfl (zI 11 rfl (zP (pV 0 rfl) 1 a 0 (fun _ => rfl) rfl rfl (by omega) rfl rfl (zI 12 rfl (zF (pV 0 rfl) 1 a rfl rfl rfl (by omega) rfl (zI 13 rfl (zS 0 a (zG l p) rfl (fun _ => rfl) rfl (by omega) rfl rfl rfl (by omega) (zI 14 rfl ?_))))))))
      refine zF (pV 0 rfl) 1 p rfl rfl rfl (by simp only [List.length_set]; omega) rfl (zI 15 rfl (zS 0 p (zG l a) rfl (fun _ => rfl) rfl (by omega) rfl rfl rfl (by simp only [List.length_set]; omega) (zE [] rfl (by decide) (fun w' hw hS => zM ?_))))
      exact ⟨yL l a p, ⟨rfl, rfl, rfl, trivial⟩, Same.ex ⟨by omega, by omega⟩ ⟨by omega, by omega⟩ hb, hw⟩
     ·
      refine zT 11 rfl hw (zP (pV 0 rfl) 1 a 0 (fun _ => rfl) rfl rfl (by omega) rfl rfl (zI 7 rfl (zP (pV 0 rfl) 1 p 0 (fun _ => rfl) rfl rfl (by omega) rfl rfl (zI 12 rfl (zF (pV 0 rfl) 1 a rfl rfl rfl (by omega) rfl (zI 13 rfl (zS 0 a (zG l p) rfl (fun _ => rfl) rfl (by omega) rfl rfl rfl (by omega) (zI 14 rfl ?_))))))))
      refine zF (pV 0 rfl) 1 p rfl rfl rfl (by simp only [List.length_set]; omega) rfl (zI 15 rfl (zS 0 p (zG l a) rfl (fun _ => rfl) rfl (by omega) rfl rfl rfl (by simp only [List.length_set]; omega) (zE [] rfl (by decide) (fun w' hw hS => zM ?_))))
      exact ⟨yL l a p, ⟨rfl, rfl, rfl, trivial⟩, Same.ex ⟨by omega, by omega⟩ ⟨by omega, by omega⟩ hb, hw⟩
    ·
     refine zT 11 rfl hw (zP (pV 0 rfl) 1 a 0 (fun _ => rfl) rfl rfl (by omega) rfl rfl (zI 6 rfl (zF (pV 0 rfl) 1 p rfl rfl rfl (by omega) rfl (zI 7 rfl (zP (pV 0 rfl) 1 p 0 (fun _ => rfl) rfl rfl (by omega) rfl rfl (zI 12 rfl (zF (pV 0 rfl) 1 a rfl rfl rfl (by omega) rfl (zI 13 rfl ?_))))))))
     refine zS 0 a (zG l p) rfl (fun _ => rfl) rfl (by omega) rfl rfl rfl (by omega) (zI 14 rfl (zF (pV 0 rfl) 1 p rfl rfl rfl (by simp only [List.length_set]; omega) rfl (zI 15 rfl (zS 0 p (zG l a) rfl (fun _ => rfl) rfl (by omega) rfl rfl rfl (by simp only [List.length_set]; omega) (zE [] rfl (by decide) (fun w' hw hS => zM ?_))))))
     exact ⟨yL l a p, ⟨rfl, rfl, rfl, trivial⟩, Same.ex ⟨by omega, by omega⟩ ⟨by omega, by omega⟩ hb, hw⟩
  have hql := hΦ.len
  have hSq := hΦ
  refine zB (zC rfl (zn rfl rfl (zh (by omega)) rfl (zC rfl (yJ (c := ((b - 1 : Nat) : Int)) rfl rfl (xg (by omega) (by omega)) rfl (zH rfl (zH rfl (zA (ye (fun (i : Nat) => [(0, v), (1, Vj a), (10, Vj i), (11, Vj (b - 1))]) (fun (i : Nat) => (a + 1 ≤ i ∧ i ≤ b) ∧ Lo a i q ∧ (i < b → xy (zG q a) (zG q i))) (fun (i : Nat) => [Res.vec 32 1 v q.length (q.flatMap U1)]) ?_ (fun i g hΦ => ?_)))))))))
  ·
   refine zW ?_
   refine xC (fun (i : Nat) => [(0, v), (1, Vj a), (10, Vj i), (11, Vj (b - 1))]) (fun (i : Nat) => (a + 1 ≤ i ∧ i ≤ b) ∧ Lo a i q) (fun (i : Nat) => [Res.vec 32 1 v q.length (q.flatMap U1)]) (fun (i : Nat) => b - i) (fun w' hw => ⟨a + 1, ⟨rfl, rfl, rfl, rfl, trivial⟩, ⟨⟨by omega, by omega⟩, fun k h1 h2 => by omega⟩, hw⟩) (fun i g hΦ => ?_)
   have hi1 := hΦ.1
   have hLo := hΦ.2
   refine zL (zL (zZ [0] rfl (by decide) (by kernel_rfl) (fun w' hw hS => zD 0 rfl (zK) hS (zD 1 rfl (zK) hS (zD 2 rfl (zBB rfl rfl) hS (zD 3 rfl (zK) hS ?_))))))
   by_cases g3_3 : ((i : Nat) : Int) ≤ ((b - 1 : Nat) : Int)
   ·
    refine zp 4 rfl rfl (gT g3_3) (zK) hS (zp 5 rfl rfl (gT g3_3) (zK) hS (zp 6 rfl rfl (gT g3_3) (z7 (pV 0 rfl) 1 i rfl rfl rfl (by omega)) hS (zp 7 rfl rfl (gT g3_3) (yT (pV 0 rfl) 1 i 0 (fun _ => rfl) rfl rfl (by omega) rfl) hS (zp 8 rfl rfl (gT g3_3) (zK) hS (zp 9 rfl rfl (gT g3_3) (zK) hS (zp 10 rfl rfl (gT g3_3) (z7 (pV 0 rfl) 1 a rfl rfl rfl (by omega)) hS (zp 11 rfl rfl (gT g3_3) (yT (pV 0 rfl) 1 a 0 (fun _ => rfl) rfl rfl (by omega) rfl) hS (zX 12 rfl hw (zR rfl (gT g3_3) (zQ rfl rfl (fun w' hw => (xZ (zG q i) (zG q a) w').mono ?_)))))))))))
    rintro _ w1 ⟨rfl, hO⟩
    refine (?_ : CL _ _ _ _ _ _ (Own w S [Res.vec 32 1 v q.length (q.flatMap U1)])) w1 (hw.frame0 hO)
    refine zE [0] rfl (by decide) (fun w' hw hS => zD 13 rfl (xq (gT g3_3)) hS (zM ?_))
    refine (?_ : C _ _ _ _ _ _ _ (Own w S [Res.vec 32 1 v q.length (q.flatMap U1)])) _ hw
    refine zV rfl (fun c1 => ?_) (fun c1 => ?_)
    ·
     refine zJ (zW (zY (zC rfl (zn rfl rfl (zh (by omega)) rfl (zH rfl ?_)))))
     exact zd (fun w' hw => ⟨i + 1, ⟨rfl, rfl, rfl, rfl, trivial⟩, ⟨⟨by omega, by omega⟩, hLo.step c1⟩, hw, (by omega)⟩)
    ·
     exact yr rfl (fun w' hw => ⟨i, ⟨rfl, rfl, rfl, rfl, trivial⟩, ⟨hi1, hLo, fun _ => c1⟩, hw⟩)
   ·
    refine zj 4 rfl rfl (gF g3_3) rfl hS (zj 5 rfl rfl (gF g3_3) rfl hS (zj 6 rfl rfl (gF g3_3) rfl hS (zj 7 rfl rfl (gF g3_3) rfl hS (zj 8 rfl rfl (gF g3_3) rfl hS (zj 9 rfl rfl (gF g3_3) rfl hS (zj 10 rfl rfl (gF g3_3) rfl hS (zj 11 rfl rfl (gF g3_3) rfl hS (zj 12 rfl rfl (gF g3_3) rfl hS (zD 13 rfl (xr (gF g3_3)) hS (zM ?_))))))))))
    refine (?_ : C _ _ _ _ _ _ _ (Own w S [Res.vec 32 1 v q.length (q.flatMap U1)])) _ hw
    refine xt rfl ?_
    exact yr rfl (fun w' hw => ⟨i, ⟨rfl, rfl, rfl, rfl, trivial⟩, ⟨hi1, hLo, fun h => absurd h (by omega)⟩, hw⟩)
  have hi2 := hΦ.1
  have hLo2 := hΦ.2.1
  have hge := hΦ.2.2
  refine ye (fun (j : Nat) => [(0, v), (1, Vj a), (10, Vj i), (11, Vj j)]) (fun (j : Nat) => (i ≤ j + 1 ∧ j < b) ∧ Hi a j b q ∧ (i ≤ j → olt (zG q j) (zG q a))) (fun (j : Nat) => [Res.vec 32 1 v q.length (q.flatMap U1)]) ?_ (fun j g hΦ => ?_)
  ·
   refine zW ?_
   refine xC (fun (j : Nat) => [(0, v), (1, Vj a), (10, Vj i), (11, Vj j)]) (fun (j : Nat) => (i ≤ j + 1 ∧ j < b) ∧ Hi a j b q) (fun (j : Nat) => [Res.vec 32 1 v q.length (q.flatMap U1)]) (fun (j : Nat) => j) (fun w' hw => ⟨b - 1, ⟨rfl, rfl, rfl, rfl, trivial⟩, ⟨⟨by omega, by omega⟩, fun k h1 h2 => by omega⟩, hw⟩) (fun j g hΦ => ?_)
   have hj1 := hΦ.1
   have hHi := hΦ.2
   refine zL (zL (zZ [0] rfl (by decide) (by kernel_rfl) (fun w' hw hS => zD 0 rfl (zK) hS (zD 1 rfl (zK) hS (zD 2 rfl (zBB rfl rfl) hS (zD 3 rfl (zK) hS ?_))))))
   by_cases g5_3 : ((i : Nat) : Int) ≤ ((j : Nat) : Int)
   ·
    refine zp 4 rfl rfl (gT g5_3) (zK) hS (zp 5 rfl rfl (gT g5_3) (zK) hS (zp 6 rfl rfl (gT g5_3) (z7 (pV 0 rfl) 1 j rfl rfl rfl (by omega)) hS (zp 7 rfl rfl (gT g5_3) (yT (pV 0 rfl) 1 j 0 (fun _ => rfl) rfl rfl (by omega) rfl) hS (zp 8 rfl rfl (gT g5_3) (zK) hS (zp 9 rfl rfl (gT g5_3) (zK) hS (zp 10 rfl rfl (gT g5_3) (z7 (pV 0 rfl) 1 a rfl rfl rfl (by omega)) hS (zp 11 rfl rfl (gT g5_3) (yT (pV 0 rfl) 1 a 0 (fun _ => rfl) rfl rfl (by omega) rfl) hS (zX 12 rfl hw (zR rfl (gT g5_3) (zQ rfl rfl (fun w' hw => (xZ (zG q j) (zG q a) w').mono ?_)))))))))))
    rintro _ w1 ⟨rfl, hO⟩
    refine (?_ : CL _ _ _ _ _ _ (Own w S [Res.vec 32 1 v q.length (q.flatMap U1)])) w1 (hw.frame0 hO)
    refine zE [0] rfl (by decide) (fun w' hw hS => zp 13 rfl rfl (gT g5_3) (jN (q := olt (zG q j) (zG q a)) rfl) hS (zD 14 rfl (xq (gT g5_3)) hS (zM ?_)))
    refine (?_ : C _ _ _ _ _ _ _ (Own w S [Res.vec 32 1 v q.length (q.flatMap U1)])) _ hw
    refine zV rfl (fun c3 => ?_) (fun c3 => ?_)
    ·
     refine zJ (zW (zY (zC rfl (yJ (c := ((j - 1 : Nat) : Int)) rfl rfl (xg (by omega) (by omega)) rfl (zH rfl ?_)))))
     exact zd (fun w' hw => ⟨j - 1, ⟨rfl, rfl, rfl, rfl, trivial⟩, ⟨⟨by omega, by omega⟩, hHi.step c3⟩, hw, (by omega)⟩)
    ·
     exact yr rfl (fun w' hw => ⟨j, ⟨rfl, rfl, rfl, rfl, trivial⟩, ⟨hj1, hHi, fun _ => Decidable.not_not.1 c3⟩, hw⟩)
   ·
    refine zj 4 rfl rfl (gF g5_3) rfl hS (zj 5 rfl rfl (gF g5_3) rfl hS (zj 6 rfl rfl (gF g5_3) rfl hS (zj 7 rfl rfl (gF g5_3) rfl hS (zj 8 rfl rfl (gF g5_3) rfl hS (zj 9 rfl rfl (gF g5_3) rfl hS (zj 10 rfl rfl (gF g5_3) rfl hS (zj 11 rfl rfl (gF g5_3) rfl hS (zj 12 rfl rfl (gF g5_3) rfl hS (zj 13 rfl rfl (gF g5_3) rfl hS (zD 14 rfl (xr (gF g5_3)) hS (zM ?_)))))))))))
    refine (?_ : C _ _ _ _ _ _ _ (Own w S [Res.vec 32 1 v q.length (q.flatMap U1)])) _ hw
    refine xt rfl ?_
    exact yr rfl (fun w' hw => ⟨j, ⟨rfl, rfl, rfl, rfl, trivial⟩, ⟨hj1, hHi, fun h => absurd h (by omega)⟩, hw⟩)
  have hj2 := hΦ.1
  have hHi2 := hΦ.2.1
  have hlt := hΦ.2.2
  refine zL (zB (zC rfl (zC rfl (xF rfl rfl rfl (zA (zV rfl (fun c5 => ?_) (fun c5 => ?_)))))))
  ·
   refine ye (fun (n : List Nat) => [(11, Vj j)]) (fun (n : List Nat) => n = yL q j a) (fun (n : List Nat) => [Res.vec 32 1 v n.length (n.flatMap U1)]) ?_ (fun n g hΦ => ?_)
   ·
    refine zZ [] rfl (by decide) (by kernel_rfl) (fun w' hw hS => zD 0 rfl (zK) hS (zD 1 rfl (zK) hS (zD 2 rfl (zK) hS (zD 3 rfl (zK) hS (zD 4 rfl (zK) hS (zD 5 rfl (zK) hS (zD 8 rfl (zK) hS (zD 9 rfl (zK) hS (za 6 10 ?_ ?_)))))))))
    ·
     refine zT 6 rfl hw (zF (pV 0 rfl) 1 a rfl rfl rfl (by omega) rfl (zE [] rfl (by decide) (fun w' hw hS => za 7 10 ?_ ?_)))
     ·
      refine zT 7 rfl hw (zP (pV 0 rfl) 1 a 0 (fun _ => rfl) rfl rfl (by omega) rfl rfl (zI 10 rfl (zF (pV 0 rfl) 1 j rfl rfl rfl (by omega) rfl (zI 11 rfl (zP (pV 0 rfl) 1 j 0 (fun _ => rfl) rfl rfl (by omega) rfl rfl (zI 12 rfl (zF (pV 0 rfl) 1 j rfl rfl rfl (by omega) rfl (zI 13 rfl ?_))))))))
      refine zS 0 j (zG q a) rfl (fun _ => rfl) rfl (by omega) rfl rfl rfl (by omega) (zI 14 rfl (zF (pV 0 rfl) 1 a rfl rfl rfl (by simp only [List.length_set]; omega) rfl (zI 15 rfl (zS 0 a (zG q j) rfl (fun _ => rfl) rfl (by omega) rfl rfl rfl (by simp only [List.length_set]; omega) (zE [] rfl (by decide) (fun w' hw hS => zM ?_))))))
      exact ⟨yL q j a, ⟨rfl, trivial⟩, rfl, hw⟩
     ·
      refine zT 10 rfl hw (zF (pV 0 rfl) 1 j rfl rfl rfl (by omega) rfl (zE [] rfl (by decide) (fun w' hw hS => za 7 11 ?_ ?_)))
      ·
       refine zT 7 rfl hw (zP (pV 0 rfl) 1 a 0 (fun _ => rfl) rfl rfl (by omega) rfl rfl (zI 11 rfl (zP (pV 0 rfl) 1 j 0 (fun _ => rfl) rfl rfl (by omega) rfl rfl (zI 12 rfl (zF (pV 0 rfl) 1 j rfl rfl rfl (by omega) rfl (zI 13 rfl (zS 0 j (zG q a) rfl (fun _ => rfl) rfl (by omega) rfl rfl rfl (by omega) (zI 14 rfl ?_))))))))
       refine zF (pV 0 rfl) 1 a rfl rfl rfl (by simp only [List.length_set]; omega) rfl (zI 15 rfl (zS 0 a (zG q j) rfl (fun _ => rfl) rfl (by omega) rfl rfl rfl (by simp only [List.length_set]; omega) (zE [] rfl (by decide) (fun w' hw hS => zM ?_))))
       exact ⟨yL q j a, ⟨rfl, trivial⟩, rfl, hw⟩
      ·
       refine zT 11 rfl hw (zP (pV 0 rfl) 1 j 0 (fun _ => rfl) rfl rfl (by omega) rfl rfl (zI 7 rfl (zP (pV 0 rfl) 1 a 0 (fun _ => rfl) rfl rfl (by omega) rfl rfl (zI 12 rfl (zF (pV 0 rfl) 1 j rfl rfl rfl (by omega) rfl (zI 13 rfl (zS 0 j (zG q a) rfl (fun _ => rfl) rfl (by omega) rfl rfl rfl (by omega) (zI 14 rfl ?_))))))))
       refine zF (pV 0 rfl) 1 a rfl rfl rfl (by simp only [List.length_set]; omega) rfl (zI 15 rfl (zS 0 a (zG q j) rfl (fun _ => rfl) rfl (by omega) rfl rfl rfl (by simp only [List.length_set]; omega) (zE [] rfl (by decide) (fun w' hw hS => zM ?_))))
       exact ⟨yL q j a, ⟨rfl, trivial⟩, rfl, hw⟩
    ·
     refine zT 10 rfl hw (zF (pV 0 rfl) 1 j rfl rfl rfl (by omega) rfl (zE [] rfl (by decide) (fun w' hw hS => za 6 11 ?_ ?_)))
     ·
      refine zT 6 rfl hw (zF (pV 0 rfl) 1 a rfl rfl rfl (by omega) rfl (zE [] rfl (by decide) (fun w' hw hS => za 7 11 ?_ ?_)))
      ·
       refine zT 7 rfl hw (zP (pV 0 rfl) 1 a 0 (fun _ => rfl) rfl rfl (by omega) rfl rfl (zI 11 rfl (zP (pV 0 rfl) 1 j 0 (fun _ => rfl) rfl rfl (by omega) rfl rfl (zI 12 rfl (zF (pV 0 rfl) 1 j rfl rfl rfl (by omega) rfl (zI 13 rfl (zS 0 j (zG q a) rfl (fun _ => rfl) rfl (by omega) rfl rfl rfl (by omega) (zI 14 rfl ?_))))))))
       refine zF (pV 0 rfl) 1 a rfl rfl rfl (by simp only [List.length_set]; omega) rfl (zI 15 rfl (zS 0 a (zG q j) rfl (fun _ => rfl) rfl (by omega) rfl rfl rfl (by simp only [List.length_set]; omega) (zE [] rfl (by decide) (fun w' hw hS => zM ?_))))
       exact ⟨yL q j a, ⟨rfl, trivial⟩, rfl, hw⟩
      ·
       refine zT 11 rfl hw (zP (pV 0 rfl) 1 j 0 (fun _ => rfl) rfl rfl (by omega) rfl rfl (zI 7 rfl (zP (pV 0 rfl) 1 a 0 (fun _ => rfl) rfl rfl (by omega) rfl rfl (zI 12 rfl (zF (pV 0 rfl) 1 j rfl rfl rfl (by omega) rfl (zI 13 rfl (zS 0 j (zG q a) rfl (fun _ => rfl) rfl (by omega) rfl rfl rfl (by omega) (zI 14 rfl ?_))))))))
       refine zF (pV 0 rfl) 1 a rfl rfl rfl (by simp only [List.length_set]; omega) rfl (zI 15 rfl (zS 0 a (zG q j) rfl (fun _ => rfl) rfl (by omega) rfl rfl rfl (by simp only [List.length_set]; omega) (zE [] rfl (by decide) (fun w' hw hS => zM ?_))))
       exact ⟨yL q j a, ⟨rfl, trivial⟩, rfl, hw⟩
     ·
      refine zT 11 rfl hw (zP (pV 0 rfl) 1 j 0 (fun _ => rfl) rfl rfl (by omega) rfl rfl (zI 6 rfl (zF (pV 0 rfl) 1 a rfl rfl rfl (by omega) rfl (zI 7 rfl (zP (pV 0 rfl) 1 a 0 (fun _ => rfl) rfl rfl (by omega) rfl rfl (zI 12 rfl (zF (pV 0 rfl) 1 j rfl rfl rfl (by omega) rfl (zI 13 rfl ?_))))))))
      refine zS 0 j (zG q a) rfl (fun _ => rfl) rfl (by omega) rfl rfl rfl (by omega) (zI 14 rfl (zF (pV 0 rfl) 1 a rfl rfl rfl (by simp only [List.length_set]; omega) rfl (zI 15 rfl (zS 0 a (zG q j) rfl (fun _ => rfl) rfl (by omega) rfl rfl rfl (by simp only [List.length_set]; omega) (zE [] rfl (by decide) (fun w' hw hS => zM ?_))))))
      exact ⟨yL q j a, ⟨rfl, trivial⟩, rfl, hw⟩
   have hn := hΦ
   refine zB (zC rfl (zH rfl (zH rfl (zA ?_))))
   exact zN (yo (v := Vj j) (v' := .bool true) rfl rfl rfl (fun w' hw => ⟨n, j, true, rfl, (by rw [hn]; exact hSq.then_swp ⟨by omega, by omega⟩ ⟨by omega, by omega⟩ hb), ⟨by omega, by omega⟩, (by rw [hn]; exact zDk (by rw [show j + 1 = i by omega]; exact hLo2) hHi2 (by omega) (by omega) (by omega)), hw⟩))
  ·
   refine zJ (ye (fun (n : List Nat) => [(0, v), (1, Vj a), (10, Vj i), (11, Vj j)]) (fun (n : List Nat) => n = yL q i j) (fun (n : List Nat) => [Res.vec 32 1 v n.length (n.flatMap U1)]) ?_ (fun n g hΦ => ?_))
   ·
    refine zZ [] rfl (by decide) (by kernel_rfl) (fun w' hw hS => zD 0 rfl (zK) hS (zD 1 rfl (zK) hS (zD 2 rfl (zK) hS (zD 3 rfl (zK) hS (zD 4 rfl (zK) hS (zD 5 rfl (zK) hS (zD 8 rfl (zK) hS (zD 9 rfl (zK) hS (za 6 10 ?_ ?_)))))))))
    ·
     refine zT 6 rfl hw (zF (pV 0 rfl) 1 j rfl rfl rfl (by omega) rfl (zE [] rfl (by decide) (fun w' hw hS => za 7 10 ?_ ?_)))
     ·
      refine zT 7 rfl hw (zP (pV 0 rfl) 1 j 0 (fun _ => rfl) rfl rfl (by omega) rfl rfl (zI 10 rfl (zF (pV 0 rfl) 1 i rfl rfl rfl (by omega) rfl (zI 11 rfl (zP (pV 0 rfl) 1 i 0 (fun _ => rfl) rfl rfl (by omega) rfl rfl (zI 12 rfl (zF (pV 0 rfl) 1 i rfl rfl rfl (by omega) rfl (zI 13 rfl ?_))))))))
      refine zS 0 i (zG q j) rfl (fun _ => rfl) rfl (by omega) rfl rfl rfl (by omega) (zI 14 rfl (zF (pV 0 rfl) 1 j rfl rfl rfl (by simp only [List.length_set]; omega) rfl (zI 15 rfl (zS 0 j (zG q i) rfl (fun _ => rfl) rfl (by omega) rfl rfl rfl (by simp only [List.length_set]; omega) (zE [] rfl (by decide) (fun w' hw hS => zM ?_))))))
      exact ⟨yL q i j, ⟨rfl, rfl, rfl, rfl, trivial⟩, rfl, hw⟩
     ·
      refine zT 10 rfl hw (zF (pV 0 rfl) 1 i rfl rfl rfl (by omega) rfl (zE [] rfl (by decide) (fun w' hw hS => za 7 11 ?_ ?_)))
      ·
       refine zT 7 rfl hw (zP (pV 0 rfl) 1 j 0 (fun _ => rfl) rfl rfl (by omega) rfl rfl (zI 11 rfl (zP (pV 0 rfl) 1 i 0 (fun _ => rfl) rfl rfl (by omega) rfl rfl (zI 12 rfl (zF (pV 0 rfl) 1 i rfl rfl rfl (by omega) rfl (zI 13 rfl (zS 0 i (zG q j) rfl (fun _ => rfl) rfl (by omega) rfl rfl rfl (by omega) (zI 14 rfl ?_))))))))
       refine zF (pV 0 rfl) 1 j rfl rfl rfl (by simp only [List.length_set]; omega) rfl (zI 15 rfl (zS 0 j (zG q i) rfl (fun _ => rfl) rfl (by omega) rfl rfl rfl (by simp only [List.length_set]; omega) (zE [] rfl (by decide) (fun w' hw hS => zM ?_))))
       exact ⟨yL q i j, ⟨rfl, rfl, rfl, rfl, trivial⟩, rfl, hw⟩
      ·
       refine zT 11 rfl hw (zP (pV 0 rfl) 1 i 0 (fun _ => rfl) rfl rfl (by omega) rfl rfl (zI 7 rfl (zP (pV 0 rfl) 1 j 0 (fun _ => rfl) rfl rfl (by omega) rfl rfl (zI 12 rfl (zF (pV 0 rfl) 1 i rfl rfl rfl (by omega) rfl (zI 13 rfl (zS 0 i (zG q j) rfl (fun _ => rfl) rfl (by omega) rfl rfl rfl (by omega) (zI 14 rfl ?_))))))))
       refine zF (pV 0 rfl) 1 j rfl rfl rfl (by simp only [List.length_set]; omega) rfl (zI 15 rfl (zS 0 j (zG q i) rfl (fun _ => rfl) rfl (by omega) rfl rfl rfl (by simp only [List.length_set]; omega) (zE [] rfl (by decide) (fun w' hw hS => zM ?_))))
       exact ⟨yL q i j, ⟨rfl, rfl, rfl, rfl, trivial⟩, rfl, hw⟩
    ·
     refine zT 10 rfl hw (zF (pV 0 rfl) 1 i rfl rfl rfl (by omega) rfl (zE [] rfl (by decide) (fun w' hw hS => za 6 11 ?_ ?_)))
     ·
      refine zT 6 rfl hw (zF (pV 0 rfl) 1 j rfl rfl rfl (by omega) rfl (zE [] rfl (by decide) (fun w' hw hS => za 7 11 ?_ ?_)))
      ·
       refine zT 7 rfl hw (zP (pV 0 rfl) 1 j 0 (fun _ => rfl) rfl rfl (by omega) rfl rfl (zI 11 rfl (zP (pV 0 rfl) 1 i 0 (fun _ => rfl) rfl rfl (by omega) rfl rfl (zI 12 rfl (zF (pV 0 rfl) 1 i rfl rfl rfl (by omega) rfl (zI 13 rfl (zS 0 i (zG q j) rfl (fun _ => rfl) rfl (by omega) rfl rfl rfl (by omega) (zI 14 rfl ?_))))))))
       refine zF (pV 0 rfl) 1 j rfl rfl rfl (by simp only [List.length_set]; omega) rfl (zI 15 rfl (zS 0 j (zG q i) rfl (fun _ => rfl) rfl (by omega) rfl rfl rfl (by simp only [List.length_set]; omega) (zE [] rfl (by decide) (fun w' hw hS => zM ?_))))
       exact ⟨yL q i j, ⟨rfl, rfl, rfl, rfl, trivial⟩, rfl, hw⟩
      ·
       refine zT 11 rfl hw (zP (pV 0 rfl) 1 i 0 (fun _ => rfl) rfl rfl (by omega) rfl rfl (zI 7 rfl (zP (pV 0 rfl) 1 j 0 (fun _ => rfl) rfl rfl (by omega) rfl rfl (zI 12 rfl (zF (pV 0 rfl) 1 i rfl rfl rfl (by omega) rfl (zI 13 rfl (zS 0 i (zG q j) rfl (fun _ => rfl) rfl (by omega) rfl rfl rfl (by omega) (zI 14 rfl ?_))))))))
       refine zF (pV 0 rfl) 1 j rfl rfl rfl (by simp only [List.length_set]; omega) rfl (zI 15 rfl (zS 0 j (zG q i) rfl (fun _ => rfl) rfl (by omega) rfl rfl rfl (by simp only [List.length_set]; omega) (zE [] rfl (by decide) (fun w' hw hS => zM ?_))))
       exact ⟨yL q i j, ⟨rfl, rfl, rfl, rfl, trivial⟩, rfl, hw⟩
     ·
      refine zT 11 rfl hw (zP (pV 0 rfl) 1 i 0 (fun _ => rfl) rfl rfl (by omega) rfl rfl (zI 6 rfl (zF (pV 0 rfl) 1 j rfl rfl rfl (by omega) rfl (zI 7 rfl (zP (pV 0 rfl) 1 j 0 (fun _ => rfl) rfl rfl (by omega) rfl rfl (zI 12 rfl (zF (pV 0 rfl) 1 i rfl rfl rfl (by omega) rfl (zI 13 rfl ?_))))))))
      refine zS 0 i (zG q j) rfl (fun _ => rfl) rfl (by omega) rfl rfl rfl (by omega) (zI 14 rfl (zF (pV 0 rfl) 1 j rfl rfl rfl (by simp only [List.length_set]; omega) rfl (zI 15 rfl (zS 0 j (zG q i) rfl (fun _ => rfl) rfl (by omega) rfl rfl rfl (by simp only [List.length_set]; omega) (zE [] rfl (by decide) (fun w' hw hS => zM ?_))))))
      exact ⟨yL q i j, ⟨rfl, rfl, rfl, rfl, trivial⟩, rfl, hw⟩
   have hn := hΦ
   have hij : i < j := (by have h1 := hlt (by omega); have h2 := hge (by omega); rcases Nat.lt_or_ge i j with h | h; exact h; rw [show i = j by omega] at h2; exact absurd h1 h2)
   have hsw := zCA hLo2 hHi2 hij (by omega) (by omega) (by omega) (hge (by omega)) (hlt (by omega))
   refine zB (zC rfl (zn rfl rfl (zh (by omega)) rfl (zH rfl (zA (zB (zC rfl (yJ (c := ((j - 1 : Nat) : Int)) rfl rfl (xg (by omega) (by omega)) rfl (zH rfl (zA (zL (zW ?_)))))))))))
   refine ji (fun (i j : Nat) (q : List Nat) => [(0, v), (1, Vj a), (10, Vj i), (11, Vj j)]) (fun (i j : Nat) (q : List Nat) => ((a + 1 ≤ i ∧ i ≤ j + 1) ∧ j < b) ∧ Same a b l q ∧ Lo a i q ∧ Hi a j b q) (fun (i j : Nat) (q : List Nat) => [Res.vec 32 1 v q.length (q.flatMap U1)]) (fun (i j : Nat) (q : List Nat) => j + 1 - i) (fun w' hw => ⟨i + 1, j - 1, n, ⟨rfl, rfl, rfl, rfl, trivial⟩, ⟨⟨⟨by omega, by omega⟩, by omega⟩, (by rw [hn]; exact hSq.then_swp ⟨by omega, by omega⟩ ⟨by omega, by omega⟩ hb), (by rw [hn]; exact hsw.1), (by rw [hn]; exact hsw.2)⟩, hw⟩) (fun i j q g hΦ => ?_)
   have hij3 := hΦ.1
   have hS3 := hΦ.2.1
   have hL3 := hΦ.2.2.1
   have hH3 := hΦ.2.2.2
   have hq3 := hS3.len
   refine zW (ye (fun (i2 : Nat) => [(0, v), (1, Vj a), (10, Vj i2), (11, Vj j)]) (fun (i2 : Nat) => (i ≤ i2 ∧ i2 ≤ j + 1) ∧ Lo a i2 q ∧ (i2 ≤ j → xy (zG q a) (zG q i2))) (fun (i2 : Nat) => [Res.vec 32 1 v q.length (q.flatMap U1)]) ?_ (fun i2 g hΦ => ?_))
   ·
    refine zW ?_
    refine xC (fun (i2 : Nat) => [(0, v), (1, Vj a), (10, Vj i2), (11, Vj j)]) (fun (i2 : Nat) => (i ≤ i2 ∧ i2 ≤ j + 1) ∧ Lo a i2 q) (fun (i2 : Nat) => [Res.vec 32 1 v q.length (q.flatMap U1)]) (fun (i2 : Nat) => j + 1 - i2) (fun w' hw => ⟨i, ⟨rfl, rfl, rfl, rfl, trivial⟩, ⟨⟨by omega, by omega⟩, hL3⟩, hw⟩) (fun i2 g hΦ => ?_)
    have hi4 := hΦ.1
    have hL4 := hΦ.2
    refine zL (zL (zZ [0] rfl (by decide) (by kernel_rfl) (fun w' hw hS => zD 0 rfl (zK) hS (zD 1 rfl (zK) hS (zD 2 rfl (zBB rfl rfl) hS (zD 3 rfl (zK) hS ?_))))))
    by_cases g13_3 : ((i2 : Nat) : Int) ≤ ((j : Nat) : Int)
    ·
     refine zp 4 rfl rfl (gT g13_3) (zK) hS (zp 5 rfl rfl (gT g13_3) (zK) hS (zp 6 rfl rfl (gT g13_3) (z7 (pV 0 rfl) 1 i2 rfl rfl rfl (by omega)) hS (zp 7 rfl rfl (gT g13_3) (yT (pV 0 rfl) 1 i2 0 (fun _ => rfl) rfl rfl (by omega) rfl) hS (zp 8 rfl rfl (gT g13_3) (zK) hS (zp 9 rfl rfl (gT g13_3) (zK) hS (zp 10 rfl rfl (gT g13_3) (z7 (pV 0 rfl) 1 a rfl rfl rfl (by omega)) hS (zp 11 rfl rfl (gT g13_3) (yT (pV 0 rfl) 1 a 0 (fun _ => rfl) rfl rfl (by omega) rfl) hS (zX 12 rfl hw (zR rfl (gT g13_3) (zQ rfl rfl (fun w' hw => (xZ (zG q i2) (zG q a) w').mono ?_)))))))))))
     rintro _ w1 ⟨rfl, hO⟩
     refine (?_ : CL _ _ _ _ _ _ (Own w S [Res.vec 32 1 v q.length (q.flatMap U1)])) w1 (hw.frame0 hO)
     refine zE [0] rfl (by decide) (fun w' hw hS => zD 13 rfl (xq (gT g13_3)) hS (zM ?_))
     refine (?_ : C _ _ _ _ _ _ _ (Own w S [Res.vec 32 1 v q.length (q.flatMap U1)])) _ hw
     refine zV rfl (fun c6 => ?_) (fun c6 => ?_)
     ·
      refine zJ (zW (zY (zC rfl (zn rfl rfl (zh (by omega)) rfl (zH rfl ?_)))))
      exact zd (fun w' hw => ⟨i2 + 1, ⟨rfl, rfl, rfl, rfl, trivial⟩, ⟨⟨by omega, by omega⟩, hL4.step c6⟩, hw, (by omega)⟩)
     ·
      exact yr rfl (fun w' hw => ⟨i2, ⟨rfl, rfl, rfl, rfl, trivial⟩, ⟨hi4, hL4, fun _ => c6⟩, hw⟩)
    ·
     refine zj 4 rfl rfl (gF g13_3) rfl hS (zj 5 rfl rfl (gF g13_3) rfl hS (zj 6 rfl rfl (gF g13_3) rfl hS (zj 7 rfl rfl (gF g13_3) rfl hS (zj 8 rfl rfl (gF g13_3) rfl hS (zj 9 rfl rfl (gF g13_3) rfl hS (zj 10 rfl rfl (gF g13_3) rfl hS (zj 11 rfl rfl (gF g13_3) rfl hS (zj 12 rfl rfl (gF g13_3) rfl hS (zD 13 rfl (xr (gF g13_3)) hS (zM ?_))))))))))
     refine (?_ : C _ _ _ _ _ _ _ (Own w S [Res.vec 32 1 v q.length (q.flatMap U1)])) _ hw
     refine xt rfl ?_
     exact yr rfl (fun w' hw => ⟨i2, ⟨rfl, rfl, rfl, rfl, trivial⟩, ⟨hi4, hL4, fun h => absurd h (by omega)⟩, hw⟩)
   have hi5 := hΦ.1
   have hL5 := hΦ.2.1
   have hge5 := hΦ.2.2
   refine ye (fun (j2 : Nat) => [(0, v), (1, Vj a), (10, Vj i2), (11, Vj j2)]) (fun (j2 : Nat) => (i2 ≤ j2 + 1 ∧ j2 ≤ j) ∧ Hi a j2 b q ∧ (i2 ≤ j2 → olt (zG q j2) (zG q a))) (fun (j2 : Nat) => [Res.vec 32 1 v q.length (q.flatMap U1)]) ?_ (fun j2 g hΦ => ?_)
   ·
    refine zW ?_
    refine xC (fun (j2 : Nat) => [(0, v), (1, Vj a), (10, Vj i2), (11, Vj j2)]) (fun (j2 : Nat) => (i2 ≤ j2 + 1 ∧ j2 ≤ j) ∧ Hi a j2 b q) (fun (j2 : Nat) => [Res.vec 32 1 v q.length (q.flatMap U1)]) (fun (j2 : Nat) => j2) (fun w' hw => ⟨j, ⟨rfl, rfl, rfl, rfl, trivial⟩, ⟨⟨by omega, by omega⟩, hH3⟩, hw⟩) (fun j2 g hΦ => ?_)
    have hj6 := hΦ.1
    have hH6 := hΦ.2
    refine zL (zL (zZ [0] rfl (by decide) (by kernel_rfl) (fun w' hw hS => zD 0 rfl (zK) hS (zD 1 rfl (zK) hS (zD 2 rfl (zBB rfl rfl) hS (zD 3 rfl (zK) hS ?_))))))
    by_cases g15_3 : ((i2 : Nat) : Int) ≤ ((j2 : Nat) : Int)
    ·
     refine zp 4 rfl rfl (gT g15_3) (zK) hS (zp 5 rfl rfl (gT g15_3) (zK) hS (zp 6 rfl rfl (gT g15_3) (z7 (pV 0 rfl) 1 j2 rfl rfl rfl (by omega)) hS (zp 7 rfl rfl (gT g15_3) (yT (pV 0 rfl) 1 j2 0 (fun _ => rfl) rfl rfl (by omega) rfl) hS (zp 8 rfl rfl (gT g15_3) (zK) hS (zp 9 rfl rfl (gT g15_3) (zK) hS (zp 10 rfl rfl (gT g15_3) (z7 (pV 0 rfl) 1 a rfl rfl rfl (by omega)) hS (zp 11 rfl rfl (gT g15_3) (yT (pV 0 rfl) 1 a 0 (fun _ => rfl) rfl rfl (by omega) rfl) hS (zX 12 rfl hw (zR rfl (gT g15_3) (zQ rfl rfl (fun w' hw => (xZ (zG q j2) (zG q a) w').mono ?_)))))))))))
     rintro _ w1 ⟨rfl, hO⟩
     refine (?_ : CL _ _ _ _ _ _ (Own w S [Res.vec 32 1 v q.length (q.flatMap U1)])) w1 (hw.frame0 hO)
     refine zE [0] rfl (by decide) (fun w' hw hS => zp 13 rfl rfl (gT g15_3) (jN (q := olt (zG q j2) (zG q a)) rfl) hS (zD 14 rfl (xq (gT g15_3)) hS (zM ?_)))
     refine (?_ : C _ _ _ _ _ _ _ (Own w S [Res.vec 32 1 v q.length (q.flatMap U1)])) _ hw
     refine zV rfl (fun c8 => ?_) (fun c8 => ?_)
     ·
      refine zJ (zW (zY (zC rfl (yJ (c := ((j2 - 1 : Nat) : Int)) rfl rfl (xg (by omega) (by omega)) rfl (zH rfl ?_)))))
      exact zd (fun w' hw => ⟨j2 - 1, ⟨rfl, rfl, rfl, rfl, trivial⟩, ⟨⟨by omega, by omega⟩, hH6.step c8⟩, hw, (by omega)⟩)
     ·
      exact yr rfl (fun w' hw => ⟨j2, ⟨rfl, rfl, rfl, rfl, trivial⟩, ⟨hj6, hH6, fun _ => Decidable.not_not.1 c8⟩, hw⟩)
    ·
     refine zj 4 rfl rfl (gF g15_3) rfl hS (zj 5 rfl rfl (gF g15_3) rfl hS (zj 6 rfl rfl (gF g15_3) rfl hS (zj 7 rfl rfl (gF g15_3) rfl hS (zj 8 rfl rfl (gF g15_3) rfl hS (zj 9 rfl rfl (gF g15_3) rfl hS (zj 10 rfl rfl (gF g15_3) rfl hS (zj 11 rfl rfl (gF g15_3) rfl hS (zj 12 rfl rfl (gF g15_3) rfl hS (zj 13 rfl rfl (gF g15_3) rfl hS (zD 14 rfl (xr (gF g15_3)) hS (zM ?_)))))))))))
     refine (?_ : C _ _ _ _ _ _ _ (Own w S [Res.vec 32 1 v q.length (q.flatMap U1)])) _ hw
     refine xt rfl ?_
     exact yr rfl (fun w' hw => ⟨j2, ⟨rfl, rfl, rfl, rfl, trivial⟩, ⟨hj6, hH6, fun h => absurd h (by omega)⟩, hw⟩)
   have hj7 := hΦ.1
   have hH7 := hΦ.2.1
   have hlt7 := hΦ.2.2
   refine zL (zB (zC rfl (zC rfl (xF rfl rfl rfl (zA (zV rfl (fun c10 => ?_) (fun c10 => ?_)))))))
   ·
    refine yB rfl (ye (fun (n : List Nat) => [(11, Vj j2)]) (fun (n : List Nat) => n = yL q j2 a) (fun (n : List Nat) => [Res.vec 32 1 v n.length (n.flatMap U1)]) ?_ (fun n g hΦ => ?_))
    ·
     refine zZ [] rfl (by decide) (by kernel_rfl) (fun w' hw hS => zD 0 rfl (zK) hS (zD 1 rfl (zK) hS (zD 2 rfl (zK) hS (zD 3 rfl (zK) hS (zD 4 rfl (zK) hS (zD 5 rfl (zK) hS (zD 8 rfl (zK) hS (zD 9 rfl (zK) hS (za 6 10 ?_ ?_)))))))))
     ·
      refine zT 6 rfl hw (zF (pV 0 rfl) 1 a rfl rfl rfl (by omega) rfl (zE [] rfl (by decide) (fun w' hw hS => za 7 10 ?_ ?_)))
      ·
       refine zT 7 rfl hw (zP (pV 0 rfl) 1 a 0 (fun _ => rfl) rfl rfl (by omega) rfl rfl (zI 10 rfl (zF (pV 0 rfl) 1 j2 rfl rfl rfl (by omega) rfl (zI 11 rfl (zP (pV 0 rfl) 1 j2 0 (fun _ => rfl) rfl rfl (by omega) rfl rfl (zI 12 rfl (zF (pV 0 rfl) 1 j2 rfl rfl rfl (by omega) rfl (zI 13 rfl ?_))))))))
       refine zS 0 j2 (zG q a) rfl (fun _ => rfl) rfl (by omega) rfl rfl rfl (by omega) (zI 14 rfl (zF (pV 0 rfl) 1 a rfl rfl rfl (by simp only [List.length_set]; omega) rfl (zI 15 rfl (zS 0 a (zG q j2) rfl (fun _ => rfl) rfl (by omega) rfl rfl rfl (by simp only [List.length_set]; omega) (zE [] rfl (by decide) (fun w' hw hS => zM ?_))))))
       exact ⟨yL q j2 a, ⟨rfl, trivial⟩, rfl, hw⟩
      ·
       refine zT 10 rfl hw (zF (pV 0 rfl) 1 j2 rfl rfl rfl (by omega) rfl (zE [] rfl (by decide) (fun w' hw hS => za 7 11 ?_ ?_)))
       ·
        refine zT 7 rfl hw (zP (pV 0 rfl) 1 a 0 (fun _ => rfl) rfl rfl (by omega) rfl rfl (zI 11 rfl (zP (pV 0 rfl) 1 j2 0 (fun _ => rfl) rfl rfl (by omega) rfl rfl (zI 12 rfl (zF (pV 0 rfl) 1 j2 rfl rfl rfl (by omega) rfl (zI 13 rfl (zS 0 j2 (zG q a) rfl (fun _ => rfl) rfl (by omega) rfl rfl rfl (by omega) (zI 14 rfl ?_))))))))
        refine zF (pV 0 rfl) 1 a rfl rfl rfl (by simp only [List.length_set]; omega) rfl (zI 15 rfl (zS 0 a (zG q j2) rfl (fun _ => rfl) rfl (by omega) rfl rfl rfl (by simp only [List.length_set]; omega) (zE [] rfl (by decide) (fun w' hw hS => zM ?_))))
        exact ⟨yL q j2 a, ⟨rfl, trivial⟩, rfl, hw⟩
       ·
        refine zT 11 rfl hw (zP (pV 0 rfl) 1 j2 0 (fun _ => rfl) rfl rfl (by omega) rfl rfl (zI 7 rfl (zP (pV 0 rfl) 1 a 0 (fun _ => rfl) rfl rfl (by omega) rfl rfl (zI 12 rfl (zF (pV 0 rfl) 1 j2 rfl rfl rfl (by omega) rfl (zI 13 rfl (zS 0 j2 (zG q a) rfl (fun _ => rfl) rfl (by omega) rfl rfl rfl (by omega) (zI 14 rfl ?_))))))))
        refine zF (pV 0 rfl) 1 a rfl rfl rfl (by simp only [List.length_set]; omega) rfl (zI 15 rfl (zS 0 a (zG q j2) rfl (fun _ => rfl) rfl (by omega) rfl rfl rfl (by simp only [List.length_set]; omega) (zE [] rfl (by decide) (fun w' hw hS => zM ?_))))
        exact ⟨yL q j2 a, ⟨rfl, trivial⟩, rfl, hw⟩
     ·
      refine zT 10 rfl hw (zF (pV 0 rfl) 1 j2 rfl rfl rfl (by omega) rfl (zE [] rfl (by decide) (fun w' hw hS => za 6 11 ?_ ?_)))
      ·
       refine zT 6 rfl hw (zF (pV 0 rfl) 1 a rfl rfl rfl (by omega) rfl (zE [] rfl (by decide) (fun w' hw hS => za 7 11 ?_ ?_)))
       ·
        refine zT 7 rfl hw (zP (pV 0 rfl) 1 a 0 (fun _ => rfl) rfl rfl (by omega) rfl rfl (zI 11 rfl (zP (pV 0 rfl) 1 j2 0 (fun _ => rfl) rfl rfl (by omega) rfl rfl (zI 12 rfl (zF (pV 0 rfl) 1 j2 rfl rfl rfl (by omega) rfl (zI 13 rfl (zS 0 j2 (zG q a) rfl (fun _ => rfl) rfl (by omega) rfl rfl rfl (by omega) (zI 14 rfl ?_))))))))
        refine zF (pV 0 rfl) 1 a rfl rfl rfl (by simp only [List.length_set]; omega) rfl (zI 15 rfl (zS 0 a (zG q j2) rfl (fun _ => rfl) rfl (by omega) rfl rfl rfl (by simp only [List.length_set]; omega) (zE [] rfl (by decide) (fun w' hw hS => zM ?_))))
        exact ⟨yL q j2 a, ⟨rfl, trivial⟩, rfl, hw⟩
       ·
        refine zT 11 rfl hw (zP (pV 0 rfl) 1 j2 0 (fun _ => rfl) rfl rfl (by omega) rfl rfl (zI 7 rfl (zP (pV 0 rfl) 1 a 0 (fun _ => rfl) rfl rfl (by omega) rfl rfl (zI 12 rfl (zF (pV 0 rfl) 1 j2 rfl rfl rfl (by omega) rfl (zI 13 rfl (zS 0 j2 (zG q a) rfl (fun _ => rfl) rfl (by omega) rfl rfl rfl (by omega) (zI 14 rfl ?_))))))))
        refine zF (pV 0 rfl) 1 a rfl rfl rfl (by simp only [List.length_set]; omega) rfl (zI 15 rfl (zS 0 a (zG q j2) rfl (fun _ => rfl) rfl (by omega) rfl rfl rfl (by simp only [List.length_set]; omega) (zE [] rfl (by decide) (fun w' hw hS => zM ?_))))
        exact ⟨yL q j2 a, ⟨rfl, trivial⟩, rfl, hw⟩
      ·
       refine zT 11 rfl hw (zP (pV 0 rfl) 1 j2 0 (fun _ => rfl) rfl rfl (by omega) rfl rfl (zI 6 rfl (zF (pV 0 rfl) 1 a rfl rfl rfl (by omega) rfl (zI 7 rfl (zP (pV 0 rfl) 1 a 0 (fun _ => rfl) rfl rfl (by omega) rfl rfl (zI 12 rfl (zF (pV 0 rfl) 1 j2 rfl rfl rfl (by omega) rfl (zI 13 rfl ?_))))))))
       refine zS 0 j2 (zG q a) rfl (fun _ => rfl) rfl (by omega) rfl rfl rfl (by omega) (zI 14 rfl (zF (pV 0 rfl) 1 a rfl rfl rfl (by simp only [List.length_set]; omega) rfl (zI 15 rfl (zS 0 a (zG q j2) rfl (fun _ => rfl) rfl (by omega) rfl rfl rfl (by simp only [List.length_set]; omega) (zE [] rfl (by decide) (fun w' hw hS => zM ?_))))))
       exact ⟨yL q j2 a, ⟨rfl, trivial⟩, rfl, hw⟩
    have hn := hΦ
    refine zB (zC rfl (zH rfl (zH rfl (zA ?_))))
    exact zN (yo (v := Vj j2) (v' := .bool false) rfl rfl rfl (fun w' hw => ⟨n, j2, false, rfl, (by rw [hn]; exact hS3.then_swp ⟨by omega, by omega⟩ ⟨by omega, by omega⟩ hb), ⟨by omega, by omega⟩, (by rw [hn]; exact zDk (by rw [show j2 + 1 = i2 by omega]; exact hL5) hH7 (by omega) (by omega) (by omega)), hw⟩))
   ·
    refine zJ (ye (fun (n : List Nat) => [(0, v), (1, Vj a), (10, Vj i2), (11, Vj j2)]) (fun (n : List Nat) => n = yL q i2 j2) (fun (n : List Nat) => [Res.vec 32 1 v n.length (n.flatMap U1)]) ?_ (fun n g hΦ => ?_))
    ·
     refine zZ [] rfl (by decide) (by kernel_rfl) (fun w' hw hS => zD 0 rfl (zK) hS (zD 1 rfl (zK) hS (zD 2 rfl (zK) hS (zD 3 rfl (zK) hS (zD 4 rfl (zK) hS (zD 5 rfl (zK) hS (zD 8 rfl (zK) hS (zD 9 rfl (zK) hS (za 6 10 ?_ ?_)))))))))
     ·
      refine zT 6 rfl hw (zF (pV 0 rfl) 1 j2 rfl rfl rfl (by omega) rfl (zE [] rfl (by decide) (fun w' hw hS => za 7 10 ?_ ?_)))
      ·
       refine zT 7 rfl hw (zP (pV 0 rfl) 1 j2 0 (fun _ => rfl) rfl rfl (by omega) rfl rfl (zI 10 rfl (zF (pV 0 rfl) 1 i2 rfl rfl rfl (by omega) rfl (zI 11 rfl (zP (pV 0 rfl) 1 i2 0 (fun _ => rfl) rfl rfl (by omega) rfl rfl (zI 12 rfl (zF (pV 0 rfl) 1 i2 rfl rfl rfl (by omega) rfl (zI 13 rfl ?_))))))))
       refine zS 0 i2 (zG q j2) rfl (fun _ => rfl) rfl (by omega) rfl rfl rfl (by omega) (zI 14 rfl (zF (pV 0 rfl) 1 j2 rfl rfl rfl (by simp only [List.length_set]; omega) rfl (zI 15 rfl (zS 0 j2 (zG q i2) rfl (fun _ => rfl) rfl (by omega) rfl rfl rfl (by simp only [List.length_set]; omega) (zE [] rfl (by decide) (fun w' hw hS => zM ?_))))))
       exact ⟨yL q i2 j2, ⟨rfl, rfl, rfl, rfl, trivial⟩, rfl, hw⟩
      ·
       refine zT 10 rfl hw (zF (pV 0 rfl) 1 i2 rfl rfl rfl (by omega) rfl (zE [] rfl (by decide) (fun w' hw hS => za 7 11 ?_ ?_)))
       ·
        refine zT 7 rfl hw (zP (pV 0 rfl) 1 j2 0 (fun _ => rfl) rfl rfl (by omega) rfl rfl (zI 11 rfl (zP (pV 0 rfl) 1 i2 0 (fun _ => rfl) rfl rfl (by omega) rfl rfl (zI 12 rfl (zF (pV 0 rfl) 1 i2 rfl rfl rfl (by omega) rfl (zI 13 rfl (zS 0 i2 (zG q j2) rfl (fun _ => rfl) rfl (by omega) rfl rfl rfl (by omega) (zI 14 rfl ?_))))))))
        refine zF (pV 0 rfl) 1 j2 rfl rfl rfl (by simp only [List.length_set]; omega) rfl (zI 15 rfl (zS 0 j2 (zG q i2) rfl (fun _ => rfl) rfl (by omega) rfl rfl rfl (by simp only [List.length_set]; omega) (zE [] rfl (by decide) (fun w' hw hS => zM ?_))))
        exact ⟨yL q i2 j2, ⟨rfl, rfl, rfl, rfl, trivial⟩, rfl, hw⟩
       ·
        refine zT 11 rfl hw (zP (pV 0 rfl) 1 i2 0 (fun _ => rfl) rfl rfl (by omega) rfl rfl (zI 7 rfl (zP (pV 0 rfl) 1 j2 0 (fun _ => rfl) rfl rfl (by omega) rfl rfl (zI 12 rfl (zF (pV 0 rfl) 1 i2 rfl rfl rfl (by omega) rfl (zI 13 rfl (zS 0 i2 (zG q j2) rfl (fun _ => rfl) rfl (by omega) rfl rfl rfl (by omega) (zI 14 rfl ?_))))))))
        refine zF (pV 0 rfl) 1 j2 rfl rfl rfl (by simp only [List.length_set]; omega) rfl (zI 15 rfl (zS 0 j2 (zG q i2) rfl (fun _ => rfl) rfl (by omega) rfl rfl rfl (by simp only [List.length_set]; omega) (zE [] rfl (by decide) (fun w' hw hS => zM ?_))))
        exact ⟨yL q i2 j2, ⟨rfl, rfl, rfl, rfl, trivial⟩, rfl, hw⟩
     ·
      refine zT 10 rfl hw (zF (pV 0 rfl) 1 i2 rfl rfl rfl (by omega) rfl (zE [] rfl (by decide) (fun w' hw hS => za 6 11 ?_ ?_)))
      ·
       refine zT 6 rfl hw (zF (pV 0 rfl) 1 j2 rfl rfl rfl (by omega) rfl (zE [] rfl (by decide) (fun w' hw hS => za 7 11 ?_ ?_)))
       ·
        refine zT 7 rfl hw (zP (pV 0 rfl) 1 j2 0 (fun _ => rfl) rfl rfl (by omega) rfl rfl (zI 11 rfl (zP (pV 0 rfl) 1 i2 0 (fun _ => rfl) rfl rfl (by omega) rfl rfl (zI 12 rfl (zF (pV 0 rfl) 1 i2 rfl rfl rfl (by omega) rfl (zI 13 rfl (zS 0 i2 (zG q j2) rfl (fun _ => rfl) rfl (by omega) rfl rfl rfl (by omega) (zI 14 rfl ?_))))))))
        refine zF (pV 0 rfl) 1 j2 rfl rfl rfl (by simp only [List.length_set]; omega) rfl (zI 15 rfl (zS 0 j2 (zG q i2) rfl (fun _ => rfl) rfl (by omega) rfl rfl rfl (by simp only [List.length_set]; omega) (zE [] rfl (by decide) (fun w' hw hS => zM ?_))))
        exact ⟨yL q i2 j2, ⟨rfl, rfl, rfl, rfl, trivial⟩, rfl, hw⟩
       ·
        refine zT 11 rfl hw (zP (pV 0 rfl) 1 i2 0 (fun _ => rfl) rfl rfl (by omega) rfl rfl (zI 7 rfl (zP (pV 0 rfl) 1 j2 0 (fun _ => rfl) rfl rfl (by omega) rfl rfl (zI 12 rfl (zF (pV 0 rfl) 1 i2 rfl rfl rfl (by omega) rfl (zI 13 rfl (zS 0 i2 (zG q j2) rfl (fun _ => rfl) rfl (by omega) rfl rfl rfl (by omega) (zI 14 rfl ?_))))))))
        refine zF (pV 0 rfl) 1 j2 rfl rfl rfl (by simp only [List.length_set]; omega) rfl (zI 15 rfl (zS 0 j2 (zG q i2) rfl (fun _ => rfl) rfl (by omega) rfl rfl rfl (by simp only [List.length_set]; omega) (zE [] rfl (by decide) (fun w' hw hS => zM ?_))))
        exact ⟨yL q i2 j2, ⟨rfl, rfl, rfl, rfl, trivial⟩, rfl, hw⟩
      ·
       refine zT 11 rfl hw (zP (pV 0 rfl) 1 i2 0 (fun _ => rfl) rfl rfl (by omega) rfl rfl (zI 6 rfl (zF (pV 0 rfl) 1 j2 rfl rfl rfl (by omega) rfl (zI 7 rfl (zP (pV 0 rfl) 1 j2 0 (fun _ => rfl) rfl rfl (by omega) rfl rfl (zI 12 rfl (zF (pV 0 rfl) 1 i2 rfl rfl rfl (by omega) rfl (zI 13 rfl ?_))))))))
       refine zS 0 i2 (zG q j2) rfl (fun _ => rfl) rfl (by omega) rfl rfl rfl (by omega) (zI 14 rfl (zF (pV 0 rfl) 1 j2 rfl rfl rfl (by simp only [List.length_set]; omega) rfl (zI 15 rfl (zS 0 j2 (zG q i2) rfl (fun _ => rfl) rfl (by omega) rfl rfl rfl (by simp only [List.length_set]; omega) (zE [] rfl (by decide) (fun w' hw hS => zM ?_))))))
       exact ⟨yL q i2 j2, ⟨rfl, rfl, rfl, rfl, trivial⟩, rfl, hw⟩
    have hn := hΦ
    have hij : i2 < j2 := (by have h1 := hlt7 (by omega); have h2 := hge5 (by omega); rcases Nat.lt_or_ge i2 j2 with h | h; exact h; rw [show i2 = j2 by omega] at h2; first | exact absurd h1 h2 | exact absurd h2 h1)
    have hsw := zCA hL5 hH7 hij (by omega) (by omega) (by omega) (hge5 (by omega)) (hlt7 (by omega))
    refine zB (zC rfl (zn rfl rfl (zh (by omega)) rfl (zH rfl (zA (zY (zC rfl (yJ (c := ((j2 - 1 : Nat) : Int)) rfl rfl (xg (by omega) (by omega)) rfl (zH rfl ?_))))))))
    exact zd (fun w' hw => ⟨i2 + 1, j2 - 1, n, ⟨rfl, rfl, rfl, rfl, trivial⟩, ⟨⟨⟨by omega, by omega⟩, by omega⟩, (by rw [hn]; exact hS3.then_swp ⟨by omega, by omega⟩ ⟨by omega, by omega⟩ hb), (by rw [hn]; exact hsw.1), (by rw [hn]; exact hsw.2)⟩, hw, (by omega)⟩)
theorem zGg {S : List Nat} (v : Value) (l : List Nat) (a b p : Nat) (w : World) (ha : a ≤ p ∧ p < b) (hb : b ≤ l.length) (hl : z6 l.length) (hin : Own w S [Res.vec 32 1 v l.length (l.flatMap U1)] w) : Rets Tryz.prog 85 #[v, Vj a, Vj b, Vj p] w fun u_ w' => ∃ (l' : List Nat) (m : Nat), u_ = Vj m ∧ Same a b l l' ∧ (a + 1 ≤ m ∧ m ≤ b) ∧ Eqs a m b (zG l p) l' ∧ Own w S [Res.vec 32 1 v l'.length (l'.flatMap U1)] w' := by
  refine ze Tryz.func85 rfl Tryz.ntmps85 hin ?_
  refine zB (zH rfl (zA (ye (fun (q : List Nat) => [(0, v), (1, Vj a), (2, Vj b)]) (fun (q : List Nat) => Same a b l q ∧ zG q a = zG l p) (fun (q : List Nat) => [Res.vec 32 1 v q.length (q.flatMap U1)]) ?_ (fun q g hΦ => ?_))))
  ·
   refine zZ [] rfl (by decide) (by kernel_rfl) (fun w' hw hS => zD 0 rfl (zK) hS (zD 1 rfl (zK) hS (zD 2 rfl (zK) hS (zD 3 rfl (zK) hS (zD 4 rfl (zK) hS (zD 5 rfl (zK) hS (zD 8 rfl (zK) hS (zD 9 rfl (zK) hS (za 6 10 ?_ ?_)))))))))
   ·
    refine zT 6 rfl hw (zF (pV 0 rfl) 1 p rfl rfl rfl (by omega) rfl (zE [] rfl (by decide) (fun w' hw hS => za 7 10 ?_ ?_)))
    ·
     refine zT 7 rfl hw (zP (pV 0 rfl) 1 p 0 (fun _ => rfl) rfl rfl (by omega) rfl rfl (zI 10 rfl (zF (pV 0 rfl) 1 a rfl rfl rfl (by omega) rfl (zI 11 rfl (zP (pV 0 rfl) 1 a 0 (fun _ => rfl) rfl rfl (by omega) rfl rfl (zI 12 rfl (zF (pV 0 rfl) 1 a rfl rfl rfl (by omega) rfl (zI 13 rfl ?_))))))))
     refine zS 0 a (zG l p) rfl (fun _ => rfl) rfl (by omega) rfl rfl rfl (by omega) (zI 14 rfl (zF (pV 0 rfl) 1 p rfl rfl rfl (by simp only [List.length_set]; omega) rfl (zI 15 rfl (zS 0 p (zG l a) rfl (fun _ => rfl) rfl (by omega) rfl rfl rfl (by simp only [List.length_set]; omega) (zE [] rfl (by decide) (fun w' hw hS => zM ?_))))))
     exact ⟨yL l a p, ⟨rfl, rfl, rfl, trivial⟩, ⟨Same.ex ⟨by omega, by omega⟩ ⟨by omega, by omega⟩ hb, kF (by omega) (by omega)⟩, hw⟩
    ·
     refine zT 10 rfl hw (zF (pV 0 rfl) 1 a rfl rfl rfl (by omega) rfl (zE [] rfl (by decide) (fun w' hw hS => za 7 11 ?_ ?_)))
     ·
      refine zT 7 rfl hw (zP (pV 0 rfl) 1 p 0 (fun _ => rfl) rfl rfl (by omega) rfl rfl (zI 11 rfl (zP (pV 0 rfl) 1 a 0 (fun _ => rfl) rfl rfl (by omega) rfl rfl (zI 12 rfl (zF (pV 0 rfl) 1 a rfl rfl rfl (by omega) rfl (zI 13 rfl (zS 0 a (zG l p) rfl (fun _ => rfl) rfl (by omega) rfl rfl rfl (by omega) (zI 14 rfl ?_))))))))
      refine zF (pV 0 rfl) 1 p rfl rfl rfl (by simp only [List.length_set]; omega) rfl (zI 15 rfl (zS 0 p (zG l a) rfl (fun _ => rfl) rfl (by omega) rfl rfl rfl (by simp only [List.length_set]; omega) (zE [] rfl (by decide) (fun w' hw hS => zM ?_))))
      exact ⟨yL l a p, ⟨rfl, rfl, rfl, trivial⟩, ⟨Same.ex ⟨by omega, by omega⟩ ⟨by omega, by omega⟩ hb, kF (by omega) (by omega)⟩, hw⟩
     ·
      refine zT 11 rfl hw (zP (pV 0 rfl) 1 a 0 (fun _ => rfl) rfl rfl (by omega) rfl rfl (zI 7 rfl (zP (pV 0 rfl) 1 p 0 (fun _ => rfl) rfl rfl (by omega) rfl rfl (zI 12 rfl (zF (pV 0 rfl) 1 a rfl rfl rfl (by omega) rfl (zI 13 rfl (zS 0 a (zG l p) rfl (fun _ => rfl) rfl (by omega) rfl rfl rfl (by omega) (zI 14 rfl ?_))))))))
      refine zF (pV 0 rfl) 1 p rfl rfl rfl (by simp only [List.length_set]; omega) rfl (zI 15 rfl (zS 0 p (zG l a) rfl (fun _ => rfl) rfl (by omega) rfl rfl rfl (by simp only [List.length_set]; omega) (zE [] rfl (by decide) (fun w' hw hS => zM ?_))))
      exact ⟨yL l a p, ⟨rfl, rfl, rfl, trivial⟩, ⟨Same.ex ⟨by omega, by omega⟩ ⟨by omega, by omega⟩ hb, kF (by omega) (by omega)⟩, hw⟩
   ·
    refine zT 10 rfl hw (zF (pV 0 rfl) 1 a rfl rfl rfl (by omega) rfl (zE [] rfl (by decide) (fun w' hw hS => za 6 11 ?_ ?_)))
    ·
     refine zT 6 rfl hw (zF (pV 0 rfl) 1 p rfl rfl rfl (by omega) rfl (zE [] rfl (by decide) (fun w' hw hS => za 7 11 ?_ ?_)))
     ·
      refine zT 7 rfl hw (zP (pV 0 rfl) 1 p 0 (fun _ => rfl) rfl rfl (by omega) rfl rfl (zI 11 rfl (zP (pV 0 rfl) 1 a 0 (fun _ => rfl) rfl rfl (by omega) rfl rfl (zI 12 rfl (zF (pV 0 rfl) 1 a rfl rfl rfl (by omega) rfl (zI 13 rfl (zS 0 a (zG l p) rfl (fun _ => rfl) rfl (by omega) rfl rfl rfl (by omega) (zI 14 rfl ?_))))))))
      refine zF (pV 0 rfl) 1 p rfl rfl rfl (by simp only [List.length_set]; omega) rfl (zI 15 rfl (zS 0 p (zG l a) rfl (fun _ => rfl) rfl (by omega) rfl rfl rfl (by simp only [List.length_set]; omega) (zE [] rfl (by decide) (fun w' hw hS => zM ?_))))
      exact ⟨yL l a p, ⟨rfl, rfl, rfl, trivial⟩, ⟨Same.ex ⟨by omega, by omega⟩ ⟨by omega, by omega⟩ hb, kF (by omega) (by omega)⟩, hw⟩
     ·
      refine zT 11 rfl hw (zP (pV 0 rfl) 1 a 0 (fun _ => rfl) rfl rfl (by omega) rfl rfl (zI 7 rfl (zP (pV 0 rfl) 1 p 0 (fun _ => rfl) rfl rfl (by omega) rfl rfl (zI 12 rfl (zF (pV 0 rfl) 1 a rfl rfl rfl (by omega) rfl (zI 13 rfl (zS 0 a (zG l p) rfl (fun _ => rfl) rfl (by omega) rfl rfl rfl (by omega) (zI 14 rfl ?_))))))))
      refine zF (pV 0 rfl) 1 p rfl rfl rfl (by simp only [List.length_set]; omega) rfl (zI 15 rfl (zS 0 p (zG l a) rfl (fun _ => rfl) rfl (by omega) rfl rfl rfl (by simp only [List.length_set]; omega) (zE [] rfl (by decide) (fun w' hw hS => zM ?_))))
      exact ⟨yL l a p, ⟨rfl, rfl, rfl, trivial⟩, ⟨Same.ex ⟨by omega, by omega⟩ ⟨by omega, by omega⟩ hb, kF (by omega) (by omega)⟩, hw⟩
    ·
     refine zT 11 rfl hw (zP (pV 0 rfl) 1 a 0 (fun _ => rfl) rfl rfl (by omega) rfl rfl (zI 6 rfl (zF (pV 0 rfl) 1 p rfl rfl rfl (by omega) rfl (zI 7 rfl (zP (pV 0 rfl) 1 p 0 (fun _ => rfl) rfl rfl (by omega) rfl rfl (zI 12 rfl (zF (pV 0 rfl) 1 a rfl rfl rfl (by omega) rfl (zI 13 rfl ?_))))))))
     refine zS 0 a (zG l p) rfl (fun _ => rfl) rfl (by omega) rfl rfl rfl (by omega) (zI 14 rfl (zF (pV 0 rfl) 1 p rfl rfl rfl (by simp only [List.length_set]; omega) rfl (zI 15 rfl (zS 0 p (zG l a) rfl (fun _ => rfl) rfl (by omega) rfl rfl rfl (by simp only [List.length_set]; omega) (zE [] rfl (by decide) (fun w' hw hS => zM ?_))))))
     exact ⟨yL l a p, ⟨rfl, rfl, rfl, trivial⟩, ⟨Same.ex ⟨by omega, by omega⟩ ⟨by omega, by omega⟩ hb, kF (by omega) (by omega)⟩, hw⟩
  have hql := hΦ.1.len
  have hSq := hΦ.1
  have hpv := hΦ.2
  refine zB (zC rfl (zn rfl rfl (zh (by omega)) rfl (zC rfl (yJ (c := ((b - 1 : Nat) : Int)) rfl rfl (xg (by omega) (by omega)) rfl (zH rfl (zH rfl (zA (zL (zW ?_)))))))))
  refine ji (fun (i j : Nat) (q : List Nat) => [(0, v), (1, Vj a), (9, Vj i), (10, Vj j)]) (fun (i j : Nat) (q : List Nat) => ((a + 1 ≤ i ∧ i ≤ j + 1) ∧ j < b) ∧ (Same a b l q ∧ zG q a = zG l p) ∧ Le a i q ∧ Gt a j b q) (fun (i j : Nat) (q : List Nat) => [Res.vec 32 1 v q.length (q.flatMap U1)]) (fun (i j : Nat) (q : List Nat) => j + 1 - i) (fun w' hw => ⟨a + 1, b - 1, q, ⟨rfl, rfl, rfl, rfl, trivial⟩, ⟨⟨⟨by omega, by omega⟩, by omega⟩, ⟨hSq, hpv⟩, fun k h1 h2 => by omega, fun k h1 h2 => by omega⟩, hw⟩) (fun i j q g hΦ => ?_)
  have hij3 := hΦ.1
  have hS3 := hΦ.2.1.1
  have hp3 := hΦ.2.1.2
  have hL3 := hΦ.2.2.1
  have hH3 := hΦ.2.2.2
  have hq3 := hS3.len
  refine zW (ye (fun (i2 : Nat) => [(0, v), (1, Vj a), (9, Vj i2), (10, Vj j)]) (fun (i2 : Nat) => (i ≤ i2 ∧ i2 ≤ j + 1) ∧ Le a i2 q ∧ (i2 ≤ j → olt (zG q a) (zG q i2))) (fun (i2 : Nat) => [Res.vec 32 1 v q.length (q.flatMap U1)]) ?_ (fun i2 g hΦ => ?_))
  ·
   refine zW ?_
   refine xC (fun (i2 : Nat) => [(0, v), (1, Vj a), (9, Vj i2), (10, Vj j)]) (fun (i2 : Nat) => (i ≤ i2 ∧ i2 ≤ j + 1) ∧ Le a i2 q) (fun (i2 : Nat) => [Res.vec 32 1 v q.length (q.flatMap U1)]) (fun (i2 : Nat) => j + 1 - i2) (fun w' hw => ⟨i, ⟨rfl, rfl, rfl, rfl, trivial⟩, ⟨⟨by omega, by omega⟩, hL3⟩, hw⟩) (fun i2 g hΦ => ?_)
   have hi4 := hΦ.1
   have hL4 := hΦ.2
   refine zL (zL (zZ [0] rfl (by decide) (by kernel_rfl) (fun w' hw hS => zD 0 rfl (zK) hS (zD 1 rfl (zK) hS (zD 2 rfl (zBB rfl rfl) hS (zD 3 rfl (zK) hS ?_))))))
   by_cases g3_3 : ((i2 : Nat) : Int) ≤ ((j : Nat) : Int)
   ·
    refine zp 4 rfl rfl (gT g3_3) (zK) hS (zp 5 rfl rfl (gT g3_3) (zK) hS (zp 6 rfl rfl (gT g3_3) (z7 (pV 0 rfl) 1 a rfl rfl rfl (by omega)) hS (zp 7 rfl rfl (gT g3_3) (yT (pV 0 rfl) 1 a 0 (fun _ => rfl) rfl rfl (by omega) rfl) hS (zp 8 rfl rfl (gT g3_3) (zK) hS (zp 9 rfl rfl (gT g3_3) (zK) hS (zp 10 rfl rfl (gT g3_3) (z7 (pV 0 rfl) 1 i2 rfl rfl rfl (by omega)) hS (zp 11 rfl rfl (gT g3_3) (yT (pV 0 rfl) 1 i2 0 (fun _ => rfl) rfl rfl (by omega) rfl) hS (zX 12 rfl hw (zR rfl (gT g3_3) (zQ rfl rfl (fun w' hw => (xZ (zG q a) (zG q i2) w').mono ?_)))))))))))
    rintro _ w1 ⟨rfl, hO⟩
    refine (?_ : CL _ _ _ _ _ _ (Own w S [Res.vec 32 1 v q.length (q.flatMap U1)])) w1 (hw.frame0 hO)
    refine zE [0] rfl (by decide) (fun w' hw hS => zp 13 rfl rfl (gT g3_3) (jN (q := olt (zG q a) (zG q i2)) rfl) hS (zD 14 rfl (xq (gT g3_3)) hS (zM ?_)))
    refine (?_ : C _ _ _ _ _ _ _ (Own w S [Res.vec 32 1 v q.length (q.flatMap U1)])) _ hw
    refine zV rfl (fun c1 => ?_) (fun c1 => ?_)
    ·
     refine zJ (zW (zY (zC rfl (zn rfl rfl (zh (by omega)) rfl (zH rfl ?_)))))
     exact zd (fun w' hw => ⟨i2 + 1, ⟨rfl, rfl, rfl, rfl, trivial⟩, ⟨⟨by omega, by omega⟩, hL4.step c1⟩, hw, (by omega)⟩)
    ·
     exact yr rfl (fun w' hw => ⟨i2, ⟨rfl, rfl, rfl, rfl, trivial⟩, ⟨hi4, hL4, fun _ => Decidable.not_not.1 c1⟩, hw⟩)
   ·
    refine zj 4 rfl rfl (gF g3_3) rfl hS (zj 5 rfl rfl (gF g3_3) rfl hS (zj 6 rfl rfl (gF g3_3) rfl hS (zj 7 rfl rfl (gF g3_3) rfl hS (zj 8 rfl rfl (gF g3_3) rfl hS (zj 9 rfl rfl (gF g3_3) rfl hS (zj 10 rfl rfl (gF g3_3) rfl hS (zj 11 rfl rfl (gF g3_3) rfl hS (zj 12 rfl rfl (gF g3_3) rfl hS (zj 13 rfl rfl (gF g3_3) rfl hS (zD 14 rfl (xr (gF g3_3)) hS (zM ?_)))))))))))
    refine (?_ : C _ _ _ _ _ _ _ (Own w S [Res.vec 32 1 v q.length (q.flatMap U1)])) _ hw
    refine xt rfl ?_
    exact yr rfl (fun w' hw => ⟨i2, ⟨rfl, rfl, rfl, rfl, trivial⟩, ⟨hi4, hL4, fun h => absurd h (by omega)⟩, hw⟩)
  have hi5 := hΦ.1
  have hL5 := hΦ.2.1
  have hge5 := hΦ.2.2
  refine ye (fun (j2 : Nat) => [(0, v), (1, Vj a), (9, Vj i2), (10, Vj j2)]) (fun (j2 : Nat) => (i2 ≤ j2 + 1 ∧ j2 ≤ j) ∧ Gt a j2 b q ∧ (i2 ≤ j2 → xy (zG q j2) (zG q a))) (fun (j2 : Nat) => [Res.vec 32 1 v q.length (q.flatMap U1)]) ?_ (fun j2 g hΦ => ?_)
  ·
   refine zW ?_
   refine xC (fun (j2 : Nat) => [(0, v), (1, Vj a), (9, Vj i2), (10, Vj j2)]) (fun (j2 : Nat) => (i2 ≤ j2 + 1 ∧ j2 ≤ j) ∧ Gt a j2 b q) (fun (j2 : Nat) => [Res.vec 32 1 v q.length (q.flatMap U1)]) (fun (j2 : Nat) => j2) (fun w' hw => ⟨j, ⟨rfl, rfl, rfl, rfl, trivial⟩, ⟨⟨by omega, by omega⟩, hH3⟩, hw⟩) (fun j2 g hΦ => ?_)
   have hj6 := hΦ.1
   have hH6 := hΦ.2
   refine zL (zL (zZ [0] rfl (by decide) (by kernel_rfl) (fun w' hw hS => zD 0 rfl (zK) hS (zD 1 rfl (zK) hS (zD 2 rfl (zBB rfl rfl) hS (zD 3 rfl (zK) hS ?_))))))
   by_cases g5_3 : ((i2 : Nat) : Int) ≤ ((j2 : Nat) : Int)
   ·
    refine zp 4 rfl rfl (gT g5_3) (zK) hS (zp 5 rfl rfl (gT g5_3) (zK) hS (zp 6 rfl rfl (gT g5_3) (z7 (pV 0 rfl) 1 a rfl rfl rfl (by omega)) hS (zp 7 rfl rfl (gT g5_3) (yT (pV 0 rfl) 1 a 0 (fun _ => rfl) rfl rfl (by omega) rfl) hS (zp 8 rfl rfl (gT g5_3) (zK) hS (zp 9 rfl rfl (gT g5_3) (zK) hS (zp 10 rfl rfl (gT g5_3) (z7 (pV 0 rfl) 1 j2 rfl rfl rfl (by omega)) hS (zp 11 rfl rfl (gT g5_3) (yT (pV 0 rfl) 1 j2 0 (fun _ => rfl) rfl rfl (by omega) rfl) hS (zX 12 rfl hw (zR rfl (gT g5_3) (zQ rfl rfl (fun w' hw => (xZ (zG q a) (zG q j2) w').mono ?_)))))))))))
    rintro _ w1 ⟨rfl, hO⟩
    refine (?_ : CL _ _ _ _ _ _ (Own w S [Res.vec 32 1 v q.length (q.flatMap U1)])) w1 (hw.frame0 hO)
    refine zE [0] rfl (by decide) (fun w' hw hS => zD 13 rfl (xq (gT g5_3)) hS (zM ?_))
    refine (?_ : C _ _ _ _ _ _ _ (Own w S [Res.vec 32 1 v q.length (q.flatMap U1)])) _ hw
    refine zV rfl (fun c3 => ?_) (fun c3 => ?_)
    ·
     refine zJ (zW (zY (zC rfl (yJ (c := ((j2 - 1 : Nat) : Int)) rfl rfl (xg (by omega) (by omega)) rfl (zH rfl ?_)))))
     exact zd (fun w' hw => ⟨j2 - 1, ⟨rfl, rfl, rfl, rfl, trivial⟩, ⟨⟨by omega, by omega⟩, hH6.step c3⟩, hw, (by omega)⟩)
    ·
     exact yr rfl (fun w' hw => ⟨j2, ⟨rfl, rfl, rfl, rfl, trivial⟩, ⟨hj6, hH6, fun _ => c3⟩, hw⟩)
   ·
    refine zj 4 rfl rfl (gF g5_3) rfl hS (zj 5 rfl rfl (gF g5_3) rfl hS (zj 6 rfl rfl (gF g5_3) rfl hS (zj 7 rfl rfl (gF g5_3) rfl hS (zj 8 rfl rfl (gF g5_3) rfl hS (zj 9 rfl rfl (gF g5_3) rfl hS (zj 10 rfl rfl (gF g5_3) rfl hS (zj 11 rfl rfl (gF g5_3) rfl hS (zj 12 rfl rfl (gF g5_3) rfl hS (zD 13 rfl (xr (gF g5_3)) hS (zM ?_))))))))))
    refine (?_ : C _ _ _ _ _ _ _ (Own w S [Res.vec 32 1 v q.length (q.flatMap U1)])) _ hw
    refine xt rfl ?_
    exact yr rfl (fun w' hw => ⟨j2, ⟨rfl, rfl, rfl, rfl, trivial⟩, ⟨hj6, hH6, fun h => absurd h (by omega)⟩, hw⟩)
  have hj7 := hΦ.1
  have hH7 := hΦ.2.1
  have hlt7 := hΦ.2.2
  refine zL (zB (zC rfl (zC rfl (xF rfl rfl rfl (zA (zV rfl (fun c5 => ?_) (fun c5 => ?_)))))))
  ·
   refine yB rfl (zB (zC rfl (zH rfl (zA ?_))))
   exact zN (z4 (v := Vj i2) rfl rfl (fun w' hw => ⟨q, i2, rfl, hS3, ⟨by omega, by omega⟩, zIg hL5 (by rw [show i2 - 1 = j2 by omega]; exact hH7) (by omega) hp3, hw⟩))
  ·
   refine zJ (ye (fun (n : List Nat) => [(0, v), (1, Vj a), (9, Vj i2), (10, Vj j2)]) (fun (n : List Nat) => n = yL q i2 j2) (fun (n : List Nat) => [Res.vec 32 1 v n.length (n.flatMap U1)]) ?_ (fun n g hΦ => ?_))
   ·
    refine zZ [] rfl (by decide) (by kernel_rfl) (fun w' hw hS => zD 0 rfl (zK) hS (zD 1 rfl (zK) hS (zD 2 rfl (zK) hS (zD 3 rfl (zK) hS (zD 4 rfl (zK) hS (zD 5 rfl (zK) hS (zD 8 rfl (zK) hS (zD 9 rfl (zK) hS (za 6 10 ?_ ?_)))))))))
    ·
     refine zT 6 rfl hw (zF (pV 0 rfl) 1 j2 rfl rfl rfl (by omega) rfl (zE [] rfl (by decide) (fun w' hw hS => za 7 10 ?_ ?_)))
     ·
      refine zT 7 rfl hw (zP (pV 0 rfl) 1 j2 0 (fun _ => rfl) rfl rfl (by omega) rfl rfl (zI 10 rfl (zF (pV 0 rfl) 1 i2 rfl rfl rfl (by omega) rfl (zI 11 rfl (zP (pV 0 rfl) 1 i2 0 (fun _ => rfl) rfl rfl (by omega) rfl rfl (zI 12 rfl (zF (pV 0 rfl) 1 i2 rfl rfl rfl (by omega) rfl (zI 13 rfl ?_))))))))
      refine zS 0 i2 (zG q j2) rfl (fun _ => rfl) rfl (by omega) rfl rfl rfl (by omega) (zI 14 rfl (zF (pV 0 rfl) 1 j2 rfl rfl rfl (by simp only [List.length_set]; omega) rfl (zI 15 rfl (zS 0 j2 (zG q i2) rfl (fun _ => rfl) rfl (by omega) rfl rfl rfl (by simp only [List.length_set]; omega) (zE [] rfl (by decide) (fun w' hw hS => zM ?_))))))
      exact ⟨yL q i2 j2, ⟨rfl, rfl, rfl, rfl, trivial⟩, rfl, hw⟩
     ·
      refine zT 10 rfl hw (zF (pV 0 rfl) 1 i2 rfl rfl rfl (by omega) rfl (zE [] rfl (by decide) (fun w' hw hS => za 7 11 ?_ ?_)))
      ·
       refine zT 7 rfl hw (zP (pV 0 rfl) 1 j2 0 (fun _ => rfl) rfl rfl (by omega) rfl rfl (zI 11 rfl (zP (pV 0 rfl) 1 i2 0 (fun _ => rfl) rfl rfl (by omega) rfl rfl (zI 12 rfl (zF (pV 0 rfl) 1 i2 rfl rfl rfl (by omega) rfl (zI 13 rfl (zS 0 i2 (zG q j2) rfl (fun _ => rfl) rfl (by omega) rfl rfl rfl (by omega) (zI 14 rfl ?_))))))))
       refine zF (pV 0 rfl) 1 j2 rfl rfl rfl (by simp only [List.length_set]; omega) rfl (zI 15 rfl (zS 0 j2 (zG q i2) rfl (fun _ => rfl) rfl (by omega) rfl rfl rfl (by simp only [List.length_set]; omega) (zE [] rfl (by decide) (fun w' hw hS => zM ?_))))
       exact ⟨yL q i2 j2, ⟨rfl, rfl, rfl, rfl, trivial⟩, rfl, hw⟩
      ·
       refine zT 11 rfl hw (zP (pV 0 rfl) 1 i2 0 (fun _ => rfl) rfl rfl (by omega) rfl rfl (zI 7 rfl (zP (pV 0 rfl) 1 j2 0 (fun _ => rfl) rfl rfl (by omega) rfl rfl (zI 12 rfl (zF (pV 0 rfl) 1 i2 rfl rfl rfl (by omega) rfl (zI 13 rfl (zS 0 i2 (zG q j2) rfl (fun _ => rfl) rfl (by omega) rfl rfl rfl (by omega) (zI 14 rfl ?_))))))))
       refine zF (pV 0 rfl) 1 j2 rfl rfl rfl (by simp only [List.length_set]; omega) rfl (zI 15 rfl (zS 0 j2 (zG q i2) rfl (fun _ => rfl) rfl (by omega) rfl rfl rfl (by simp only [List.length_set]; omega) (zE [] rfl (by decide) (fun w' hw hS => zM ?_))))
       exact ⟨yL q i2 j2, ⟨rfl, rfl, rfl, rfl, trivial⟩, rfl, hw⟩
    ·
     refine zT 10 rfl hw (zF (pV 0 rfl) 1 i2 rfl rfl rfl (by omega) rfl (zE [] rfl (by decide) (fun w' hw hS => za 6 11 ?_ ?_)))
     ·
      refine zT 6 rfl hw (zF (pV 0 rfl) 1 j2 rfl rfl rfl (by omega) rfl (zE [] rfl (by decide) (fun w' hw hS => za 7 11 ?_ ?_)))
      ·
       refine zT 7 rfl hw (zP (pV 0 rfl) 1 j2 0 (fun _ => rfl) rfl rfl (by omega) rfl rfl (zI 11 rfl (zP (pV 0 rfl) 1 i2 0 (fun _ => rfl) rfl rfl (by omega) rfl rfl (zI 12 rfl (zF (pV 0 rfl) 1 i2 rfl rfl rfl (by omega) rfl (zI 13 rfl (zS 0 i2 (zG q j2) rfl (fun _ => rfl) rfl (by omega) rfl rfl rfl (by omega) (zI 14 rfl ?_))))))))
       refine zF (pV 0 rfl) 1 j2 rfl rfl rfl (by simp only [List.length_set]; omega) rfl (zI 15 rfl (zS 0 j2 (zG q i2) rfl (fun _ => rfl) rfl (by omega) rfl rfl rfl (by simp only [List.length_set]; omega) (zE [] rfl (by decide) (fun w' hw hS => zM ?_))))
       exact ⟨yL q i2 j2, ⟨rfl, rfl, rfl, rfl, trivial⟩, rfl, hw⟩
      ·
       refine zT 11 rfl hw (zP (pV 0 rfl) 1 i2 0 (fun _ => rfl) rfl rfl (by omega) rfl rfl (zI 7 rfl (zP (pV 0 rfl) 1 j2 0 (fun _ => rfl) rfl rfl (by omega) rfl rfl (zI 12 rfl (zF (pV 0 rfl) 1 i2 rfl rfl rfl (by omega) rfl (zI 13 rfl (zS 0 i2 (zG q j2) rfl (fun _ => rfl) rfl (by omega) rfl rfl rfl (by omega) (zI 14 rfl ?_))))))))
       refine zF (pV 0 rfl) 1 j2 rfl rfl rfl (by simp only [List.length_set]; omega) rfl (zI 15 rfl (zS 0 j2 (zG q i2) rfl (fun _ => rfl) rfl (by omega) rfl rfl rfl (by simp only [List.length_set]; omega) (zE [] rfl (by decide) (fun w' hw hS => zM ?_))))
       exact ⟨yL q i2 j2, ⟨rfl, rfl, rfl, rfl, trivial⟩, rfl, hw⟩
     ·
      refine zT 11 rfl hw (zP (pV 0 rfl) 1 i2 0 (fun _ => rfl) rfl rfl (by omega) rfl rfl (zI 6 rfl (zF (pV 0 rfl) 1 j2 rfl rfl rfl (by omega) rfl (zI 7 rfl (zP (pV 0 rfl) 1 j2 0 (fun _ => rfl) rfl rfl (by omega) rfl rfl (zI 12 rfl (zF (pV 0 rfl) 1 i2 rfl rfl rfl (by omega) rfl (zI 13 rfl ?_))))))))
      refine zS 0 i2 (zG q j2) rfl (fun _ => rfl) rfl (by omega) rfl rfl rfl (by omega) (zI 14 rfl (zF (pV 0 rfl) 1 j2 rfl rfl rfl (by simp only [List.length_set]; omega) rfl (zI 15 rfl (zS 0 j2 (zG q i2) rfl (fun _ => rfl) rfl (by omega) rfl rfl rfl (by simp only [List.length_set]; omega) (zE [] rfl (by decide) (fun w' hw hS => zM ?_))))))
      exact ⟨yL q i2 j2, ⟨rfl, rfl, rfl, rfl, trivial⟩, rfl, hw⟩
   have hn := hΦ
   have hij : i2 < j2 := (by have h1 := hlt7 (by omega); have h2 := hge5 (by omega); rcases Nat.lt_or_ge i2 j2 with h | h; exact h; rw [show i2 = j2 by omega] at h2; first | exact absurd h1 h2 | exact absurd h2 h1)
   have hsw := zFo hL5 hH7 hij (by omega) (by omega) (by omega) (hge5 (by omega)) (hlt7 (by omega))
   refine zB (zC rfl (zn rfl rfl (zh (by omega)) rfl (zH rfl (zA (zY (zC rfl (yJ (c := ((j2 - 1 : Nat) : Int)) rfl rfl (xg (by omega) (by omega)) rfl (zH rfl ?_))))))))
   exact zd (fun w' hw => ⟨i2 + 1, j2 - 1, n, ⟨rfl, rfl, rfl, rfl, trivial⟩, ⟨⟨⟨by omega, by omega⟩, by omega⟩, ⟨(by rw [hn]; exact hS3.then_swp ⟨by omega, by omega⟩ ⟨by omega, by omega⟩ hb), (by rw [hn, hsw.2]; exact hp3)⟩, (by rw [hn]; exact hsw.1.1), (by rw [hn]; exact hsw.1.2)⟩, hw, (by omega)⟩)
end Go.Proofs.YtcdiehplbmkmeaaGreat
