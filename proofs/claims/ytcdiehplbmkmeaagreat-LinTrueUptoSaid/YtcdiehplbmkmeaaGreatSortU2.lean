import Derived.Test.YtcdiehplbmkmeaaGreatSortU
set_option linter.unusedSectionVars false
set_option linter.unusedSimpArgs false
set_option linter.unusedVariables false
set_option maxRecDepth 10000
namespace Go.Proofs.YtcdiehplbmkmeaaGreat
open Go Go.Sc Go.Proofs
theorem zH4 {S : List Nat} (v : Value) (l : List Nat) (a b p : Nat) (w : World) (ha : a ≤ p ∧ p < b) (hb : b ≤ l.length) (hl : z6 l.length) (hin : Own w S [Res.vec 32 1 v l.length (l.flatMap U1)] w) : Rets Tryz.prog 86 #[v, Vj a, Vj b, Vj p] w fun u_ w' => ∃ (l' : List Nat) (m : Nat) (al : Bool), u_ = .tuple #[Vj m, .bool al] ∧ Same a b l l' ∧ (a ≤ m ∧ m < b) ∧ Part a b m l' ∧ Own w S [Res.vec 32 1 v l'.length (l'.flatMap U1)] w' := by
  refine ze Tryz.func86 rfl Tryz.ntmps86 hin ?_
  refine zB (zG rfl (zG rfl (zA (yh (fun (q : List Nat) => [(0, v), (1, Vj a), (2, Vj b)]) (fun (q : List Nat) => Same a b l q) (fun (q : List Nat) => [Res.vec 32 1 v q.length (q.flatMap U1)]) ?_ (fun q g hΦ => ?_)))))
  ·
   refine zZ [] rfl (by decide) (by kernel_rfl) (fun w' hw hS => zD 0 rfl (zL) hS (zD 1 rfl (zL) hS (zD 2 rfl (zL) hS (zD 3 rfl (zL) hS (zD 4 rfl (zL) hS (zD 5 rfl (zL) hS (zD 8 rfl (zL) hS (zD 9 rfl (zL) hS (za 6 10 ?_ ?_)))))))))
   ·
    refine zU 6 rfl hw (zF (pV 0 rfl) 1 p rfl rfl rfl (by omega) rfl (zE [] rfl (by decide) (fun w' hw hS => za 7 10 ?_ ?_)))
    ·
     refine zU 7 rfl hw (zQ (pV 0 rfl) 1 p 0 (fun _ => rfl) rfl rfl (by omega) rfl rfl (zI 10 rfl (zF (pV 0 rfl) 1 a rfl rfl rfl (by omega) rfl (zI 11 rfl (zQ (pV 0 rfl) 1 a 0 (fun _ => rfl) rfl rfl (by omega) rfl rfl (zI 12 rfl (zF (pV 0 rfl) 1 a rfl rfl rfl (by omega) rfl (zI 13 rfl ?_))))))))
     refine zS 0 a (zH l p) rfl (fun _ => rfl) rfl (by omega) rfl rfl rfl (by omega) (zI 14 rfl (zF (pV 0 rfl) 1 p rfl rfl rfl (by simp only [List.length_set]; omega) rfl (zI 15 rfl (zS 0 p (zH l a) rfl (fun _ => rfl) rfl (by omega) rfl rfl rfl (by simp only [List.length_set]; omega) (zE [] rfl (by decide) (fun w' hw hS => zM ?_))))))
     exact ⟨yM l a p, ⟨rfl, rfl, rfl, trivial⟩, Same.ex ⟨by omega, by omega⟩ ⟨by omega, by omega⟩ hb, hw⟩
    ·
     refine zU 10 rfl hw (zF (pV 0 rfl) 1 a rfl rfl rfl (by omega) rfl (zE [] rfl (by decide) (fun w' hw hS => za 7 11 ?_ ?_)))
     ·
      refine zU 7 rfl hw (zQ (pV 0 rfl) 1 p 0 (fun _ => rfl) rfl rfl (by omega) rfl rfl (zI 11 rfl (zQ (pV 0 rfl) 1 a 0 (fun _ => rfl) rfl rfl (by omega) rfl rfl (zI 12 rfl (zF (pV 0 rfl) 1 a rfl rfl rfl (by omega) rfl (zI 13 rfl (zS 0 a (zH l p) rfl (fun _ => rfl) rfl (by omega) rfl rfl rfl (by omega) (zI 14 rfl ?_))))))))
      refine zF (pV 0 rfl) 1 p rfl rfl rfl (by simp only [List.length_set]; omega) rfl (zI 15 rfl (zS 0 p (zH l a) rfl (fun _ => rfl) rfl (by omega) rfl rfl rfl (by simp only [List.length_set]; omega) (zE [] rfl (by decide) (fun w' hw hS => zM ?_))))
      exact ⟨yM l a p, ⟨rfl, rfl, rfl, trivial⟩, Same.ex ⟨by omega, by omega⟩ ⟨by omega, by omega⟩ hb, hw⟩
     ·
      refine zU 11 rfl hw (zQ (pV 0 rfl) 1 a 0 (fun _ => rfl) rfl rfl (by omega) rfl rfl (zI 7 rfl (zQ (pV 0 rfl) 1 p 0 (fun _ => rfl) rfl rfl (by omega) rfl rfl (zI 12 rfl (zF (pV 0 rfl) 1 a rfl rfl rfl (by omega) rfl (zI 13 rfl (zS 0 a (zH l p) rfl (fun _ => rfl) rfl (by omega) rfl rfl rfl (by omega) (zI 14 rfl ?_))))))))
      refine zF (pV 0 rfl) 1 p rfl rfl rfl (by simp only [List.length_set]; omega) rfl (zI 15 rfl (zS 0 p (zH l a) rfl (fun _ => rfl) rfl (by omega) rfl rfl rfl (by simp only [List.length_set]; omega) (zE [] rfl (by decide) (fun w' hw hS => zM ?_))))
      exact ⟨yM l a p, ⟨rfl, rfl, rfl, trivial⟩, Same.ex ⟨by omega, by omega⟩ ⟨by omega, by omega⟩ hb, hw⟩
   ·
    refine zU 10 rfl hw (zF (pV 0 rfl) 1 a rfl rfl rfl (by omega) rfl (zE [] rfl (by decide) (fun w' hw hS => za 6 11 ?_ ?_)))
    ·
     refine zU 6 rfl hw (zF (pV 0 rfl) 1 p rfl rfl rfl (by omega) rfl (zE [] rfl (by decide) (fun w' hw hS => za 7 11 ?_ ?_)))
     ·
      refine zU 7 rfl hw (zQ (pV 0 rfl) 1 p 0 (fun _ => rfl) rfl rfl (by omega) rfl rfl (zI 11 rfl (zQ (pV 0 rfl) 1 a 0 (fun _ => rfl) rfl rfl (by omega) rfl rfl (zI 12 rfl (zF (pV 0 rfl) 1 a rfl rfl rfl (by omega) rfl (zI 13 rfl (zS 0 a (zH l p) rfl (fun _ => rfl) rfl (by omega) rfl rfl rfl (by omega) (zI 14 rfl ?_))))))))
      refine zF (pV 0 rfl) 1 p rfl rfl rfl (by simp only [List.length_set]; omega) rfl (zI 15 rfl (zS 0 p (zH l a) rfl (fun _ => rfl) rfl (by omega) rfl rfl rfl (by simp only [List.length_set]; omega) (zE [] rfl (by decide) (fun w' hw hS => zM ?_))))
      exact ⟨yM l a p, ⟨rfl, rfl, rfl, trivial⟩, Same.ex ⟨by omega, by omega⟩ ⟨by omega, by omega⟩ hb, hw⟩
     ·
      refine zU 11 rfl hw (zQ (pV 0 rfl) 1 a 0 (fun _ => rfl) rfl rfl (by omega) rfl rfl (zI 7 rfl (zQ (pV 0 rfl) 1 p 0 (fun _ => rfl) rfl rfl (by omega) rfl rfl (zI 12 rfl (zF (pV 0 rfl) 1 a rfl rfl rfl (by omega) rfl (zI 13 rfl (zS 0 a (zH l p) rfl (fun _ => rfl) rfl (by omega) rfl rfl rfl (by omega) (zI 14 rfl ?_))))))))
      refine zF (pV 0 rfl) 1 p rfl rfl rfl (by simp only [List.length_set]; omega) rfl (zI 15 rfl (zS 0 p (zH l a) rfl (fun _ => rfl) rfl (by omega) rfl rfl rfl (by simp only [List.length_set]; omega) (zE [] rfl (by decide) (fun w' hw hS => zM ?_))))
      exact ⟨yM l a p, ⟨rfl, rfl, rfl, trivial⟩, Same.ex ⟨by omega, by omega⟩ ⟨by omega, by omega⟩ hb, hw⟩
    ·
     refine zU 11 rfl hw (zQ (pV 0 rfl) 1 a 0 (fun _ => rfl) rfl rfl (by omega) rfl rfl (zI 6 rfl (zF (pV 0 rfl) 1 p rfl rfl rfl (by omega) rfl (zI 7 rfl (zQ (pV 0 rfl) 1 p 0 (fun _ => rfl) rfl rfl (by omega) rfl rfl (zI 12 rfl (zF (pV 0 rfl) 1 a rfl rfl rfl (by omega) rfl (zI 13 rfl ?_))))))))
     refine zS 0 a (zH l p) rfl (fun _ => rfl) rfl (by omega) rfl rfl rfl (by omega) (zI 14 rfl (zF (pV 0 rfl) 1 p rfl rfl rfl (by simp only [List.length_set]; omega) rfl (zI 15 rfl (zS 0 p (zH l a) rfl (fun _ => rfl) rfl (by omega) rfl rfl rfl (by simp only [List.length_set]; omega) (zE [] rfl (by decide) (fun w' hw hS => zM ?_))))))
     exact ⟨yM l a p, ⟨rfl, rfl, rfl, trivial⟩, Same.ex ⟨by omega, by omega⟩ ⟨by omega, by omega⟩ hb, hw⟩
  have hql := hΦ.len
  have hSq := hΦ
  refine zB (zC rfl (zn rfl rfl (zh (by omega)) rfl (zC rfl (yJ (c := ((b - 1 : Nat) : Int)) rfl rfl (xi (by omega) (by omega)) rfl (zG rfl (zG rfl (zA (yh (fun (i : Nat) => [(0, v), (1, Vj a), (10, Vj i), (11, Vj (b - 1))]) (fun (i : Nat) => (a + 1 ≤ i ∧ i ≤ b) ∧ Lo a i q ∧ (i < b → x0 (zH q a) (zH q i))) (fun (i : Nat) => [Res.vec 32 1 v q.length (q.flatMap U1)]) ?_ (fun i g hΦ => ?_)))))))))
  ·
   refine zW ?_
   refine xD (fun (i : Nat) => [(0, v), (1, Vj a), (10, Vj i), (11, Vj (b - 1))]) (fun (i : Nat) => (a + 1 ≤ i ∧ i ≤ b) ∧ Lo a i q) (fun (i : Nat) => [Res.vec 32 1 v q.length (q.flatMap U1)]) (fun (i : Nat) => b - i) (fun w' hw => ⟨a + 1, ⟨rfl, rfl, rfl, rfl, trivial⟩, ⟨⟨by omega, by omega⟩, fun k h1 h2 => by omega⟩, hw⟩) (fun i g hΦ => ?_)
   have hi1 := hΦ.1
   have hLo := hΦ.2
   refine zK (zK (zZ [0] rfl (by decide) (by kernel_rfl) (fun w' hw hS => zD 0 rfl (zL) hS (zD 1 rfl (zL) hS (zD 2 rfl (zBE rfl rfl) hS (zD 3 rfl (zL) hS ?_))))))
   by_cases g3_3 : ((i : Nat) : Int) ≤ ((b - 1 : Nat) : Int)
   ·
    refine zp 4 rfl rfl (gT g3_3) (zL) hS (zp 5 rfl rfl (gT g3_3) (zL) hS (zp 6 rfl rfl (gT g3_3) (yA (pV 0 rfl) 1 i rfl rfl rfl (by omega)) hS (zp 7 rfl rfl (gT g3_3) (yX (pV 0 rfl) 1 i 0 (fun _ => rfl) rfl rfl (by omega) rfl) hS (zp 8 rfl rfl (gT g3_3) (zL) hS (zp 9 rfl rfl (gT g3_3) (zL) hS (zp 10 rfl rfl (gT g3_3) (yA (pV 0 rfl) 1 a rfl rfl rfl (by omega)) hS (zp 11 rfl rfl (gT g3_3) (yX (pV 0 rfl) 1 a 0 (fun _ => rfl) rfl rfl (by omega) rfl) hS (zX 12 rfl hw (zR rfl (gT g3_3) (zP rfl rfl (fun w' hw => (xg (zH q i) (zH q a) w').mono ?_)))))))))))
    rintro _ w1 ⟨rfl, hO⟩
    refine (?_ : CL _ _ _ _ _ _ (Own w S [Res.vec 32 1 v q.length (q.flatMap U1)])) w1 (hw.frame0 hO)
    refine zE [0] rfl (by decide) (fun w' hw hS => zD 13 rfl (xv (gT g3_3)) hS (zM ?_))
    refine (?_ : C _ _ _ _ _ _ _ (Own w S [Res.vec 32 1 v q.length (q.flatMap U1)])) _ hw
    refine zT rfl (fun c1 => ?_) (fun c1 => ?_)
    ·
     refine zJ (zW (zY (zC rfl (zn rfl rfl (zh (by omega)) rfl (zG rfl ?_)))))
     exact zd (fun w' hw => ⟨i + 1, ⟨rfl, rfl, rfl, rfl, trivial⟩, ⟨⟨by omega, by omega⟩, hLo.step c1⟩, hw, (by omega)⟩)
    ·
     exact yv rfl (fun w' hw => ⟨i, ⟨rfl, rfl, rfl, rfl, trivial⟩, ⟨hi1, hLo, fun _ => c1⟩, hw⟩)
   ·
    refine zk 4 rfl rfl (gF g3_3) rfl hS (zk 5 rfl rfl (gF g3_3) rfl hS (zk 6 rfl rfl (gF g3_3) rfl hS (zk 7 rfl rfl (gF g3_3) rfl hS (zk 8 rfl rfl (gF g3_3) rfl hS (zk 9 rfl rfl (gF g3_3) rfl hS (zk 10 rfl rfl (gF g3_3) rfl hS (zk 11 rfl rfl (gF g3_3) rfl hS (zk 12 rfl rfl (gF g3_3) rfl hS (zD 13 rfl (xw (gF g3_3)) hS (zM ?_))))))))))
    refine (?_ : C _ _ _ _ _ _ _ (Own w S [Res.vec 32 1 v q.length (q.flatMap U1)])) _ hw
    refine xy rfl ?_
    exact yv rfl (fun w' hw => ⟨i, ⟨rfl, rfl, rfl, rfl, trivial⟩, ⟨hi1, hLo, fun h => absurd h (by omega)⟩, hw⟩)
  have hi2 := hΦ.1
  have hLo2 := hΦ.2.1
  have hge := hΦ.2.2
  refine yh (fun (j : Nat) => [(0, v), (1, Vj a), (10, Vj i), (11, Vj j)]) (fun (j : Nat) => (i ≤ j + 1 ∧ j < b) ∧ Hi a j b q ∧ (i ≤ j → olt (zH q j) (zH q a))) (fun (j : Nat) => [Res.vec 32 1 v q.length (q.flatMap U1)]) ?_ (fun j g hΦ => ?_)
  ·
   refine zW ?_
   refine xD (fun (j : Nat) => [(0, v), (1, Vj a), (10, Vj i), (11, Vj j)]) (fun (j : Nat) => (i ≤ j + 1 ∧ j < b) ∧ Hi a j b q) (fun (j : Nat) => [Res.vec 32 1 v q.length (q.flatMap U1)]) (fun (j : Nat) => j) (fun w' hw => ⟨b - 1, ⟨rfl, rfl, rfl, rfl, trivial⟩, ⟨⟨by omega, by omega⟩, fun k h1 h2 => by omega⟩, hw⟩) (fun j g hΦ => ?_)
   have hj1 := hΦ.1
   have hHi := hΦ.2
   refine zK (zK (zZ [0] rfl (by decide) (by kernel_rfl) (fun w' hw hS => zD 0 rfl (zL) hS (zD 1 rfl (zL) hS (zD 2 rfl (zBE rfl rfl) hS (zD 3 rfl (zL) hS ?_))))))
   by_cases g5_3 : ((i : Nat) : Int) ≤ ((j : Nat) : Int)
   ·
    refine zp 4 rfl rfl (gT g5_3) (zL) hS (zp 5 rfl rfl (gT g5_3) (zL) hS (zp 6 rfl rfl (gT g5_3) (yA (pV 0 rfl) 1 j rfl rfl rfl (by omega)) hS (zp 7 rfl rfl (gT g5_3) (yX (pV 0 rfl) 1 j 0 (fun _ => rfl) rfl rfl (by omega) rfl) hS (zp 8 rfl rfl (gT g5_3) (zL) hS (zp 9 rfl rfl (gT g5_3) (zL) hS (zp 10 rfl rfl (gT g5_3) (yA (pV 0 rfl) 1 a rfl rfl rfl (by omega)) hS (zp 11 rfl rfl (gT g5_3) (yX (pV 0 rfl) 1 a 0 (fun _ => rfl) rfl rfl (by omega) rfl) hS (zX 12 rfl hw (zR rfl (gT g5_3) (zP rfl rfl (fun w' hw => (xg (zH q j) (zH q a) w').mono ?_)))))))))))
    rintro _ w1 ⟨rfl, hO⟩
    refine (?_ : CL _ _ _ _ _ _ (Own w S [Res.vec 32 1 v q.length (q.flatMap U1)])) w1 (hw.frame0 hO)
    refine zE [0] rfl (by decide) (fun w' hw hS => zp 13 rfl rfl (gT g5_3) (jX (q := olt (zH q j) (zH q a)) rfl) hS (zD 14 rfl (xv (gT g5_3)) hS (zM ?_)))
    refine (?_ : C _ _ _ _ _ _ _ (Own w S [Res.vec 32 1 v q.length (q.flatMap U1)])) _ hw
    refine zT rfl (fun c3 => ?_) (fun c3 => ?_)
    ·
     refine zJ (zW (zY (zC rfl (yJ (c := ((j - 1 : Nat) : Int)) rfl rfl (xi (by omega) (by omega)) rfl (zG rfl ?_)))))
     exact zd (fun w' hw => ⟨j - 1, ⟨rfl, rfl, rfl, rfl, trivial⟩, ⟨⟨by omega, by omega⟩, hHi.step c3⟩, hw, (by omega)⟩)
    ·
     exact yv rfl (fun w' hw => ⟨j, ⟨rfl, rfl, rfl, rfl, trivial⟩, ⟨hj1, hHi, fun _ => Decidable.not_not.1 c3⟩, hw⟩)
   ·
    refine zk 4 rfl rfl (gF g5_3) rfl hS (zk 5 rfl rfl (gF g5_3) rfl hS (zk 6 rfl rfl (gF g5_3) rfl hS (zk 7 rfl rfl (gF g5_3) rfl hS (zk 8 rfl rfl (gF g5_3) rfl hS (zk 9 rfl rfl (gF g5_3) rfl hS (zk 10 rfl rfl (gF g5_3) rfl hS (zk 11 rfl rfl (gF g5_3) rfl hS (zk 12 rfl rfl (gF g5_3) rfl hS (zk 13 rfl rfl (gF g5_3) rfl hS (zD 14 rfl (xw (gF g5_3)) hS (zM ?_)))))))))))
    refine (?_ : C _ _ _ _ _ _ _ (Own w S [Res.vec 32 1 v q.length (q.flatMap U1)])) _ hw
    refine xy rfl ?_
    exact yv rfl (fun w' hw => ⟨j, ⟨rfl, rfl, rfl, rfl, trivial⟩, ⟨hj1, hHi, fun h => absurd h (by omega)⟩, hw⟩)
  have hj2 := hΦ.1
  have hHi2 := hΦ.2.1
  have hlt := hΦ.2.2
  refine zK (zB (zC rfl (zC rfl (xJ rfl rfl rfl (zA (zT rfl (fun c5 => ?_) (fun c5 => ?_)))))))
  ·
   refine yh (fun (n : List Nat) => [(11, Vj j)]) (fun (n : List Nat) => n = yM q j a) (fun (n : List Nat) => [Res.vec 32 1 v n.length (n.flatMap U1)]) ?_ (fun n g hΦ => ?_)
   ·
    refine zZ [] rfl (by decide) (by kernel_rfl) (fun w' hw hS => zD 0 rfl (zL) hS (zD 1 rfl (zL) hS (zD 2 rfl (zL) hS (zD 3 rfl (zL) hS (zD 4 rfl (zL) hS (zD 5 rfl (zL) hS (zD 8 rfl (zL) hS (zD 9 rfl (zL) hS (za 6 10 ?_ ?_)))))))))
    ·
     refine zU 6 rfl hw (zF (pV 0 rfl) 1 a rfl rfl rfl (by omega) rfl (zE [] rfl (by decide) (fun w' hw hS => za 7 10 ?_ ?_)))
     ·
      refine zU 7 rfl hw (zQ (pV 0 rfl) 1 a 0 (fun _ => rfl) rfl rfl (by omega) rfl rfl (zI 10 rfl (zF (pV 0 rfl) 1 j rfl rfl rfl (by omega) rfl (zI 11 rfl (zQ (pV 0 rfl) 1 j 0 (fun _ => rfl) rfl rfl (by omega) rfl rfl (zI 12 rfl (zF (pV 0 rfl) 1 j rfl rfl rfl (by omega) rfl (zI 13 rfl ?_))))))))
      refine zS 0 j (zH q a) rfl (fun _ => rfl) rfl (by omega) rfl rfl rfl (by omega) (zI 14 rfl (zF (pV 0 rfl) 1 a rfl rfl rfl (by simp only [List.length_set]; omega) rfl (zI 15 rfl (zS 0 a (zH q j) rfl (fun _ => rfl) rfl (by omega) rfl rfl rfl (by simp only [List.length_set]; omega) (zE [] rfl (by decide) (fun w' hw hS => zM ?_))))))
      exact ⟨yM q j a, ⟨rfl, trivial⟩, rfl, hw⟩
     ·
      refine zU 10 rfl hw (zF (pV 0 rfl) 1 j rfl rfl rfl (by omega) rfl (zE [] rfl (by decide) (fun w' hw hS => za 7 11 ?_ ?_)))
      ·
       refine zU 7 rfl hw (zQ (pV 0 rfl) 1 a 0 (fun _ => rfl) rfl rfl (by omega) rfl rfl (zI 11 rfl (zQ (pV 0 rfl) 1 j 0 (fun _ => rfl) rfl rfl (by omega) rfl rfl (zI 12 rfl (zF (pV 0 rfl) 1 j rfl rfl rfl (by omega) rfl (zI 13 rfl (zS 0 j (zH q a) rfl (fun _ => rfl) rfl (by omega) rfl rfl rfl (by omega) (zI 14 rfl ?_))))))))
       refine zF (pV 0 rfl) 1 a rfl rfl rfl (by simp only [List.length_set]; omega) rfl (zI 15 rfl (zS 0 a (zH q j) rfl (fun _ => rfl) rfl (by omega) rfl rfl rfl (by simp only [List.length_set]; omega) (zE [] rfl (by decide) (fun w' hw hS => zM ?_))))
       exact ⟨yM q j a, ⟨rfl, trivial⟩, rfl, hw⟩
      ·
       refine zU 11 rfl hw (zQ (pV 0 rfl) 1 j 0 (fun _ => rfl) rfl rfl (by omega) rfl rfl (zI 7 rfl (zQ (pV 0 rfl) 1 a 0 (fun _ => rfl) rfl rfl (by omega) rfl rfl (zI 12 rfl (zF (pV 0 rfl) 1 j rfl rfl rfl (by omega) rfl (zI 13 rfl (zS 0 j (zH q a) rfl (fun _ => rfl) rfl (by omega) rfl rfl rfl (by omega) (zI 14 rfl ?_))))))))
       refine zF (pV 0 rfl) 1 a rfl rfl rfl (by simp only [List.length_set]; omega) rfl (zI 15 rfl (zS 0 a (zH q j) rfl (fun _ => rfl) rfl (by omega) rfl rfl rfl (by simp only [List.length_set]; omega) (zE [] rfl (by decide) (fun w' hw hS => zM ?_))))
       exact ⟨yM q j a, ⟨rfl, trivial⟩, rfl, hw⟩
    ·
     refine zU 10 rfl hw (zF (pV 0 rfl) 1 j rfl rfl rfl (by omega) rfl (zE [] rfl (by decide) (fun w' hw hS => za 6 11 ?_ ?_)))
     ·
      refine zU 6 rfl hw (zF (pV 0 rfl) 1 a rfl rfl rfl (by omega) rfl (zE [] rfl (by decide) (fun w' hw hS => za 7 11 ?_ ?_)))
      ·
       refine zU 7 rfl hw (zQ (pV 0 rfl) 1 a 0 (fun _ => rfl) rfl rfl (by omega) rfl rfl (zI 11 rfl (zQ (pV 0 rfl) 1 j 0 (fun _ => rfl) rfl rfl (by omega) rfl rfl (zI 12 rfl (zF (pV 0 rfl) 1 j rfl rfl rfl (by omega) rfl (zI 13 rfl (zS 0 j (zH q a) rfl (fun _ => rfl) rfl (by omega) rfl rfl rfl (by omega) (zI 14 rfl ?_))))))))
       refine zF (pV 0 rfl) 1 a rfl rfl rfl (by simp only [List.length_set]; omega) rfl (zI 15 rfl (zS 0 a (zH q j) rfl (fun _ => rfl) rfl (by omega) rfl rfl rfl (by simp only [List.length_set]; omega) (zE [] rfl (by decide) (fun w' hw hS => zM ?_))))
       exact ⟨yM q j a, ⟨rfl, trivial⟩, rfl, hw⟩
      ·
       refine zU 11 rfl hw (zQ (pV 0 rfl) 1 j 0 (fun _ => rfl) rfl rfl (by omega) rfl rfl (zI 7 rfl (zQ (pV 0 rfl) 1 a 0 (fun _ => rfl) rfl rfl (by omega) rfl rfl (zI 12 rfl (zF (pV 0 rfl) 1 j rfl rfl rfl (by omega) rfl (zI 13 rfl (zS 0 j (zH q a) rfl (fun _ => rfl) rfl (by omega) rfl rfl rfl (by omega) (zI 14 rfl ?_))))))))
       refine zF (pV 0 rfl) 1 a rfl rfl rfl (by simp only [List.length_set]; omega) rfl (zI 15 rfl (zS 0 a (zH q j) rfl (fun _ => rfl) rfl (by omega) rfl rfl rfl (by simp only [List.length_set]; omega) (zE [] rfl (by decide) (fun w' hw hS => zM ?_))))
       exact ⟨yM q j a, ⟨rfl, trivial⟩, rfl, hw⟩
     ·
      refine zU 11 rfl hw (zQ (pV 0 rfl) 1 j 0 (fun _ => rfl) rfl rfl (by omega) rfl rfl (zI 6 rfl (zF (pV 0 rfl) 1 a rfl rfl rfl (by omega) rfl (zI 7 rfl (zQ (pV 0 rfl) 1 a 0 (fun _ => rfl) rfl rfl (by omega) rfl rfl (zI 12 rfl (zF (pV 0 rfl) 1 j rfl rfl rfl (by omega) rfl (zI 13 rfl ?_))))))))
      refine zS 0 j (zH q a) rfl (fun _ => rfl) rfl (by omega) rfl rfl rfl (by omega) (zI 14 rfl (zF (pV 0 rfl) 1 a rfl rfl rfl (by simp only [List.length_set]; omega) rfl (zI 15 rfl (zS 0 a (zH q j) rfl (fun _ => rfl) rfl (by omega) rfl rfl rfl (by simp only [List.length_set]; omega) (zE [] rfl (by decide) (fun w' hw hS => zM ?_))))))
      exact ⟨yM q j a, ⟨rfl, trivial⟩, rfl, hw⟩
   have hn := hΦ
   refine zB (zC rfl (zG rfl (zG rfl (zA ?_))))
   exact zN (yi (v := Vj j) (v' := .bool true) rfl rfl rfl (fun w' hw => ⟨n, j, true, rfl, (by rw [hn]; exact hSq.then_swp ⟨by omega, by omega⟩ ⟨by omega, by omega⟩ hb), ⟨by omega, by omega⟩, (by rw [hn]; exact zDo (by rw [show j + 1 = i by omega]; exact hLo2) hHi2 (by omega) (by omega) (by omega)), hw⟩))
  ·
   refine zJ (yh (fun (n : List Nat) => [(0, v), (1, Vj a), (10, Vj i), (11, Vj j)]) (fun (n : List Nat) => n = yM q i j) (fun (n : List Nat) => [Res.vec 32 1 v n.length (n.flatMap U1)]) ?_ (fun n g hΦ => ?_))
   ·
    refine zZ [] rfl (by decide) (by kernel_rfl) (fun w' hw hS => zD 0 rfl (zL) hS (zD 1 rfl (zL) hS (zD 2 rfl (zL) hS (zD 3 rfl (zL) hS (zD 4 rfl (zL) hS (zD 5 rfl (zL) hS (zD 8 rfl (zL) hS (zD 9 rfl (zL) hS (za 6 10 ?_ ?_)))))))))
    ·
     refine zU 6 rfl hw (zF (pV 0 rfl) 1 j rfl rfl rfl (by omega) rfl (zE [] rfl (by decide) (fun w' hw hS => za 7 10 ?_ ?_)))
     ·
      refine zU 7 rfl hw (zQ (pV 0 rfl) 1 j 0 (fun _ => rfl) rfl rfl (by omega) rfl rfl (zI 10 rfl (zF (pV 0 rfl) 1 i rfl rfl rfl (by omega) rfl (zI 11 rfl (zQ (pV 0 rfl) 1 i 0 (fun _ => rfl) rfl rfl (by omega) rfl rfl (zI 12 rfl (zF (pV 0 rfl) 1 i rfl rfl rfl (by omega) rfl (zI 13 rfl ?_))))))))
      refine zS 0 i (zH q j) rfl (fun _ => rfl) rfl (by omega) rfl rfl rfl (by omega) (zI 14 rfl (zF (pV 0 rfl) 1 j rfl rfl rfl (by simp only [List.length_set]; omega) rfl (zI 15 rfl (zS 0 j (zH q i) rfl (fun _ => rfl) rfl (by omega) rfl rfl rfl (by simp only [List.length_set]; omega) (zE [] rfl (by decide) (fun w' hw hS => zM ?_))))))
      exact ⟨yM q i j, ⟨rfl, rfl, rfl, rfl, trivial⟩, rfl, hw⟩
     ·
      refine zU 10 rfl hw (zF (pV 0 rfl) 1 i rfl rfl rfl (by omega) rfl (zE [] rfl (by decide) (fun w' hw hS => za 7 11 ?_ ?_)))
      ·
       refine zU 7 rfl hw (zQ (pV 0 rfl) 1 j 0 (fun _ => rfl) rfl rfl (by omega) rfl rfl (zI 11 rfl (zQ (pV 0 rfl) 1 i 0 (fun _ => rfl) rfl rfl (by omega) rfl rfl (zI 12 rfl (zF (pV 0 rfl) 1 i rfl rfl rfl (by omega) rfl (zI 13 rfl (zS 0 i (zH q j) rfl (fun _ => rfl) rfl (by omega) rfl rfl rfl (by omega) (zI 14 rfl ?_))))))))
       refine zF (pV 0 rfl) 1 j rfl rfl rfl (by simp only [List.length_set]; omega) rfl (zI 15 rfl (zS 0 j (zH q i) rfl (fun _ => rfl) rfl (by omega) rfl rfl rfl (by simp only [List.length_set]; omega) (zE [] rfl (by decide) (fun w' hw hS => zM ?_))))
       exact ⟨yM q i j, ⟨rfl, rfl, rfl, rfl, trivial⟩, rfl, hw⟩
      ·
       refine zU 11 rfl hw (zQ (pV 0 rfl) 1 i 0 (fun _ => rfl) rfl rfl (by omega) rfl rfl (zI 7 rfl (zQ (pV 0 rfl) 1 j 0 (fun _ => rfl) rfl rfl (by omega) rfl rfl (zI 12 rfl (zF (pV 0 rfl) 1 i rfl rfl rfl (by omega) rfl (zI 13 rfl (zS 0 i (zH q j) rfl (fun _ => rfl) rfl (by omega) rfl rfl rfl (by omega) (zI 14 rfl ?_))))))))
       refine zF (pV 0 rfl) 1 j rfl rfl rfl (by simp only [List.length_set]; omega) rfl (zI 15 rfl (zS 0 j (zH q i) rfl (fun _ => rfl) rfl (by omega) rfl rfl rfl (by simp only [List.length_set]; omega) (zE [] rfl (by decide) (fun w' hw hS => zM ?_))))
       exact ⟨yM q i j, ⟨rfl, rfl, rfl, rfl, trivial⟩, rfl, hw⟩
    ·
     refine zU 10 rfl hw (zF (pV 0 rfl) 1 i rfl rfl rfl (by omega) rfl (zE [] rfl (by decide) (fun w' hw hS => za 6 11 ?_ ?_)))
     ·
      refine zU 6 rfl hw (zF (pV 0 rfl) 1 j rfl rfl rfl (by omega) rfl (zE [] rfl (by decide) (fun w' hw hS => za 7 11 ?_ ?_)))
      ·
       refine zU 7 rfl hw (zQ (pV 0 rfl) 1 j 0 (fun _ => rfl) rfl rfl (by omega) rfl rfl (zI 11 rfl (zQ (pV 0 rfl) 1 i 0 (fun _ => rfl) rfl rfl (by omega) rfl rfl (zI 12 rfl (zF (pV 0 rfl) 1 i rfl rfl rfl (by omega) rfl (zI 13 rfl (zS 0 i (zH q j) rfl (fun _ => rfl) rfl (by omega) rfl rfl rfl (by omega) (zI 14 rfl ?_))))))))
       refine zF (pV 0 rfl) 1 j rfl rfl rfl (by simp only [List.length_set]; omega) rfl (zI 15 rfl (zS 0 j (zH q i) rfl (fun _ => rfl) rfl (by omega) rfl rfl rfl (by simp only [List.length_set]; omega) (zE [] rfl (by decide) (fun w' hw hS => zM ?_))))
       exact ⟨yM q i j, ⟨rfl, rfl, rfl, rfl, trivial⟩, rfl, hw⟩
      ·
       refine zU 11 rfl hw (zQ (pV 0 rfl) 1 i 0 (fun _ => rfl) rfl rfl (by omega) rfl rfl (zI 7 rfl (zQ (pV 0 rfl) 1 j 0 (fun _ => rfl) rfl rfl (by omega) rfl rfl (zI 12 rfl (zF (pV 0 rfl) 1 i rfl rfl rfl (by omega) rfl (zI 13 rfl (zS 0 i (zH q j) rfl (fun _ => rfl) rfl (by omega) rfl rfl rfl (by omega) (zI 14 rfl ?_))))))))
       refine zF (pV 0 rfl) 1 j rfl rfl rfl (by simp only [List.length_set]; omega) rfl (zI 15 rfl (zS 0 j (zH q i) rfl (fun _ => rfl) rfl (by omega) rfl rfl rfl (by simp only [List.length_set]; omega) (zE [] rfl (by decide) (fun w' hw hS => zM ?_))))
       exact ⟨yM q i j, ⟨rfl, rfl, rfl, rfl, trivial⟩, rfl, hw⟩
     ·
      refine zU 11 rfl hw (zQ (pV 0 rfl) 1 i 0 (fun _ => rfl) rfl rfl (by omega) rfl rfl (zI 6 rfl (zF (pV 0 rfl) 1 j rfl rfl rfl (by omega) rfl (zI 7 rfl (zQ (pV 0 rfl) 1 j 0 (fun _ => rfl) rfl rfl (by omega) rfl rfl (zI 12 rfl (zF (pV 0 rfl) 1 i rfl rfl rfl (by omega) rfl (zI 13 rfl ?_))))))))
      refine zS 0 i (zH q j) rfl (fun _ => rfl) rfl (by omega) rfl rfl rfl (by omega) (zI 14 rfl (zF (pV 0 rfl) 1 j rfl rfl rfl (by simp only [List.length_set]; omega) rfl (zI 15 rfl (zS 0 j (zH q i) rfl (fun _ => rfl) rfl (by omega) rfl rfl rfl (by simp only [List.length_set]; omega) (zE [] rfl (by decide) (fun w' hw hS => zM ?_))))))
      exact ⟨yM q i j, ⟨rfl, rfl, rfl, rfl, trivial⟩, rfl, hw⟩
   have hn := hΦ
   have hij : i < j := (by have h1 := hlt (by omega); have h2 := hge (by omega); rcases Nat.lt_or_ge i j with h | h; exact h; rw [show i = j by omega] at h2; exact absurd h1 h2)
   have hsw := zCO hLo2 hHi2 hij (by omega) (by omega) (by omega) (hge (by omega)) (hlt (by omega))
   refine zB (zC rfl (zn rfl rfl (zh (by omega)) rfl (zG rfl (zA (zB (zC rfl (yJ (c := ((j - 1 : Nat) : Int)) rfl rfl (xi (by omega) (by omega)) rfl (zG rfl (zA (zK (zW ?_)))))))))))
   refine jH (fun (i j : Nat) (q : List Nat) => [(0, v), (1, Vj a), (10, Vj i), (11, Vj j)]) (fun (i j : Nat) (q : List Nat) => ((a + 1 ≤ i ∧ i ≤ j + 1) ∧ j < b) ∧ Same a b l q ∧ Lo a i q ∧ Hi a j b q) (fun (i j : Nat) (q : List Nat) => [Res.vec 32 1 v q.length (q.flatMap U1)]) (fun (i j : Nat) (q : List Nat) => j + 1 - i) (fun w' hw => ⟨i + 1, j - 1, n, ⟨rfl, rfl, rfl, rfl, trivial⟩, ⟨⟨⟨by omega, by omega⟩, by omega⟩, (by rw [hn]; exact hSq.then_swp ⟨by omega, by omega⟩ ⟨by omega, by omega⟩ hb), (by rw [hn]; exact hsw.1), (by rw [hn]; exact hsw.2)⟩, hw⟩) (fun i j q g hΦ => ?_)
   have hij3 := hΦ.1
   have hS3 := hΦ.2.1
   have hL3 := hΦ.2.2.1
   have hH3 := hΦ.2.2.2
   have hq3 := hS3.len
   refine zW (yh (fun (i2 : Nat) => [(0, v), (1, Vj a), (10, Vj i2), (11, Vj j)]) (fun (i2 : Nat) => (i ≤ i2 ∧ i2 ≤ j + 1) ∧ Lo a i2 q ∧ (i2 ≤ j → x0 (zH q a) (zH q i2))) (fun (i2 : Nat) => [Res.vec 32 1 v q.length (q.flatMap U1)]) ?_ (fun i2 g hΦ => ?_))
   ·
    refine zW ?_
    refine xD (fun (i2 : Nat) => [(0, v), (1, Vj a), (10, Vj i2), (11, Vj j)]) (fun (i2 : Nat) => (i ≤ i2 ∧ i2 ≤ j + 1) ∧ Lo a i2 q) (fun (i2 : Nat) => [Res.vec 32 1 v q.length (q.flatMap U1)]) (fun (i2 : Nat) => j + 1 - i2) (fun w' hw => ⟨i, ⟨rfl, rfl, rfl, rfl, trivial⟩, ⟨⟨by omega, by omega⟩, hL3⟩, hw⟩) (fun i2 g hΦ => ?_)
    have hi4 := hΦ.1
    have hL4 := hΦ.2
    refine zK (zK (zZ [0] rfl (by decide) (by kernel_rfl) (fun w' hw hS => zD 0 rfl (zL) hS (zD 1 rfl (zL) hS (zD 2 rfl (zBE rfl rfl) hS (zD 3 rfl (zL) hS ?_))))))
    by_cases g13_3 : ((i2 : Nat) : Int) ≤ ((j : Nat) : Int)
    ·
     refine zp 4 rfl rfl (gT g13_3) (zL) hS (zp 5 rfl rfl (gT g13_3) (zL) hS (zp 6 rfl rfl (gT g13_3) (yA (pV 0 rfl) 1 i2 rfl rfl rfl (by omega)) hS (zp 7 rfl rfl (gT g13_3) (yX (pV 0 rfl) 1 i2 0 (fun _ => rfl) rfl rfl (by omega) rfl) hS (zp 8 rfl rfl (gT g13_3) (zL) hS (zp 9 rfl rfl (gT g13_3) (zL) hS (zp 10 rfl rfl (gT g13_3) (yA (pV 0 rfl) 1 a rfl rfl rfl (by omega)) hS (zp 11 rfl rfl (gT g13_3) (yX (pV 0 rfl) 1 a 0 (fun _ => rfl) rfl rfl (by omega) rfl) hS (zX 12 rfl hw (zR rfl (gT g13_3) (zP rfl rfl (fun w' hw => (xg (zH q i2) (zH q a) w').mono ?_)))))))))))
     rintro _ w1 ⟨rfl, hO⟩
     refine (?_ : CL _ _ _ _ _ _ (Own w S [Res.vec 32 1 v q.length (q.flatMap U1)])) w1 (hw.frame0 hO)
     refine zE [0] rfl (by decide) (fun w' hw hS => zD 13 rfl (xv (gT g13_3)) hS (zM ?_))
     refine (?_ : C _ _ _ _ _ _ _ (Own w S [Res.vec 32 1 v q.length (q.flatMap U1)])) _ hw
     refine zT rfl (fun c6 => ?_) (fun c6 => ?_)
     ·
      refine zJ (zW (zY (zC rfl (zn rfl rfl (zh (by omega)) rfl (zG rfl ?_)))))
      exact zd (fun w' hw => ⟨i2 + 1, ⟨rfl, rfl, rfl, rfl, trivial⟩, ⟨⟨by omega, by omega⟩, hL4.step c6⟩, hw, (by omega)⟩)
     ·
      exact yv rfl (fun w' hw => ⟨i2, ⟨rfl, rfl, rfl, rfl, trivial⟩, ⟨hi4, hL4, fun _ => c6⟩, hw⟩)
    ·
     refine zk 4 rfl rfl (gF g13_3) rfl hS (zk 5 rfl rfl (gF g13_3) rfl hS (zk 6 rfl rfl (gF g13_3) rfl hS (zk 7 rfl rfl (gF g13_3) rfl hS (zk 8 rfl rfl (gF g13_3) rfl hS (zk 9 rfl rfl (gF g13_3) rfl hS (zk 10 rfl rfl (gF g13_3) rfl hS (zk 11 rfl rfl (gF g13_3) rfl hS (zk 12 rfl rfl (gF g13_3) rfl hS (zD 13 rfl (xw (gF g13_3)) hS (zM ?_))))))))))
     refine (?_ : C _ _ _ _ _ _ _ (Own w S [Res.vec 32 1 v q.length (q.flatMap U1)])) _ hw
     refine xy rfl ?_
     exact yv rfl (fun w' hw => ⟨i2, ⟨rfl, rfl, rfl, rfl, trivial⟩, ⟨hi4, hL4, fun h => absurd h (by omega)⟩, hw⟩)
   have hi5 := hΦ.1
   have hL5 := hΦ.2.1
   have hge5 := hΦ.2.2
   refine yh (fun (j2 : Nat) => [(0, v), (1, Vj a), (10, Vj i2), (11, Vj j2)]) (fun (j2 : Nat) => (i2 ≤ j2 + 1 ∧ j2 ≤ j) ∧ Hi a j2 b q ∧ (i2 ≤ j2 → olt (zH q j2) (zH q a))) (fun (j2 : Nat) => [Res.vec 32 1 v q.length (q.flatMap U1)]) ?_ (fun j2 g hΦ => ?_)
   ·
    refine zW ?_
    refine xD (fun (j2 : Nat) => [(0, v), (1, Vj a), (10, Vj i2), (11, Vj j2)]) (fun (j2 : Nat) => (i2 ≤ j2 + 1 ∧ j2 ≤ j) ∧ Hi a j2 b q) (fun (j2 : Nat) => [Res.vec 32 1 v q.length (q.flatMap U1)]) (fun (j2 : Nat) => j2) (fun w' hw => ⟨j, ⟨rfl, rfl, rfl, rfl, trivial⟩, ⟨⟨by omega, by omega⟩, hH3⟩, hw⟩) (fun j2 g hΦ => ?_)
    have hj6 := hΦ.1
    have hH6 := hΦ.2
    refine zK (zK (zZ [0] rfl (by decide) (by kernel_rfl) (fun w' hw hS => zD 0 rfl (zL) hS (zD 1 rfl (zL) hS (zD 2 rfl (zBE rfl rfl) hS (zD 3 rfl (zL) hS ?_))))))
    by_cases g15_3 : ((i2 : Nat) : Int) ≤ ((j2 : Nat) : Int)
    ·
     refine zp 4 rfl rfl (gT g15_3) (zL) hS (zp 5 rfl rfl (gT g15_3) (zL) hS (zp 6 rfl rfl (gT g15_3) (yA (pV 0 rfl) 1 j2 rfl rfl rfl (by omega)) hS (zp 7 rfl rfl (gT g15_3) (yX (pV 0 rfl) 1 j2 0 (fun _ => rfl) rfl rfl (by omega) rfl) hS (zp 8 rfl rfl (gT g15_3) (zL) hS (zp 9 rfl rfl (gT g15_3) (zL) hS (zp 10 rfl rfl (gT g15_3) (yA (pV 0 rfl) 1 a rfl rfl rfl (by omega)) hS (zp 11 rfl rfl (gT g15_3) (yX (pV 0 rfl) 1 a 0 (fun _ => rfl) rfl rfl (by omega) rfl) hS (zX 12 rfl hw (zR rfl (gT g15_3) (zP rfl rfl (fun w' hw => (xg (zH q j2) (zH q a) w').mono ?_)))))))))))
     rintro _ w1 ⟨rfl, hO⟩
     refine (?_ : CL _ _ _ _ _ _ (Own w S [Res.vec 32 1 v q.length (q.flatMap U1)])) w1 (hw.frame0 hO)
     refine zE [0] rfl (by decide) (fun w' hw hS => zp 13 rfl rfl (gT g15_3) (jX (q := olt (zH q j2) (zH q a)) rfl) hS (zD 14 rfl (xv (gT g15_3)) hS (zM ?_)))
     refine (?_ : C _ _ _ _ _ _ _ (Own w S [Res.vec 32 1 v q.length (q.flatMap U1)])) _ hw
     refine zT rfl (fun c8 => ?_) (fun c8 => ?_)
     ·
      refine zJ (zW (zY (zC rfl (yJ (c := ((j2 - 1 : Nat) : Int)) rfl rfl (xi (by omega) (by omega)) rfl (zG rfl ?_)))))
      exact zd (fun w' hw => ⟨j2 - 1, ⟨rfl, rfl, rfl, rfl, trivial⟩, ⟨⟨by omega, by omega⟩, hH6.step c8⟩, hw, (by omega)⟩)
     ·
      exact yv rfl (fun w' hw => ⟨j2, ⟨rfl, rfl, rfl, rfl, trivial⟩, ⟨hj6, hH6, fun _ => Decidable.not_not.1 c8⟩, hw⟩)
    ·
     refine zk 4 rfl rfl (gF g15_3) rfl hS (zk 5 rfl rfl (gF g15_3) rfl hS (zk 6 rfl rfl (gF g15_3) rfl hS (zk 7 rfl rfl (gF g15_3) rfl hS (zk 8 rfl rfl (gF g15_3) rfl hS (zk 9 rfl rfl (gF g15_3) rfl hS (zk 10 rfl rfl (gF g15_3) rfl hS (zk 11 rfl rfl (gF g15_3) rfl hS (zk 12 rfl rfl (gF g15_3) rfl hS (zk 13 rfl rfl (gF g15_3) rfl hS (zD 14 rfl (xw (gF g15_3)) hS (zM ?_)))))))))))
     refine (?_ : C _ _ _ _ _ _ _ (Own w S [Res.vec 32 1 v q.length (q.flatMap U1)])) _ hw
     refine xy rfl ?_
     exact yv rfl (fun w' hw => ⟨j2, ⟨rfl, rfl, rfl, rfl, trivial⟩, ⟨hj6, hH6, fun h => absurd h (by omega)⟩, hw⟩)
   have hj7 := hΦ.1
   have hH7 := hΦ.2.1
   have hlt7 := hΦ.2.2
   refine zK (zB (zC rfl (zC rfl (xJ rfl rfl rfl (zA (zT rfl (fun c10 => ?_) (fun c10 => ?_)))))))
   ·
    refine z8 rfl (yh (fun (n : List Nat) => [(11, Vj j2)]) (fun (n : List Nat) => n = yM q j2 a) (fun (n : List Nat) => [Res.vec 32 1 v n.length (n.flatMap U1)]) ?_ (fun n g hΦ => ?_))
    ·
     refine zZ [] rfl (by decide) (by kernel_rfl) (fun w' hw hS => zD 0 rfl (zL) hS (zD 1 rfl (zL) hS (zD 2 rfl (zL) hS (zD 3 rfl (zL) hS (zD 4 rfl (zL) hS (zD 5 rfl (zL) hS (zD 8 rfl (zL) hS (zD 9 rfl (zL) hS (za 6 10 ?_ ?_)))))))))
     ·
      refine zU 6 rfl hw (zF (pV 0 rfl) 1 a rfl rfl rfl (by omega) rfl (zE [] rfl (by decide) (fun w' hw hS => za 7 10 ?_ ?_)))
      ·
       refine zU 7 rfl hw (zQ (pV 0 rfl) 1 a 0 (fun _ => rfl) rfl rfl (by omega) rfl rfl (zI 10 rfl (zF (pV 0 rfl) 1 j2 rfl rfl rfl (by omega) rfl (zI 11 rfl (zQ (pV 0 rfl) 1 j2 0 (fun _ => rfl) rfl rfl (by omega) rfl rfl (zI 12 rfl (zF (pV 0 rfl) 1 j2 rfl rfl rfl (by omega) rfl (zI 13 rfl ?_))))))))
       refine zS 0 j2 (zH q a) rfl (fun _ => rfl) rfl (by omega) rfl rfl rfl (by omega) (zI 14 rfl (zF (pV 0 rfl) 1 a rfl rfl rfl (by simp only [List.length_set]; omega) rfl (zI 15 rfl (zS 0 a (zH q j2) rfl (fun _ => rfl) rfl (by omega) rfl rfl rfl (by simp only [List.length_set]; omega) (zE [] rfl (by decide) (fun w' hw hS => zM ?_))))))
       exact ⟨yM q j2 a, ⟨rfl, trivial⟩, rfl, hw⟩
      ·
       refine zU 10 rfl hw (zF (pV 0 rfl) 1 j2 rfl rfl rfl (by omega) rfl (zE [] rfl (by decide) (fun w' hw hS => za 7 11 ?_ ?_)))
       ·
        refine zU 7 rfl hw (zQ (pV 0 rfl) 1 a 0 (fun _ => rfl) rfl rfl (by omega) rfl rfl (zI 11 rfl (zQ (pV 0 rfl) 1 j2 0 (fun _ => rfl) rfl rfl (by omega) rfl rfl (zI 12 rfl (zF (pV 0 rfl) 1 j2 rfl rfl rfl (by omega) rfl (zI 13 rfl (zS 0 j2 (zH q a) rfl (fun _ => rfl) rfl (by omega) rfl rfl rfl (by omega) (zI 14 rfl ?_))))))))
        refine zF (pV 0 rfl) 1 a rfl rfl rfl (by simp only [List.length_set]; omega) rfl (zI 15 rfl (zS 0 a (zH q j2) rfl (fun _ => rfl) rfl (by omega) rfl rfl rfl (by simp only [List.length_set]; omega) (zE [] rfl (by decide) (fun w' hw hS => zM ?_))))
        exact ⟨yM q j2 a, ⟨rfl, trivial⟩, rfl, hw⟩
       ·
        refine zU 11 rfl hw (zQ (pV 0 rfl) 1 j2 0 (fun _ => rfl) rfl rfl (by omega) rfl rfl (zI 7 rfl (zQ (pV 0 rfl) 1 a 0 (fun _ => rfl) rfl rfl (by omega) rfl rfl (zI 12 rfl (zF (pV 0 rfl) 1 j2 rfl rfl rfl (by omega) rfl (zI 13 rfl (zS 0 j2 (zH q a) rfl (fun _ => rfl) rfl (by omega) rfl rfl rfl (by omega) (zI 14 rfl ?_))))))))
        refine zF (pV 0 rfl) 1 a rfl rfl rfl (by simp only [List.length_set]; omega) rfl (zI 15 rfl (zS 0 a (zH q j2) rfl (fun _ => rfl) rfl (by omega) rfl rfl rfl (by simp only [List.length_set]; omega) (zE [] rfl (by decide) (fun w' hw hS => zM ?_))))
        exact ⟨yM q j2 a, ⟨rfl, trivial⟩, rfl, hw⟩
     ·
      refine zU 10 rfl hw (zF (pV 0 rfl) 1 j2 rfl rfl rfl (by omega) rfl (zE [] rfl (by decide) (fun w' hw hS => za 6 11 ?_ ?_)))
      ·
       refine zU 6 rfl hw (zF (pV 0 rfl) 1 a rfl rfl rfl (by omega) rfl (zE [] rfl (by decide) (fun w' hw hS => za 7 11 ?_ ?_)))
       ·
        refine zU 7 rfl hw (zQ (pV 0 rfl) 1 a 0 (fun _ => rfl) rfl rfl (by omega) rfl rfl (zI 11 rfl (zQ (pV 0 rfl) 1 j2 0 (fun _ => rfl) rfl rfl (by omega) rfl rfl (zI 12 rfl (zF (pV 0 rfl) 1 j2 rfl rfl rfl (by omega) rfl (zI 13 rfl (zS 0 j2 (zH q a) rfl (fun _ => rfl) rfl (by omega) rfl rfl rfl (by omega) (zI 14 rfl ?_))))))))
        refine zF (pV 0 rfl) 1 a rfl rfl rfl (by simp only [List.length_set]; omega) rfl (zI 15 rfl (zS 0 a (zH q j2) rfl (fun _ => rfl) rfl (by omega) rfl rfl rfl (by simp only [List.length_set]; omega) (zE [] rfl (by decide) (fun w' hw hS => zM ?_))))
        exact ⟨yM q j2 a, ⟨rfl, trivial⟩, rfl, hw⟩
       ·
        refine zU 11 rfl hw (zQ (pV 0 rfl) 1 j2 0 (fun _ => rfl) rfl rfl (by omega) rfl rfl (zI 7 rfl (zQ (pV 0 rfl) 1 a 0 (fun _ => rfl) rfl rfl (by omega) rfl rfl (zI 12 rfl (zF (pV 0 rfl) 1 j2 rfl rfl rfl (by omega) rfl (zI 13 rfl (zS 0 j2 (zH q a) rfl (fun _ => rfl) rfl (by omega) rfl rfl rfl (by omega) (zI 14 rfl ?_))))))))
        refine zF (pV 0 rfl) 1 a rfl rfl rfl (by simp only [List.length_set]; omega) rfl (zI 15 rfl (zS 0 a (zH q j2) rfl (fun _ => rfl) rfl (by omega) rfl rfl rfl (by simp only [List.length_set]; omega) (zE [] rfl (by decide) (fun w' hw hS => zM ?_))))
        exact ⟨yM q j2 a, ⟨rfl, trivial⟩, rfl, hw⟩
      ·
       refine zU 11 rfl hw (zQ (pV 0 rfl) 1 j2 0 (fun _ => rfl) rfl rfl (by omega) rfl rfl (zI 6 rfl (zF (pV 0 rfl) 1 a rfl rfl rfl (by omega) rfl (zI 7 rfl (zQ (pV 0 rfl) 1 a 0 (fun _ => rfl) rfl rfl (by omega) rfl rfl (zI 12 rfl (zF (pV 0 rfl) 1 j2 rfl rfl rfl (by omega) rfl (zI 13 rfl ?_))))))))
       refine zS 0 j2 (zH q a) rfl (fun _ => rfl) rfl (by omega) rfl rfl rfl (by omega) (zI 14 rfl (zF (pV 0 rfl) 1 a rfl rfl rfl (by simp only [List.length_set]; omega) rfl (zI 15 rfl (zS 0 a (zH q j2) rfl (fun _ => rfl) rfl (by omega) rfl rfl rfl (by simp only [List.length_set]; omega) (zE [] rfl (by decide) (fun w' hw hS => zM ?_))))))
       exact ⟨yM q j2 a, ⟨rfl, trivial⟩, rfl, hw⟩
    have hn := hΦ
    refine zB (zC rfl (zG rfl (zG rfl (zA ?_))))
    exact zN (yi (v := Vj j2) (v' := .bool false) rfl rfl rfl (fun w' hw => ⟨n, j2, false, rfl, (by rw [hn]; exact hS3.then_swp ⟨by omega, by omega⟩ ⟨by omega, by omega⟩ hb), ⟨by omega, by omega⟩, (by rw [hn]; exact zDo (by rw [show j2 + 1 = i2 by omega]; exact hL5) hH7 (by omega) (by omega) (by omega)), hw⟩))
   ·
    refine zJ (yh (fun (n : List Nat) => [(0, v), (1, Vj a), (10, Vj i2), (11, Vj j2)]) (fun (n : List Nat) => n = yM q i2 j2) (fun (n : List Nat) => [Res.vec 32 1 v n.length (n.flatMap U1)]) ?_ (fun n g hΦ => ?_))
    ·
     refine zZ [] rfl (by decide) (by kernel_rfl) (fun w' hw hS => zD 0 rfl (zL) hS (zD 1 rfl (zL) hS (zD 2 rfl (zL) hS (zD 3 rfl (zL) hS (zD 4 rfl (zL) hS (zD 5 rfl (zL) hS (zD 8 rfl (zL) hS (zD 9 rfl (zL) hS (za 6 10 ?_ ?_)))))))))
     ·
      refine zU 6 rfl hw (zF (pV 0 rfl) 1 j2 rfl rfl rfl (by omega) rfl (zE [] rfl (by decide) (fun w' hw hS => za 7 10 ?_ ?_)))
      ·
       refine zU 7 rfl hw (zQ (pV 0 rfl) 1 j2 0 (fun _ => rfl) rfl rfl (by omega) rfl rfl (zI 10 rfl (zF (pV 0 rfl) 1 i2 rfl rfl rfl (by omega) rfl (zI 11 rfl (zQ (pV 0 rfl) 1 i2 0 (fun _ => rfl) rfl rfl (by omega) rfl rfl (zI 12 rfl (zF (pV 0 rfl) 1 i2 rfl rfl rfl (by omega) rfl (zI 13 rfl ?_))))))))
       refine zS 0 i2 (zH q j2) rfl (fun _ => rfl) rfl (by omega) rfl rfl rfl (by omega) (zI 14 rfl (zF (pV 0 rfl) 1 j2 rfl rfl rfl (by simp only [List.length_set]; omega) rfl (zI 15 rfl (zS 0 j2 (zH q i2) rfl (fun _ => rfl) rfl (by omega) rfl rfl rfl (by simp only [List.length_set]; omega) (zE [] rfl (by decide) (fun w' hw hS => zM ?_))))))
       exact ⟨yM q i2 j2, ⟨rfl, rfl, rfl, rfl, trivial⟩, rfl, hw⟩
      ·
       refine zU 10 rfl hw (zF (pV 0 rfl) 1 i2 rfl rfl rfl (by omega) rfl (zE [] rfl (by decide) (fun w' hw hS => za 7 11 ?_ ?_)))
       ·
        refine zU 7 rfl hw (zQ (pV 0 rfl) 1 j2 0 (fun _ => rfl) rfl rfl (by omega) rfl rfl (zI 11 rfl (zQ (pV 0 rfl) 1 i2 0 (fun _ => rfl) rfl rfl (by omega) rfl rfl (zI 12 rfl (zF (pV 0 rfl) 1 i2 rfl rfl rfl (by omega) rfl (zI 13 rfl (zS 0 i2 (zH q j2) rfl (fun _ => rfl) rfl (by omega) rfl rfl rfl (by omega) (zI 14 rfl ?_))))))))
        refine zF (pV 0 rfl) 1 j2 rfl rfl rfl (by simp only [List.length_set]; omega) rfl (zI 15 rfl (zS 0 j2 (zH q i2) rfl (fun _ => rfl) rfl (by omega) rfl rfl rfl (by simp only [List.length_set]; omega) (zE [] rfl (by decide) (fun w' hw hS => zM ?_))))
        exact ⟨yM q i2 j2, ⟨rfl, rfl, rfl, rfl, trivial⟩, rfl, hw⟩
       ·
        refine zU 11 rfl hw (zQ (pV 0 rfl) 1 i2 0 (fun _ => rfl) rfl rfl (by omega) rfl rfl (zI 7 rfl (zQ (pV 0 rfl) 1 j2 0 (fun _ => rfl) rfl rfl (by omega) rfl rfl (zI 12 rfl (zF (pV 0 rfl) 1 i2 rfl rfl rfl (by omega) rfl (zI 13 rfl (zS 0 i2 (zH q j2) rfl (fun _ => rfl) rfl (by omega) rfl rfl rfl (by omega) (zI 14 rfl ?_))))))))
        refine zF (pV 0 rfl) 1 j2 rfl rfl rfl (by simp only [List.length_set]; omega) rfl (zI 15 rfl (zS 0 j2 (zH q i2) rfl (fun _ => rfl) rfl (by omega) rfl rfl rfl (by simp only [List.length_set]; omega) (zE [] rfl (by decide) (fun w' hw hS => zM ?_))))
        exact ⟨yM q i2 j2, ⟨rfl, rfl, rfl, rfl, trivial⟩, rfl, hw⟩
     ·
      refine zU 10 rfl hw (zF (pV 0 rfl) 1 i2 rfl rfl rfl (by omega) rfl (zE [] rfl (by decide) (fun w' hw hS => za 6 11 ?_ ?_)))
      ·
       refine zU 6 rfl hw (zF (pV 0 rfl) 1 j2 rfl rfl rfl (by omega) rfl (zE [] rfl (by decide) (fun w' hw hS => za 7 11 ?_ ?_)))
       ·
        refine zU 7 rfl hw (zQ (pV 0 rfl) 1 j2 0 (fun _ => rfl) rfl rfl (by omega) rfl rfl (zI 11 rfl (zQ (pV 0 rfl) 1 i2 0 (fun _ => rfl) rfl rfl (by omega) rfl rfl (zI 12 rfl (zF (pV 0 rfl) 1 i2 rfl rfl rfl (by omega) rfl (zI 13 rfl (zS 0 i2 (zH q j2) rfl (fun _ => rfl) rfl (by omega) rfl rfl rfl (by omega) (zI 14 rfl ?_))))))))
        refine zF (pV 0 rfl) 1 j2 rfl rfl rfl (by simp only [List.length_set]; omega) rfl (zI 15 rfl (zS 0 j2 (zH q i2) rfl (fun _ => rfl) rfl (by omega) rfl rfl rfl (by simp only [List.length_set]; omega) (zE [] rfl (by decide) (fun w' hw hS => zM ?_))))
        exact ⟨yM q i2 j2, ⟨rfl, rfl, rfl, rfl, trivial⟩, rfl, hw⟩
       ·
        refine zU 11 rfl hw (zQ (pV 0 rfl) 1 i2 0 (fun _ => rfl) rfl rfl (by omega) rfl rfl (zI 7 rfl (zQ (pV 0 rfl) 1 j2 0 (fun _ => rfl) rfl rfl (by omega) rfl rfl (zI 12 rfl (zF (pV 0 rfl) 1 i2 rfl rfl rfl (by omega) rfl (zI 13 rfl (zS 0 i2 (zH q j2) rfl (fun _ => rfl) rfl (by omega) rfl rfl rfl (by omega) (zI 14 rfl ?_))))))))
        refine zF (pV 0 rfl) 1 j2 rfl rfl rfl (by simp only [List.length_set]; omega) rfl (zI 15 rfl (zS 0 j2 (zH q i2) rfl (fun _ => rfl) rfl (by omega) rfl rfl rfl (by simp only [List.length_set]; omega) (zE [] rfl (by decide) (fun w' hw hS => zM ?_))))
        exact ⟨yM q i2 j2, ⟨rfl, rfl, rfl, rfl, trivial⟩, rfl, hw⟩
      ·
       refine zU 11 rfl hw (zQ (pV 0 rfl) 1 i2 0 (fun _ => rfl) rfl rfl (by omega) rfl rfl (zI 6 rfl (zF (pV 0 rfl) 1 j2 rfl rfl rfl (by omega) rfl (zI 7 rfl (zQ (pV 0 rfl) 1 j2 0 (fun _ => rfl) rfl rfl (by omega) rfl rfl (zI 12 rfl (zF (pV 0 rfl) 1 i2 rfl rfl rfl (by omega) rfl (zI 13 rfl ?_))))))))
       refine zS 0 i2 (zH q j2) rfl (fun _ => rfl) rfl (by omega) rfl rfl rfl (by omega) (zI 14 rfl (zF (pV 0 rfl) 1 j2 rfl rfl rfl (by simp only [List.length_set]; omega) rfl (zI 15 rfl (zS 0 j2 (zH q i2) rfl (fun _ => rfl) rfl (by omega) rfl rfl rfl (by simp only [List.length_set]; omega) (zE [] rfl (by decide) (fun w' hw hS => zM ?_))))))
       exact ⟨yM q i2 j2, ⟨rfl, rfl, rfl, rfl, trivial⟩, rfl, hw⟩
    have hn := hΦ
    have hij : i2 < j2 := (by have h1 := hlt7 (by omega); have h2 := hge5 (by omega); rcases Nat.lt_or_ge i2 j2 with h | h; exact h; rw [show i2 = j2 by omega] at h2; first | exact absurd h1 h2 | exact absurd h2 h1)
    have hsw := zCO hL5 hH7 hij (by omega) (by omega) (by omega) (hge5 (by omega)) (hlt7 (by omega))
    refine zB (zC rfl (zn rfl rfl (zh (by omega)) rfl (zG rfl (zA (zY (zC rfl (yJ (c := ((j2 - 1 : Nat) : Int)) rfl rfl (xi (by omega) (by omega)) rfl (zG rfl ?_))))))))
    exact zd (fun w' hw => ⟨i2 + 1, j2 - 1, n, ⟨rfl, rfl, rfl, rfl, trivial⟩, ⟨⟨⟨by omega, by omega⟩, by omega⟩, (by rw [hn]; exact hS3.then_swp ⟨by omega, by omega⟩ ⟨by omega, by omega⟩ hb), (by rw [hn]; exact hsw.1), (by rw [hn]; exact hsw.2)⟩, hw, (by omega)⟩)
theorem zGT {S : List Nat} (v : Value) (l : List Nat) (a b p : Nat) (w : World) (ha : a ≤ p ∧ p < b) (hb : b ≤ l.length) (hl : z6 l.length) (hin : Own w S [Res.vec 32 1 v l.length (l.flatMap U1)] w) : Rets Tryz.prog 85 #[v, Vj a, Vj b, Vj p] w fun u_ w' => ∃ (l' : List Nat) (m : Nat), u_ = Vj m ∧ Same a b l l' ∧ (a + 1 ≤ m ∧ m ≤ b) ∧ Eqs a m b (zH l p) l' ∧ Own w S [Res.vec 32 1 v l'.length (l'.flatMap U1)] w' := by
  refine ze Tryz.func85 rfl Tryz.ntmps85 hin ?_
  refine zB (zG rfl (zA (yh (fun (q : List Nat) => [(0, v), (1, Vj a), (2, Vj b)]) (fun (q : List Nat) => Same a b l q ∧ zH q a = zH l p) (fun (q : List Nat) => [Res.vec 32 1 v q.length (q.flatMap U1)]) ?_ (fun q g hΦ => ?_))))
  ·
   refine zZ [] rfl (by decide) (by kernel_rfl) (fun w' hw hS => zD 0 rfl (zL) hS (zD 1 rfl (zL) hS (zD 2 rfl (zL) hS (zD 3 rfl (zL) hS (zD 4 rfl (zL) hS (zD 5 rfl (zL) hS (zD 8 rfl (zL) hS (zD 9 rfl (zL) hS (za 6 10 ?_ ?_)))))))))
   ·
    refine zU 6 rfl hw (zF (pV 0 rfl) 1 p rfl rfl rfl (by omega) rfl (zE [] rfl (by decide) (fun w' hw hS => za 7 10 ?_ ?_)))
    ·
     refine zU 7 rfl hw (zQ (pV 0 rfl) 1 p 0 (fun _ => rfl) rfl rfl (by omega) rfl rfl (zI 10 rfl (zF (pV 0 rfl) 1 a rfl rfl rfl (by omega) rfl (zI 11 rfl (zQ (pV 0 rfl) 1 a 0 (fun _ => rfl) rfl rfl (by omega) rfl rfl (zI 12 rfl (zF (pV 0 rfl) 1 a rfl rfl rfl (by omega) rfl (zI 13 rfl ?_))))))))
     refine zS 0 a (zH l p) rfl (fun _ => rfl) rfl (by omega) rfl rfl rfl (by omega) (zI 14 rfl (zF (pV 0 rfl) 1 p rfl rfl rfl (by simp only [List.length_set]; omega) rfl (zI 15 rfl (zS 0 p (zH l a) rfl (fun _ => rfl) rfl (by omega) rfl rfl rfl (by simp only [List.length_set]; omega) (zE [] rfl (by decide) (fun w' hw hS => zM ?_))))))
     exact ⟨yM l a p, ⟨rfl, rfl, rfl, trivial⟩, ⟨Same.ex ⟨by omega, by omega⟩ ⟨by omega, by omega⟩ hb, kJ (by omega) (by omega)⟩, hw⟩
    ·
     refine zU 10 rfl hw (zF (pV 0 rfl) 1 a rfl rfl rfl (by omega) rfl (zE [] rfl (by decide) (fun w' hw hS => za 7 11 ?_ ?_)))
     ·
      refine zU 7 rfl hw (zQ (pV 0 rfl) 1 p 0 (fun _ => rfl) rfl rfl (by omega) rfl rfl (zI 11 rfl (zQ (pV 0 rfl) 1 a 0 (fun _ => rfl) rfl rfl (by omega) rfl rfl (zI 12 rfl (zF (pV 0 rfl) 1 a rfl rfl rfl (by omega) rfl (zI 13 rfl (zS 0 a (zH l p) rfl (fun _ => rfl) rfl (by omega) rfl rfl rfl (by omega) (zI 14 rfl ?_))))))))
      refine zF (pV 0 rfl) 1 p rfl rfl rfl (by simp only [List.length_set]; omega) rfl (zI 15 rfl (zS 0 p (zH l a) rfl (fun _ => rfl) rfl (by omega) rfl rfl rfl (by simp only [List.length_set]; omega) (zE [] rfl (by decide) (fun w' hw hS => zM ?_))))
      exact ⟨yM l a p, ⟨rfl, rfl, rfl, trivial⟩, ⟨Same.ex ⟨by omega, by omega⟩ ⟨by omega, by omega⟩ hb, kJ (by omega) (by omega)⟩, hw⟩
     ·
      refine zU 11 rfl hw (zQ (pV 0 rfl) 1 a 0 (fun _ => rfl) rfl rfl (by omega) rfl rfl (zI 7 rfl (zQ (pV 0 rfl) 1 p 0 (fun _ => rfl) rfl rfl (by omega) rfl rfl (zI 12 rfl (zF (pV 0 rfl) 1 a rfl rfl rfl (by omega) rfl (zI 13 rfl (zS 0 a (zH l p) rfl (fun _ => rfl) rfl (by omega) rfl rfl rfl (by omega) (zI 14 rfl ?_))))))))
      refine zF (pV 0 rfl) 1 p rfl rfl rfl (by simp only [List.length_set]; omega) rfl (zI 15 rfl (zS 0 p (zH l a) rfl (fun _ => rfl) rfl (by omega) rfl rfl rfl (by simp only [List.length_set]; omega) (zE [] rfl (by decide) (fun w' hw hS => zM ?_))))
      exact ⟨yM l a p, ⟨rfl, rfl, rfl, trivial⟩, ⟨Same.ex ⟨by omega, by omega⟩ ⟨by omega, by omega⟩ hb, kJ (by omega) (by omega)⟩, hw⟩
   ·
    refine zU 10 rfl hw (zF (pV 0 rfl) 1 a rfl rfl rfl (by omega) rfl (zE [] rfl (by decide) (fun w' hw hS => za 6 11 ?_ ?_)))
    ·
     refine zU 6 rfl hw (zF (pV 0 rfl) 1 p rfl rfl rfl (by omega) rfl (zE [] rfl (by decide) (fun w' hw hS => za 7 11 ?_ ?_)))
     ·
      refine zU 7 rfl hw (zQ (pV 0 rfl) 1 p 0 (fun _ => rfl) rfl rfl (by omega) rfl rfl (zI 11 rfl (zQ (pV 0 rfl) 1 a 0 (fun _ => rfl) rfl rfl (by omega) rfl rfl (zI 12 rfl (zF (pV 0 rfl) 1 a rfl rfl rfl (by omega) rfl (zI 13 rfl (zS 0 a (zH l p) rfl (fun _ => rfl) rfl (by omega) rfl rfl rfl (by omega) (zI 14 rfl ?_))))))))
      refine zF (pV 0 rfl) 1 p rfl rfl rfl (by simp only [List.length_set]; omega) rfl (zI 15 rfl (zS 0 p (zH l a) rfl (fun _ => rfl) rfl (by omega) rfl rfl rfl (by simp only [List.length_set]; omega) (zE [] rfl (by decide) (fun w' hw hS => zM ?_))))
      exact ⟨yM l a p, ⟨rfl, rfl, rfl, trivial⟩, ⟨Same.ex ⟨by omega, by omega⟩ ⟨by omega, by omega⟩ hb, kJ (by omega) (by omega)⟩, hw⟩
     ·
      refine zU 11 rfl hw (zQ (pV 0 rfl) 1 a 0 (fun _ => rfl) rfl rfl (by omega) rfl rfl (zI 7 rfl (zQ (pV 0 rfl) 1 p 0 (fun _ => rfl) rfl rfl (by omega) rfl rfl (zI 12 rfl (zF (pV 0 rfl) 1 a rfl rfl rfl (by omega) rfl (zI 13 rfl (zS 0 a (zH l p) rfl (fun _ => rfl) rfl (by omega) rfl rfl rfl (by omega) (zI 14 rfl ?_))))))))
      refine zF (pV 0 rfl) 1 p rfl rfl rfl (by simp only [List.length_set]; omega) rfl (zI 15 rfl (zS 0 p (zH l a) rfl (fun _ => rfl) rfl (by omega) rfl rfl rfl (by simp only [List.length_set]; omega) (zE [] rfl (by decide) (fun w' hw hS => zM ?_))))
      exact ⟨yM l a p, ⟨rfl, rfl, rfl, trivial⟩, ⟨Same.ex ⟨by omega, by omega⟩ ⟨by omega, by omega⟩ hb, kJ (by omega) (by omega)⟩, hw⟩
    ·
     refine zU 11 rfl hw (zQ (pV 0 rfl) 1 a 0 (fun _ => rfl) rfl rfl (by omega) rfl rfl (zI 6 rfl (zF (pV 0 rfl) 1 p rfl rfl rfl (by omega) rfl (zI 7 rfl (zQ (pV 0 rfl) 1 p 0 (fun _ => rfl) rfl rfl (by omega) rfl rfl (zI 12 rfl (zF (pV 0 rfl) 1 a rfl rfl rfl (by omega) rfl (zI 13 rfl ?_))))))))
     refine zS 0 a (zH l p) rfl (fun _ => rfl) rfl (by omega) rfl rfl rfl (by omega) (zI 14 rfl (zF (pV 0 rfl) 1 p rfl rfl rfl (by simp only [List.length_set]; omega) rfl (zI 15 rfl (zS 0 p (zH l a) rfl (fun _ => rfl) rfl (by omega) rfl rfl rfl (by simp only [List.length_set]; omega) (zE [] rfl (by decide) (fun w' hw hS => zM ?_))))))
     exact ⟨yM l a p, ⟨rfl, rfl, rfl, trivial⟩, ⟨Same.ex ⟨by omega, by omega⟩ ⟨by omega, by omega⟩ hb, kJ (by omega) (by omega)⟩, hw⟩
  have hql := hΦ.1.len
  have hSq := hΦ.1
  have hpv := hΦ.2
  refine zB (zC rfl (zn rfl rfl (zh (by omega)) rfl (zC rfl (yJ (c := ((b - 1 : Nat) : Int)) rfl rfl (xi (by omega) (by omega)) rfl (zG rfl (zG rfl (zA (zK (zW ?_)))))))))
  refine jH (fun (i j : Nat) (q : List Nat) => [(0, v), (1, Vj a), (9, Vj i), (10, Vj j)]) (fun (i j : Nat) (q : List Nat) => ((a + 1 ≤ i ∧ i ≤ j + 1) ∧ j < b) ∧ (Same a b l q ∧ zH q a = zH l p) ∧ Le a i q ∧ Gt a j b q) (fun (i j : Nat) (q : List Nat) => [Res.vec 32 1 v q.length (q.flatMap U1)]) (fun (i j : Nat) (q : List Nat) => j + 1 - i) (fun w' hw => ⟨a + 1, b - 1, q, ⟨rfl, rfl, rfl, rfl, trivial⟩, ⟨⟨⟨by omega, by omega⟩, by omega⟩, ⟨hSq, hpv⟩, fun k h1 h2 => by omega, fun k h1 h2 => by omega⟩, hw⟩) (fun i j q g hΦ => ?_)
  have hij3 := hΦ.1
  have hS3 := hΦ.2.1.1
  have hp3 := hΦ.2.1.2
  have hL3 := hΦ.2.2.1
  have hH3 := hΦ.2.2.2
  have hq3 := hS3.len
  refine zW (yh (fun (i2 : Nat) => [(0, v), (1, Vj a), (9, Vj i2), (10, Vj j)]) (fun (i2 : Nat) => (i ≤ i2 ∧ i2 ≤ j + 1) ∧ Le a i2 q ∧ (i2 ≤ j → olt (zH q a) (zH q i2))) (fun (i2 : Nat) => [Res.vec 32 1 v q.length (q.flatMap U1)]) ?_ (fun i2 g hΦ => ?_))
  ·
   refine zW ?_
   refine xD (fun (i2 : Nat) => [(0, v), (1, Vj a), (9, Vj i2), (10, Vj j)]) (fun (i2 : Nat) => (i ≤ i2 ∧ i2 ≤ j + 1) ∧ Le a i2 q) (fun (i2 : Nat) => [Res.vec 32 1 v q.length (q.flatMap U1)]) (fun (i2 : Nat) => j + 1 - i2) (fun w' hw => ⟨i, ⟨rfl, rfl, rfl, rfl, trivial⟩, ⟨⟨by omega, by omega⟩, hL3⟩, hw⟩) (fun i2 g hΦ => ?_)
   have hi4 := hΦ.1
   have hL4 := hΦ.2
   refine zK (zK (zZ [0] rfl (by decide) (by kernel_rfl) (fun w' hw hS => zD 0 rfl (zL) hS (zD 1 rfl (zL) hS (zD 2 rfl (zBE rfl rfl) hS (zD 3 rfl (zL) hS ?_))))))
   by_cases g3_3 : ((i2 : Nat) : Int) ≤ ((j : Nat) : Int)
   ·
    refine zp 4 rfl rfl (gT g3_3) (zL) hS (zp 5 rfl rfl (gT g3_3) (zL) hS (zp 6 rfl rfl (gT g3_3) (yA (pV 0 rfl) 1 a rfl rfl rfl (by omega)) hS (zp 7 rfl rfl (gT g3_3) (yX (pV 0 rfl) 1 a 0 (fun _ => rfl) rfl rfl (by omega) rfl) hS (zp 8 rfl rfl (gT g3_3) (zL) hS (zp 9 rfl rfl (gT g3_3) (zL) hS (zp 10 rfl rfl (gT g3_3) (yA (pV 0 rfl) 1 i2 rfl rfl rfl (by omega)) hS (zp 11 rfl rfl (gT g3_3) (yX (pV 0 rfl) 1 i2 0 (fun _ => rfl) rfl rfl (by omega) rfl) hS (zX 12 rfl hw (zR rfl (gT g3_3) (zP rfl rfl (fun w' hw => (xg (zH q a) (zH q i2) w').mono ?_)))))))))))
    rintro _ w1 ⟨rfl, hO⟩
    refine (?_ : CL _ _ _ _ _ _ (Own w S [Res.vec 32 1 v q.length (q.flatMap U1)])) w1 (hw.frame0 hO)
    refine zE [0] rfl (by decide) (fun w' hw hS => zp 13 rfl rfl (gT g3_3) (jX (q := olt (zH q a) (zH q i2)) rfl) hS (zD 14 rfl (xv (gT g3_3)) hS (zM ?_)))
    refine (?_ : C _ _ _ _ _ _ _ (Own w S [Res.vec 32 1 v q.length (q.flatMap U1)])) _ hw
    refine zT rfl (fun c1 => ?_) (fun c1 => ?_)
    ·
     refine zJ (zW (zY (zC rfl (zn rfl rfl (zh (by omega)) rfl (zG rfl ?_)))))
     exact zd (fun w' hw => ⟨i2 + 1, ⟨rfl, rfl, rfl, rfl, trivial⟩, ⟨⟨by omega, by omega⟩, hL4.step c1⟩, hw, (by omega)⟩)
    ·
     exact yv rfl (fun w' hw => ⟨i2, ⟨rfl, rfl, rfl, rfl, trivial⟩, ⟨hi4, hL4, fun _ => Decidable.not_not.1 c1⟩, hw⟩)
   ·
    refine zk 4 rfl rfl (gF g3_3) rfl hS (zk 5 rfl rfl (gF g3_3) rfl hS (zk 6 rfl rfl (gF g3_3) rfl hS (zk 7 rfl rfl (gF g3_3) rfl hS (zk 8 rfl rfl (gF g3_3) rfl hS (zk 9 rfl rfl (gF g3_3) rfl hS (zk 10 rfl rfl (gF g3_3) rfl hS (zk 11 rfl rfl (gF g3_3) rfl hS (zk 12 rfl rfl (gF g3_3) rfl hS (zk 13 rfl rfl (gF g3_3) rfl hS (zD 14 rfl (xw (gF g3_3)) hS (zM ?_)))))))))))
    refine (?_ : C _ _ _ _ _ _ _ (Own w S [Res.vec 32 1 v q.length (q.flatMap U1)])) _ hw
    refine xy rfl ?_
    exact yv rfl (fun w' hw => ⟨i2, ⟨rfl, rfl, rfl, rfl, trivial⟩, ⟨hi4, hL4, fun h => absurd h (by omega)⟩, hw⟩)
  have hi5 := hΦ.1
  have hL5 := hΦ.2.1
  have hge5 := hΦ.2.2
  refine yh (fun (j2 : Nat) => [(0, v), (1, Vj a), (9, Vj i2), (10, Vj j2)]) (fun (j2 : Nat) => (i2 ≤ j2 + 1 ∧ j2 ≤ j) ∧ Gt a j2 b q ∧ (i2 ≤ j2 → x0 (zH q j2) (zH q a))) (fun (j2 : Nat) => [Res.vec 32 1 v q.length (q.flatMap U1)]) ?_ (fun j2 g hΦ => ?_)
  ·
   refine zW ?_
   refine xD (fun (j2 : Nat) => [(0, v), (1, Vj a), (9, Vj i2), (10, Vj j2)]) (fun (j2 : Nat) => (i2 ≤ j2 + 1 ∧ j2 ≤ j) ∧ Gt a j2 b q) (fun (j2 : Nat) => [Res.vec 32 1 v q.length (q.flatMap U1)]) (fun (j2 : Nat) => j2) (fun w' hw => ⟨j, ⟨rfl, rfl, rfl, rfl, trivial⟩, ⟨⟨by omega, by omega⟩, hH3⟩, hw⟩) (fun j2 g hΦ => ?_)
   have hj6 := hΦ.1
   have hH6 := hΦ.2
   refine zK (zK (zZ [0] rfl (by decide) (by kernel_rfl) (fun w' hw hS => zD 0 rfl (zL) hS (zD 1 rfl (zL) hS (zD 2 rfl (zBE rfl rfl) hS (zD 3 rfl (zL) hS ?_))))))
   by_cases g5_3 : ((i2 : Nat) : Int) ≤ ((j2 : Nat) : Int)
   ·
    refine zp 4 rfl rfl (gT g5_3) (zL) hS (zp 5 rfl rfl (gT g5_3) (zL) hS (zp 6 rfl rfl (gT g5_3) (yA (pV 0 rfl) 1 a rfl rfl rfl (by omega)) hS (zp 7 rfl rfl (gT g5_3) (yX (pV 0 rfl) 1 a 0 (fun _ => rfl) rfl rfl (by omega) rfl) hS (zp 8 rfl rfl (gT g5_3) (zL) hS (zp 9 rfl rfl (gT g5_3) (zL) hS (zp 10 rfl rfl (gT g5_3) (yA (pV 0 rfl) 1 j2 rfl rfl rfl (by omega)) hS (zp 11 rfl rfl (gT g5_3) (yX (pV 0 rfl) 1 j2 0 (fun _ => rfl) rfl rfl (by omega) rfl) hS (zX 12 rfl hw (zR rfl (gT g5_3) (zP rfl rfl (fun w' hw => (xg (zH q a) (zH q j2) w').mono ?_)))))))))))
    rintro _ w1 ⟨rfl, hO⟩
    refine (?_ : CL _ _ _ _ _ _ (Own w S [Res.vec 32 1 v q.length (q.flatMap U1)])) w1 (hw.frame0 hO)
    refine zE [0] rfl (by decide) (fun w' hw hS => zD 13 rfl (xv (gT g5_3)) hS (zM ?_))
    refine (?_ : C _ _ _ _ _ _ _ (Own w S [Res.vec 32 1 v q.length (q.flatMap U1)])) _ hw
    refine zT rfl (fun c3 => ?_) (fun c3 => ?_)
    ·
     refine zJ (zW (zY (zC rfl (yJ (c := ((j2 - 1 : Nat) : Int)) rfl rfl (xi (by omega) (by omega)) rfl (zG rfl ?_)))))
     exact zd (fun w' hw => ⟨j2 - 1, ⟨rfl, rfl, rfl, rfl, trivial⟩, ⟨⟨by omega, by omega⟩, hH6.step c3⟩, hw, (by omega)⟩)
    ·
     exact yv rfl (fun w' hw => ⟨j2, ⟨rfl, rfl, rfl, rfl, trivial⟩, ⟨hj6, hH6, fun _ => c3⟩, hw⟩)
   ·
    refine zk 4 rfl rfl (gF g5_3) rfl hS (zk 5 rfl rfl (gF g5_3) rfl hS (zk 6 rfl rfl (gF g5_3) rfl hS (zk 7 rfl rfl (gF g5_3) rfl hS (zk 8 rfl rfl (gF g5_3) rfl hS (zk 9 rfl rfl (gF g5_3) rfl hS (zk 10 rfl rfl (gF g5_3) rfl hS (zk 11 rfl rfl (gF g5_3) rfl hS (zk 12 rfl rfl (gF g5_3) rfl hS (zD 13 rfl (xw (gF g5_3)) hS (zM ?_))))))))))
    refine (?_ : C _ _ _ _ _ _ _ (Own w S [Res.vec 32 1 v q.length (q.flatMap U1)])) _ hw
    refine xy rfl ?_
    exact yv rfl (fun w' hw => ⟨j2, ⟨rfl, rfl, rfl, rfl, trivial⟩, ⟨hj6, hH6, fun h => absurd h (by omega)⟩, hw⟩)
  have hj7 := hΦ.1
  have hH7 := hΦ.2.1
  have hlt7 := hΦ.2.2
  refine zK (zB (zC rfl (zC rfl (xJ rfl rfl rfl (zA (zT rfl (fun c5 => ?_) (fun c5 => ?_)))))))
  ·
   refine z8 rfl (zB (zC rfl (zG rfl (zA ?_))))
   exact zN (z4 (v := Vj i2) rfl rfl (fun w' hw => ⟨q, i2, rfl, hS3, ⟨by omega, by omega⟩, zIZ hL5 (by rw [show i2 - 1 = j2 by omega]; exact hH7) (by omega) hp3, hw⟩))
  ·
   refine zJ (yh (fun (n : List Nat) => [(0, v), (1, Vj a), (9, Vj i2), (10, Vj j2)]) (fun (n : List Nat) => n = yM q i2 j2) (fun (n : List Nat) => [Res.vec 32 1 v n.length (n.flatMap U1)]) ?_ (fun n g hΦ => ?_))
   ·
    refine zZ [] rfl (by decide) (by kernel_rfl) (fun w' hw hS => zD 0 rfl (zL) hS (zD 1 rfl (zL) hS (zD 2 rfl (zL) hS (zD 3 rfl (zL) hS (zD 4 rfl (zL) hS (zD 5 rfl (zL) hS (zD 8 rfl (zL) hS (zD 9 rfl (zL) hS (za 6 10 ?_ ?_)))))))))
    ·
     refine zU 6 rfl hw (zF (pV 0 rfl) 1 j2 rfl rfl rfl (by omega) rfl (zE [] rfl (by decide) (fun w' hw hS => za 7 10 ?_ ?_)))
     ·
      refine zU 7 rfl hw (zQ (pV 0 rfl) 1 j2 0 (fun _ => rfl) rfl rfl (by omega) rfl rfl (zI 10 rfl (zF (pV 0 rfl) 1 i2 rfl rfl rfl (by omega) rfl (zI 11 rfl (zQ (pV 0 rfl) 1 i2 0 (fun _ => rfl) rfl rfl (by omega) rfl rfl (zI 12 rfl (zF (pV 0 rfl) 1 i2 rfl rfl rfl (by omega) rfl (zI 13 rfl ?_))))))))
      refine zS 0 i2 (zH q j2) rfl (fun _ => rfl) rfl (by omega) rfl rfl rfl (by omega) (zI 14 rfl (zF (pV 0 rfl) 1 j2 rfl rfl rfl (by simp only [List.length_set]; omega) rfl (zI 15 rfl (zS 0 j2 (zH q i2) rfl (fun _ => rfl) rfl (by omega) rfl rfl rfl (by simp only [List.length_set]; omega) (zE [] rfl (by decide) (fun w' hw hS => zM ?_))))))
      exact ⟨yM q i2 j2, ⟨rfl, rfl, rfl, rfl, trivial⟩, rfl, hw⟩
     ·
      refine zU 10 rfl hw (zF (pV 0 rfl) 1 i2 rfl rfl rfl (by omega) rfl (zE [] rfl (by decide) (fun w' hw hS => za 7 11 ?_ ?_)))
      ·
       refine zU 7 rfl hw (zQ (pV 0 rfl) 1 j2 0 (fun _ => rfl) rfl rfl (by omega) rfl rfl (zI 11 rfl (zQ (pV 0 rfl) 1 i2 0 (fun _ => rfl) rfl rfl (by omega) rfl rfl (zI 12 rfl (zF (pV 0 rfl) 1 i2 rfl rfl rfl (by omega) rfl (zI 13 rfl (zS 0 i2 (zH q j2) rfl (fun _ => rfl) rfl (by omega) rfl rfl rfl (by omega) (zI 14 rfl ?_))))))))
       refine zF (pV 0 rfl) 1 j2 rfl rfl rfl (by simp only [List.length_set]; omega) rfl (zI 15 rfl (zS 0 j2 (zH q i2) rfl (fun _ => rfl) rfl (by omega) rfl rfl rfl (by simp only [List.length_set]; omega) (zE [] rfl (by decide) (fun w' hw hS => zM ?_))))
       exact ⟨yM q i2 j2, ⟨rfl, rfl, rfl, rfl, trivial⟩, rfl, hw⟩
      ·
       refine zU 11 rfl hw (zQ (pV 0 rfl) 1 i2 0 (fun _ => rfl) rfl rfl (by omega) rfl rfl (zI 7 rfl (zQ (pV 0 rfl) 1 j2 0 (fun _ => rfl) rfl rfl (by omega) rfl rfl (zI 12 rfl (zF (pV 0 rfl) 1 i2 rfl rfl rfl (by omega) rfl (zI 13 rfl (zS 0 i2 (zH q j2) rfl (fun _ => rfl) rfl (by omega) rfl rfl rfl (by omega) (zI 14 rfl ?_))))))))
       refine zF (pV 0 rfl) 1 j2 rfl rfl rfl (by simp only [List.length_set]; omega) rfl (zI 15 rfl (zS 0 j2 (zH q i2) rfl (fun _ => rfl) rfl (by omega) rfl rfl rfl (by simp only [List.length_set]; omega) (zE [] rfl (by decide) (fun w' hw hS => zM ?_))))
       exact ⟨yM q i2 j2, ⟨rfl, rfl, rfl, rfl, trivial⟩, rfl, hw⟩
    ·
     refine zU 10 rfl hw (zF (pV 0 rfl) 1 i2 rfl rfl rfl (by omega) rfl (zE [] rfl (by decide) (fun w' hw hS => za 6 11 ?_ ?_)))
     ·
      refine zU 6 rfl hw (zF (pV 0 rfl) 1 j2 rfl rfl rfl (by omega) rfl (zE [] rfl (by decide) (fun w' hw hS => za 7 11 ?_ ?_)))
      ·
       refine zU 7 rfl hw (zQ (pV 0 rfl) 1 j2 0 (fun _ => rfl) rfl rfl (by omega) rfl rfl (zI 11 rfl (zQ (pV 0 rfl) 1 i2 0 (fun _ => rfl) rfl rfl (by omega) rfl rfl (zI 12 rfl (zF (pV 0 rfl) 1 i2 rfl rfl rfl (by omega) rfl (zI 13 rfl (zS 0 i2 (zH q j2) rfl (fun _ => rfl) rfl (by omega) rfl rfl rfl (by omega) (zI 14 rfl ?_))))))))
       refine zF (pV 0 rfl) 1 j2 rfl rfl rfl (by simp only [List.length_set]; omega) rfl (zI 15 rfl (zS 0 j2 (zH q i2) rfl (fun _ => rfl) rfl (by omega) rfl rfl rfl (by simp only [List.length_set]; omega) (zE [] rfl (by decide) (fun w' hw hS => zM ?_))))
       exact ⟨yM q i2 j2, ⟨rfl, rfl, rfl, rfl, trivial⟩, rfl, hw⟩
      ·
       refine zU 11 rfl hw (zQ (pV 0 rfl) 1 i2 0 (fun _ => rfl) rfl rfl (by omega) rfl rfl (zI 7 rfl (zQ (pV 0 rfl) 1 j2 0 (fun _ => rfl) rfl rfl (by omega) rfl rfl (zI 12 rfl (zF (pV 0 rfl) 1 i2 rfl rfl rfl (by omega) rfl (zI 13 rfl (zS 0 i2 (zH q j2) rfl (fun _ => rfl) rfl (by omega) rfl rfl rfl (by omega) (zI 14 rfl ?_))))))))
       refine zF (pV 0 rfl) 1 j2 rfl rfl rfl (by simp only [List.length_set]; omega) rfl (zI 15 rfl (zS 0 j2 (zH q i2) rfl (fun _ => rfl) rfl (by omega) rfl rfl rfl (by simp only [List.length_set]; omega) (zE [] rfl (by decide) (fun w' hw hS => zM ?_))))
       exact ⟨yM q i2 j2, ⟨rfl, rfl, rfl, rfl, trivial⟩, rfl, hw⟩
     ·
      refine zU 11 rfl hw (zQ (pV 0 rfl) 1 i2 0 (fun _ => rfl) rfl rfl (by omega) rfl rfl (zI 6 rfl (zF (pV 0 rfl) 1 j2 rfl rfl rfl (by omega) rfl (zI 7 rfl (zQ (pV 0 rfl) 1 j2 0 (fun _ => rfl) rfl rfl (by omega) rfl rfl (zI 12 rfl (zF (pV 0 rfl) 1 i2 rfl rfl rfl (by omega) rfl (zI 13 rfl ?_))))))))
      refine zS 0 i2 (zH q j2) rfl (fun _ => rfl) rfl (by omega) rfl rfl rfl (by omega) (zI 14 rfl (zF (pV 0 rfl) 1 j2 rfl rfl rfl (by simp only [List.length_set]; omega) rfl (zI 15 rfl (zS 0 j2 (zH q i2) rfl (fun _ => rfl) rfl (by omega) rfl rfl rfl (by simp only [List.length_set]; omega) (zE [] rfl (by decide) (fun w' hw hS => zM ?_))))))
      exact ⟨yM q i2 j2, ⟨rfl, rfl, rfl, rfl, trivial⟩, rfl, hw⟩
   have hn := hΦ
   have hij : i2 < j2 := (by have h1 := hlt7 (by omega); have h2 := hge5 (by omega); rcases Nat.lt_or_ge i2 j2 with h | h; exact h; rw [show i2 = j2 by omega] at h2; first | exact absurd h1 h2 | exact absurd h2 h1)
   have hsw := zFs hL5 hH7 hij (by omega) (by omega) (by omega) (hge5 (by omega)) (hlt7 (by omega))
   refine zB (zC rfl (zn rfl rfl (zh (by omega)) rfl (zG rfl (zA (zY (zC rfl (yJ (c := ((j2 - 1 : Nat) : Int)) rfl rfl (xi (by omega) (by omega)) rfl (zG rfl ?_))))))))
   exact zd (fun w' hw => ⟨i2 + 1, j2 - 1, n, ⟨rfl, rfl, rfl, rfl, trivial⟩, ⟨⟨⟨by omega, by omega⟩, by omega⟩, ⟨(by rw [hn]; exact hS3.then_swp ⟨by omega, by omega⟩ ⟨by omega, by omega⟩ hb), (by rw [hn, hsw.2]; exact hp3)⟩, (by rw [hn]; exact hsw.1.1), (by rw [hn]; exact hsw.1.2)⟩, hw, (by omega)⟩)
end Go.Proofs.YtcdiehplbmkmeaaGreat
