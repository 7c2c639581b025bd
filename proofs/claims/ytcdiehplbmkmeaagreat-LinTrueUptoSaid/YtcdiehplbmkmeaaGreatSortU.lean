import Derived.Test.YtcdiehplbmkmeaaGreatFwU
import Derived.Test.YtcdiehplbmkmeaaGreatSrtB
import Derived.Test.YtcdiehplbmkmeaaGreatChecked
set_option linter.unusedSectionVars false
set_option linter.unusedSimpArgs false
set_option linter.unusedVariables false
set_option maxRecDepth 10000
namespace Go.Proofs.YtcdiehplbmkmeaaGreat
open Go Go.Sc Go.Proofs
theorem zLT (x : Nat) (w : World) : Rets Tryz.prog 104 #[Vn x] w fun u_ w' => u_ = .bool false ∧ Own w [] [] w' := by
  refine ze Tryz.func104 rfl Tryz.ntmps104 (Own.start w) ?_
  refine zB (zG rfl (zA (zB (zC rfl (zC rfl (kS rfl rfl rfl (zG rfl (zA ?_))))))))
  exact zN (z4 (v := .bool (decide (((x : Nat) : Int) ≠ ((x : Nat) : Int)))) rfl rfl (fun w' hw => ⟨(by simp), hw.drop⟩))
theorem xg (x y : Nat) (w : World) : Rets Tryz.prog 84 #[Vn x, Vn y] w fun u_ w' => u_ = .bool (decide (olt x y)) ∧ Own w [] [] w' := by
  refine ze Tryz.func84 rfl Tryz.ntmps84 (Own.start w) ?_
  refine zB (zG rfl (zA (zB (zC rfl (zP rfl rfl (fun w' hw => (zLT x w').mono ?_))))))
  rintro _ w1 ⟨rfl, hO⟩
  refine (?_ : CL _ _ _ _ _ _ (Own w [] [])) w1 (hw.frame0 hO)
  refine zC rfl (zGi rfl rfl rfl rfl (zGi rfl rfl rfl rfl (zGi rfl rfl rfl rfl (kY rfl rfl (zC rfl (zR rfl rfl (zC rfl (zR rfl rfl (zC rfl (zR rfl rfl (z9 rfl rfl rfl (kY rfl rfl ?_))))))))))))
  refine zG rfl (zA ?_)
  exact zN (z4 (v := .bool (decide (((x : Nat) : Int) < ((y : Nat) : Int)))) rfl rfl (fun w' hw => ⟨(by congr 1; exact decide_eq_decide.2 (Int.ofNat_lt)), hw.drop⟩))
theorem zEE {S : List Nat} (v : Value) (l : List Nat) (a b : Nat) (w : World) (ha : a ≤ b) (hb : b ≤ l.length) (hl : z6 l.length) (hin : Own w S [Res.vec 32 1 v l.length (l.flatMap U1)] w) : Rets Tryz.prog 82 #[v, Vj a, Vj b] w fun u_ w' => ∃ (l' : List Nat), u_ = .tuple #[] ∧ Same a b l l' ∧ Own w S [Res.vec 32 1 v l'.length (l'.flatMap U1)] w' := by
  refine ze Tryz.func82 rfl Tryz.ntmps82 hin ?_
  refine zB (zC rfl (zG rfl (zA (zB (zC rfl (yJ rfl rfl (zh (by omega)) rfl (zG rfl (zA (zW ?_)))))))))
  refine jH (fun (i j : Nat) (m : List Nat) => [(0, v), (6, Vj i), (7, Vi (((j : Nat) : Int) - 1))]) (fun (i j : Nat) (m : List Nat) => (a ≤ i ∧ j ≤ b) ∧ Same a b l m) (fun (i j : Nat) (m : List Nat) => [Res.vec 32 1 v m.length (m.flatMap U1)]) (fun (i j : Nat) (m : List Nat) => j - i) (fun w' hw => ⟨a, b, l, ⟨rfl, rfl, rfl, trivial⟩, ⟨⟨Nat.le_refl _, Nat.le_refl _⟩, Same.refl _ _ _⟩, hw⟩) (fun i j m g hΦ => ?_)
  have hml := hΦ.2.len
  have hSm := hΦ.2
  have hij := hΦ.1
  refine zK (zB (zC rfl (zC rfl (z9 rfl rfl rfl (zA (zT rfl (fun c1 => ?_) (fun c1 => ?_)))))))
  ·
   refine zJ (zW (yh (fun (n : List Nat) => [(0, v), (6, Vj i), (7, Vi (((j : Nat) : Int) - 1))]) (fun (n : List Nat) => n = yM m i (j - 1)) (fun (n : List Nat) => [Res.vec 32 1 v n.length (n.flatMap U1)]) ?_ (fun n g hΦ => ?_)))
   ·
    refine zZ [] rfl (by decide) (by kernel_rfl) (fun w' hw hS => zD 0 rfl (zL) hS (zD 1 rfl (zL) hS (zD 2 rfl (zL) hS (zD 3 rfl (zL) hS (zD 4 rfl (zL) hS (zD 5 rfl (zL) hS (zD 8 rfl (zL) hS (zD 9 rfl (zL) hS (za 6 10 ?_ ?_)))))))))
    ·
     refine zU 6 rfl hw (zF (pV 0 rfl) 1 (j - 1) rfl rfl (by omega) (by omega) rfl (zE [] rfl (by decide) (fun w' hw hS => za 7 10 ?_ ?_)))
     ·
      refine zU 7 rfl hw (zQ (pV 0 rfl) 1 (j - 1) 0 (fun _ => rfl) rfl rfl (by omega) rfl rfl (zI 10 rfl (zF (pV 0 rfl) 1 i rfl rfl rfl (by omega) rfl (zI 11 rfl (zQ (pV 0 rfl) 1 i 0 (fun _ => rfl) rfl rfl (by omega) rfl rfl (zI 12 rfl (zF (pV 0 rfl) 1 i rfl rfl rfl (by omega) rfl (zI 13 rfl ?_))))))))
      refine zS 0 i (zH m (j - 1)) rfl (fun _ => rfl) rfl (by omega) rfl rfl rfl (by omega) (zI 14 rfl (zF (pV 0 rfl) 1 (j - 1) rfl rfl (by omega) (by simp; omega) rfl (zI 15 rfl (zS 0 (j - 1) (zH m i) rfl (fun _ => rfl) rfl (by omega) rfl rfl rfl (by simp; omega) (zE [] rfl (by decide) (fun w' hw hS => zM ?_))))))
      exact ⟨yM m i (j - 1), ⟨rfl, rfl, rfl, trivial⟩, rfl, hw⟩
     ·
      refine zU 10 rfl hw (zF (pV 0 rfl) 1 i rfl rfl rfl (by omega) rfl (zE [] rfl (by decide) (fun w' hw hS => za 7 11 ?_ ?_)))
      ·
       refine zU 7 rfl hw (zQ (pV 0 rfl) 1 (j - 1) 0 (fun _ => rfl) rfl rfl (by omega) rfl rfl (zI 11 rfl (zQ (pV 0 rfl) 1 i 0 (fun _ => rfl) rfl rfl (by omega) rfl rfl (zI 12 rfl (zF (pV 0 rfl) 1 i rfl rfl rfl (by omega) rfl (zI 13 rfl (zS 0 i (zH m (j - 1)) rfl (fun _ => rfl) rfl (by omega) rfl rfl rfl (by omega) (zI 14 rfl ?_))))))))
       refine zF (pV 0 rfl) 1 (j - 1) rfl rfl (by omega) (by simp; omega) rfl (zI 15 rfl (zS 0 (j - 1) (zH m i) rfl (fun _ => rfl) rfl (by omega) rfl rfl rfl (by simp; omega) (zE [] rfl (by decide) (fun w' hw hS => zM ?_))))
       exact ⟨yM m i (j - 1), ⟨rfl, rfl, rfl, trivial⟩, rfl, hw⟩
      ·
       refine zU 11 rfl hw (zQ (pV 0 rfl) 1 i 0 (fun _ => rfl) rfl rfl (by omega) rfl rfl (zI 7 rfl (zQ (pV 0 rfl) 1 (j - 1) 0 (fun _ => rfl) rfl rfl (by omega) rfl rfl (zI 12 rfl (zF (pV 0 rfl) 1 i rfl rfl rfl (by omega) rfl (zI 13 rfl (zS 0 i (zH m (j - 1)) rfl (fun _ => rfl) rfl (by omega) rfl rfl rfl (by omega) (zI 14 rfl ?_))))))))
       refine zF (pV 0 rfl) 1 (j - 1) rfl rfl (by omega) (by simp; omega) rfl (zI 15 rfl (zS 0 (j - 1) (zH m i) rfl (fun _ => rfl) rfl (by omega) rfl rfl rfl (by simp; omega) (zE [] rfl (by decide) (fun w' hw hS => zM ?_))))
       exact ⟨yM m i (j - 1), ⟨rfl, rfl, rfl, trivial⟩, rfl, hw⟩
    ·
     refine zU 10 rfl hw (zF (pV 0 rfl) 1 i rfl rfl rfl (by omega) rfl (zE [] rfl (by decide) (fun w' hw hS => za 6 11 ?_ ?_)))
     ·
      refine zU 6 rfl hw (zF (pV 0 rfl) 1 (j - 1) rfl rfl (by omega) (by omega) rfl (zE [] rfl (by decide) (fun w' hw hS => za 7 11 ?_ ?_)))
      ·
       refine zU 7 rfl hw (zQ (pV 0 rfl) 1 (j - 1) 0 (fun _ => rfl) rfl rfl (by omega) rfl rfl (zI 11 rfl (zQ (pV 0 rfl) 1 i 0 (fun _ => rfl) rfl rfl (by omega) rfl rfl (zI 12 rfl (zF (pV 0 rfl) 1 i rfl rfl rfl (by omega) rfl (zI 13 rfl (zS 0 i (zH m (j - 1)) rfl (fun _ => rfl) rfl (by omega) rfl rfl rfl (by omega) (zI 14 rfl ?_))))))))
       refine zF (pV 0 rfl) 1 (j - 1) rfl rfl (by omega) (by simp; omega) rfl (zI 15 rfl (zS 0 (j - 1) (zH m i) rfl (fun _ => rfl) rfl (by omega) rfl rfl rfl (by simp; omega) (zE [] rfl (by decide) (fun w' hw hS => zM ?_))))
       exact ⟨yM m i (j - 1), ⟨rfl, rfl, rfl, trivial⟩, rfl, hw⟩
      ·
       refine zU 11 rfl hw (zQ (pV 0 rfl) 1 i 0 (fun _ => rfl) rfl rfl (by omega) rfl rfl (zI 7 rfl (zQ (pV 0 rfl) 1 (j - 1) 0 (fun _ => rfl) rfl rfl (by omega) rfl rfl (zI 12 rfl (zF (pV 0 rfl) 1 i rfl rfl rfl (by omega) rfl (zI 13 rfl (zS 0 i (zH m (j - 1)) rfl (fun _ => rfl) rfl (by omega) rfl rfl rfl (by omega) (zI 14 rfl ?_))))))))
       refine zF (pV 0 rfl) 1 (j - 1) rfl rfl (by omega) (by simp; omega) rfl (zI 15 rfl (zS 0 (j - 1) (zH m i) rfl (fun _ => rfl) rfl (by omega) rfl rfl rfl (by simp; omega) (zE [] rfl (by decide) (fun w' hw hS => zM ?_))))
       exact ⟨yM m i (j - 1), ⟨rfl, rfl, rfl, trivial⟩, rfl, hw⟩
     ·
      refine zU 11 rfl hw (zQ (pV 0 rfl) 1 i 0 (fun _ => rfl) rfl rfl (by omega) rfl rfl (zI 6 rfl (zF (pV 0 rfl) 1 (j - 1) rfl rfl (by omega) (by omega) rfl (zI 7 rfl (zQ (pV 0 rfl) 1 (j - 1) 0 (fun _ => rfl) rfl rfl (by omega) rfl rfl (zI 12 rfl (zF (pV 0 rfl) 1 i rfl rfl rfl (by omega) rfl (zI 13 rfl ?_))))))))
      refine zS 0 i (zH m (j - 1)) rfl (fun _ => rfl) rfl (by omega) rfl rfl rfl (by omega) (zI 14 rfl (zF (pV 0 rfl) 1 (j - 1) rfl rfl (by omega) (by simp; omega) rfl (zI 15 rfl (zS 0 (j - 1) (zH m i) rfl (fun _ => rfl) rfl (by omega) rfl rfl rfl (by simp; omega) (zE [] rfl (by decide) (fun w' hw hS => zM ?_))))))
      exact ⟨yM m i (j - 1), ⟨rfl, rfl, rfl, trivial⟩, rfl, hw⟩
   have hn := hΦ
   refine zB (zC rfl (zn rfl rfl (zh (by omega)) rfl (zG rfl (zA (zY (zC rfl (yJ rfl rfl (zh (by omega)) rfl (zG rfl ?_))))))))
   exact zd (fun w' hw => ⟨i + 1, j - 1, n, ⟨rfl, rfl, vi (by omega), trivial⟩, ⟨⟨by omega, by omega⟩, by rw [hn]; exact hSm.then_swp ⟨by omega, by omega⟩ ⟨by omega, by omega⟩ hb⟩, hw, (by omega)⟩)
  ·
   exact yv rfl (zAN rfl (fun w' hw => ⟨m, rfl, hΦ.2, hw⟩))
theorem zFp {S : List Nat} (v : Value) (l : List Nat) (a b : Nat) (w : World) (ha : a ≤ b) (hb : b ≤ l.length) (hl : z6 l.length) (hin : Own w S [Res.vec 32 1 v l.length (l.flatMap U1)] w) : Rets Tryz.prog 78 #[v, Vj a, Vj b] w fun u_ w' => ∃ (l' : List Nat), u_ = .tuple #[] ∧ Same a b l l' ∧ Up a b l' ∧ Own w S [Res.vec 32 1 v l'.length (l'.flatMap U1)] w' := by
  refine ze Tryz.func78 rfl Tryz.ntmps78 hin ?_
  refine zB (zC rfl (zn rfl rfl (zh (by omega)) rfl (zG rfl (zA (zW ?_)))))
  refine xF (fun (i : Nat) (m : List Nat) => [(0, v), (1, Vj a), (2, Vj b), (6, Vj i)]) (fun (i : Nat) (m : List Nat) => (a + 1 ≤ i ∧ (i ≤ b ∨ i = a + 1)) ∧ Same a b l m ∧ Up a i m) (fun (i : Nat) (m : List Nat) => [Res.vec 32 1 v m.length (m.flatMap U1)]) (fun (i : Nat) (m : List Nat) => b + 1 - i) (fun w' hw => ⟨a + 1, l, ⟨rfl, rfl, rfl, rfl, trivial⟩, ⟨⟨by omega, .inr rfl⟩, Same.refl _ _ _, Up.one (by omega)⟩, hw⟩) (fun i m g hΦ => ?_)
  have hml := hΦ.2.1.len
  have hi1 := hΦ.1
  have hU := hΦ.2.2
  have hS1 := hΦ.2.1
  refine zK (zB (zC rfl (zC rfl (z9 rfl rfl rfl (zA (zT rfl (fun c1 => ?_) (fun c1 => ?_)))))))
  ·
   refine zJ (zK (zW (zB (zC rfl (zG rfl (zA (zW ?_)))))))
   refine xF (fun (j : Nat) (q : List Nat) => [(0, v), (1, Vj a), (2, Vj b), (6, Vj i), (7, Vj j)]) (fun (j : Nat) (q : List Nat) => (a ≤ j ∧ j ≤ i) ∧ Same a b l q ∧ Ins a i j q) (fun (j : Nat) (q : List Nat) => [Res.vec 32 1 v q.length (q.flatMap U1)]) (fun (j : Nat) (q : List Nat) => j) (fun w' hw => ⟨i, m, ⟨rfl, rfl, rfl, rfl, rfl, trivial⟩, ⟨⟨by omega, by omega⟩, hS1, Ins.start hU⟩, hw⟩) (fun j q g hΦ => ?_)
   have hql := hΦ.2.1.len
   have hj1 := hΦ.1
   have hS2 := hΦ.2.1
   have hI2 := hΦ.2.2
   refine zK (zK (zZ [0] rfl (by decide) (by kernel_rfl) (fun w' hw hS => zD 0 rfl (zL) hS (zD 1 rfl (zL) hS (zD 2 rfl (zDa rfl rfl) hS (zD 3 rfl (zL) hS ?_))))))
   by_cases g4_3 : ((a : Nat) : Int) < ((j : Nat) : Int)
   ·
    refine zp 4 rfl rfl (gT g4_3) (zL) hS (zp 5 rfl rfl (gT g4_3) (zL) hS (zp 6 rfl rfl (gT g4_3) (yA (pV 0 rfl) 1 j rfl rfl rfl (by omega)) hS (zp 7 rfl rfl (gT g4_3) (yX (pV 0 rfl) 1 j 0 (fun _ => rfl) rfl rfl (by omega) rfl) hS (zp 8 rfl rfl (gT g4_3) (zL) hS (zp 9 rfl rfl (gT g4_3) (zL) hS (zp 10 rfl rfl (gT g4_3) (ko (c := ((j - 1 : Nat) : Int)) rfl rfl (xi (by omega) (by omega))) hS (zp 11 rfl rfl (gT g4_3) (yA (pV 0 rfl) 1 (j - 1) rfl rfl rfl (by omega)) hS (zp 12 rfl rfl (gT g4_3) (yX (pV 0 rfl) 1 (j - 1) 0 (fun _ => rfl) rfl rfl (by omega) rfl) hS (zX 13 rfl hw (zR rfl (gT g4_3) (zP rfl rfl (fun w' hw => (xg (zH q j) (zH q (j - 1)) w').mono ?_))))))))))))
    rintro _ w1 ⟨rfl, hO⟩
    refine (?_ : CL _ _ _ _ _ _ (Own w S [Res.vec 32 1 v q.length (q.flatMap U1)])) w1 (hw.frame0 hO)
    refine zE [0] rfl (by decide) (fun w' hw hS => zD 14 rfl (xv (gT g4_3)) hS (zM ?_))
    refine (?_ : C _ _ _ _ _ _ _ (Own w S [Res.vec 32 1 v q.length (q.flatMap U1)])) _ hw
    refine zT rfl (fun c2 => ?_) (fun c2 => ?_)
    ·
     refine zJ (yh (fun (n : List Nat) => [(0, v), (1, Vj a), (2, Vj b), (6, Vj i), (7, Vj j)]) (fun (n : List Nat) => n = yM q j (j - 1)) (fun (n : List Nat) => [Res.vec 32 1 v n.length (n.flatMap U1)]) ?_ (fun n g hΦ => ?_))
     ·
      refine zW (zZ [] rfl (by decide) (by kernel_rfl) (fun w' hw hS => zD 0 rfl (zL) hS (zD 1 rfl (zL) hS (zD 2 rfl (zL) hS (zD 3 rfl (zL) hS (zD 4 rfl (ko (c := ((j - 1 : Nat) : Int)) rfl rfl (xi (by omega) (by omega))) hS (zD 5 rfl (zL) hS (zD 6 rfl (zL) hS (zD 7 rfl (ko (c := ((j - 1 : Nat) : Int)) rfl rfl (xi (by omega) (by omega))) hS (zD 10 rfl (zL) hS (zD 11 rfl (zL) hS (za 8 12 ?_ ?_))))))))))))
      ·
       refine zU 8 rfl hw (zF (pV 0 rfl) 1 (j - 1) rfl rfl rfl (by omega) rfl (zE [] rfl (by decide) (fun w' hw hS => za 9 12 ?_ ?_)))
       ·
        refine zU 9 rfl hw (zQ (pV 0 rfl) 1 (j - 1) 0 (fun _ => rfl) rfl rfl (by omega) rfl rfl (zI 12 rfl (zF (pV 0 rfl) 1 j rfl rfl rfl (by omega) rfl (zI 13 rfl (zQ (pV 0 rfl) 1 j 0 (fun _ => rfl) rfl rfl (by omega) rfl rfl (zI 14 rfl (zF (pV 0 rfl) 1 j rfl rfl rfl (by omega) rfl (zI 15 rfl ?_))))))))
        refine zS 0 j (zH q (j - 1)) rfl (fun _ => rfl) rfl (by omega) rfl rfl rfl (by omega) (zI 16 rfl (zF (pV 0 rfl) 1 (j - 1) rfl rfl rfl (by simp only [List.length_set]; omega) rfl (zI 17 rfl (zS 0 (j - 1) (zH q j) rfl (fun _ => rfl) rfl (by omega) rfl rfl rfl (by simp only [List.length_set]; omega) (zE [] rfl (by decide) (fun w' hw hS => zM ?_))))))
        exact ⟨yM q j (j - 1), ⟨rfl, rfl, rfl, rfl, rfl, trivial⟩, rfl, hw⟩
       ·
        refine zU 12 rfl hw (zF (pV 0 rfl) 1 j rfl rfl rfl (by omega) rfl (zE [] rfl (by decide) (fun w' hw hS => za 9 13 ?_ ?_)))
        ·
         refine zU 9 rfl hw (zQ (pV 0 rfl) 1 (j - 1) 0 (fun _ => rfl) rfl rfl (by omega) rfl rfl (zI 13 rfl (zQ (pV 0 rfl) 1 j 0 (fun _ => rfl) rfl rfl (by omega) rfl rfl (zI 14 rfl (zF (pV 0 rfl) 1 j rfl rfl rfl (by omega) rfl (zI 15 rfl (zS 0 j (zH q (j - 1)) rfl (fun _ => rfl) rfl (by omega) rfl rfl rfl (by omega) (zI 16 rfl ?_))))))))
         refine zF (pV 0 rfl) 1 (j - 1) rfl rfl rfl (by simp only [List.length_set]; omega) rfl (zI 17 rfl (zS 0 (j - 1) (zH q j) rfl (fun _ => rfl) rfl (by omega) rfl rfl rfl (by simp only [List.length_set]; omega) (zE [] rfl (by decide) (fun w' hw hS => zM ?_))))
         exact ⟨yM q j (j - 1), ⟨rfl, rfl, rfl, rfl, rfl, trivial⟩, rfl, hw⟩
        ·
         refine zU 13 rfl hw (zQ (pV 0 rfl) 1 j 0 (fun _ => rfl) rfl rfl (by omega) rfl rfl (zI 9 rfl (zQ (pV 0 rfl) 1 (j - 1) 0 (fun _ => rfl) rfl rfl (by omega) rfl rfl (zI 14 rfl (zF (pV 0 rfl) 1 j rfl rfl rfl (by omega) rfl (zI 15 rfl (zS 0 j (zH q (j - 1)) rfl (fun _ => rfl) rfl (by omega) rfl rfl rfl (by omega) (zI 16 rfl ?_))))))))
         refine zF (pV 0 rfl) 1 (j - 1) rfl rfl rfl (by simp only [List.length_set]; omega) rfl (zI 17 rfl (zS 0 (j - 1) (zH q j) rfl (fun _ => rfl) rfl (by omega) rfl rfl rfl (by simp only [List.length_set]; omega) (zE [] rfl (by decide) (fun w' hw hS => zM ?_))))
         exact ⟨yM q j (j - 1), ⟨rfl, rfl, rfl, rfl, rfl, trivial⟩, rfl, hw⟩
      ·
       refine zU 12 rfl hw (zF (pV 0 rfl) 1 j rfl rfl rfl (by omega) rfl (zE [] rfl (by decide) (fun w' hw hS => za 8 13 ?_ ?_)))
       ·
        refine zU 8 rfl hw (zF (pV 0 rfl) 1 (j - 1) rfl rfl rfl (by omega) rfl (zE [] rfl (by decide) (fun w' hw hS => za 9 13 ?_ ?_)))
        ·
         refine zU 9 rfl hw (zQ (pV 0 rfl) 1 (j - 1) 0 (fun _ => rfl) rfl rfl (by omega) rfl rfl (zI 13 rfl (zQ (pV 0 rfl) 1 j 0 (fun _ => rfl) rfl rfl (by omega) rfl rfl (zI 14 rfl (zF (pV 0 rfl) 1 j rfl rfl rfl (by omega) rfl (zI 15 rfl (zS 0 j (zH q (j - 1)) rfl (fun _ => rfl) rfl (by omega) rfl rfl rfl (by omega) (zI 16 rfl ?_))))))))
         refine zF (pV 0 rfl) 1 (j - 1) rfl rfl rfl (by simp only [List.length_set]; omega) rfl (zI 17 rfl (zS 0 (j - 1) (zH q j) rfl (fun _ => rfl) rfl (by omega) rfl rfl rfl (by simp only [List.length_set]; omega) (zE [] rfl (by decide) (fun w' hw hS => zM ?_))))
         exact ⟨yM q j (j - 1), ⟨rfl, rfl, rfl, rfl, rfl, trivial⟩, rfl, hw⟩
        ·
         refine zU 13 rfl hw (zQ (pV 0 rfl) 1 j 0 (fun _ => rfl) rfl rfl (by omega) rfl rfl (zI 9 rfl (zQ (pV 0 rfl) 1 (j - 1) 0 (fun _ => rfl) rfl rfl (by omega) rfl rfl (zI 14 rfl (zF (pV 0 rfl) 1 j rfl rfl rfl (by omega) rfl (zI 15 rfl (zS 0 j (zH q (j - 1)) rfl (fun _ => rfl) rfl (by omega) rfl rfl rfl (by omega) (zI 16 rfl ?_))))))))
         refine zF (pV 0 rfl) 1 (j - 1) rfl rfl rfl (by simp only [List.length_set]; omega) rfl (zI 17 rfl (zS 0 (j - 1) (zH q j) rfl (fun _ => rfl) rfl (by omega) rfl rfl rfl (by simp only [List.length_set]; omega) (zE [] rfl (by decide) (fun w' hw hS => zM ?_))))
         exact ⟨yM q j (j - 1), ⟨rfl, rfl, rfl, rfl, rfl, trivial⟩, rfl, hw⟩
       ·
        refine zU 13 rfl hw (zQ (pV 0 rfl) 1 j 0 (fun _ => rfl) rfl rfl (by omega) rfl rfl (zI 8 rfl (zF (pV 0 rfl) 1 (j - 1) rfl rfl rfl (by omega) rfl (zI 9 rfl (zQ (pV 0 rfl) 1 (j - 1) 0 (fun _ => rfl) rfl rfl (by omega) rfl rfl (zI 14 rfl (zF (pV 0 rfl) 1 j rfl rfl rfl (by omega) rfl (zI 15 rfl ?_))))))))
        refine zS 0 j (zH q (j - 1)) rfl (fun _ => rfl) rfl (by omega) rfl rfl rfl (by omega) (zI 16 rfl (zF (pV 0 rfl) 1 (j - 1) rfl rfl rfl (by simp only [List.length_set]; omega) rfl (zI 17 rfl (zS 0 (j - 1) (zH q j) rfl (fun _ => rfl) rfl (by omega) rfl rfl rfl (by simp only [List.length_set]; omega) (zE [] rfl (by decide) (fun w' hw hS => zM ?_))))))
        exact ⟨yM q j (j - 1), ⟨rfl, rfl, rfl, rfl, rfl, trivial⟩, rfl, hw⟩
     have hn := hΦ
     refine zY (zC rfl (yJ (c := ((j - 1 : Nat) : Int)) rfl rfl (xi (by omega) (by omega)) rfl (zG rfl ?_)))
     exact zd (fun w' hw => ⟨j - 1, n, ⟨rfl, rfl, rfl, rfl, rfl, trivial⟩, ⟨⟨by omega, by omega⟩, by rw [hn]; exact hS2.then_swp ⟨by omega, by omega⟩ ⟨by omega, by omega⟩ hb, by rw [hn]; exact hI2.step (by omega) (by omega) (by omega) c2⟩, hw, (by omega)⟩)
    ·
     refine z8 rfl (zY (zC rfl (zn rfl rfl (zh (by omega)) rfl (zG rfl ?_))))
     exact zd (fun w' hw => ⟨i + 1, q, ⟨rfl, rfl, rfl, rfl, trivial⟩, ⟨⟨by omega, .inl (by omega)⟩, hS2, hI2.done (fun _ => c2)⟩, hw, (by omega)⟩)
   ·
    refine zk 4 rfl rfl (gF g4_3) rfl hS (zk 5 rfl rfl (gF g4_3) rfl hS (zk 6 rfl rfl (gF g4_3) rfl hS (zk 7 rfl rfl (gF g4_3) rfl hS (zk 8 rfl rfl (gF g4_3) rfl hS (zk 9 rfl rfl (gF g4_3) rfl hS (zk 10 rfl rfl (gF g4_3) rfl hS (zk 11 rfl rfl (gF g4_3) rfl hS (zk 12 rfl rfl (gF g4_3) rfl hS (zk 13 rfl rfl (gF g4_3) rfl hS (zD 14 rfl (xw (gF g4_3)) hS (zM ?_)))))))))))
    refine (?_ : C _ _ _ _ _ _ _ (Own w S [Res.vec 32 1 v q.length (q.flatMap U1)])) _ hw
    refine xy rfl (z8 rfl (zY (zC rfl (zn rfl rfl (zh (by omega)) rfl (zG rfl ?_)))))
    exact zd (fun w' hw => ⟨i + 1, q, ⟨rfl, rfl, rfl, rfl, trivial⟩, ⟨⟨by omega, .inl (by omega)⟩, hS2, hI2.done (fun h => absurd h (by omega))⟩, hw, (by omega)⟩)
  ·
   exact yv rfl (zAN rfl (fun w' hw => ⟨m, rfl, hS1, (fun k h1 h2 => hU k h1 (by omega)), hw⟩))
theorem zGR {S : List Nat} (v : Value) (l : List Nat) (lo hi : Int) (f : Nat) (w : World) (hh : f + hi.toNat ≤ l.length) (hlo : 0 ≤ lo ∧ lo ≤ hi) (hl : z6 l.length) (hp : Hp (lo.toNat + 1) hi.toNat f l) (hin : Own w S [Res.vec 32 1 v l.length (l.flatMap U1)] w) : Rets Tryz.prog 99 #[v, Vi lo, Vi hi, Vj f] w fun u_ w' => ∃ (l' : List Nat), u_ = .tuple #[] ∧ Same (f + lo.toNat) (f + hi.toNat) l l' ∧ Hp lo.toNat hi.toNat f l' ∧ Own w S [Res.vec 32 1 v l'.length (l'.flatMap U1)] w' := by
  obtain ⟨lo, rfl⟩ : ∃ n : Nat, lo = n := ⟨lo.toNat, by omega⟩
  obtain ⟨hi, rfl⟩ : ∃ n : Nat, hi = n := ⟨hi.toNat, by omega⟩
  simp only [Int.toNat_natCast] at hh hp ⊢
  have hlo := Int.ofNat_le.1 hlo.2
  refine ze Tryz.func99 rfl Tryz.ntmps99 hin ?_
  refine zB (zC rfl (zG rfl (zA (zW ?_))))
  refine xF (fun (r : Nat) (m : List Nat) => [(0, v), (2, Vi hi), (3, Vj f), (8, Vj r)]) (fun (r : Nat) (m : List Nat) => (lo ≤ r ∧ r ≤ hi) ∧ Same (f + lo) (f + hi) l m ∧ HpX lo hi f r m) (fun (r : Nat) (m : List Nat) => [Res.vec 32 1 v m.length (m.flatMap U1)]) (fun (r : Nat) (m : List Nat) => hi - r) (fun w' hw => ⟨lo, l, ⟨rfl, rfl, rfl, rfl, trivial⟩, ⟨⟨Nat.le_refl _, hlo⟩, Same.refl _ _ _, HpX.start hp⟩, hw⟩) (fun r m g hΦ => ?_)
  have hml := hΦ.2.1.len
  have hr := hΦ.1
  have hSm := hΦ.2.1
  have hX := hΦ.2.2
  refine zW (zB (zC rfl (zBo rfl rfl (zh (by omega)) rfl (zn rfl rfl (zh (by omega)) rfl (zG rfl (zA (zK (zB (zC rfl (zC rfl (yW rfl rfl rfl (zA ?_))))))))))))
  refine zT rfl (fun c1 => ?_) (fun c1 => ?_)
  ·
   exact yv rfl (zAN rfl (fun w' hw => ⟨m, rfl, hSm, hX.done (fun c h1 h2 => by omega), hw⟩))
  ·
   refine zJ (yh (fun (c : Nat) => [(0, v), (2, Vi hi), (3, Vj f), (8, Vj r), (9, Vj c)]) (fun (c : Nat) => ((c = 2 * r + 1 ∨ c = 2 * r + 2) ∧ c < hi) ∧ ∀ c', c' = 2 * r + 1 ∨ c' = 2 * r + 2 → c' < hi → x0 (zH m (f + c')) (zH m (f + c))) (fun (c : Nat) => [Res.vec 32 1 v m.length (m.flatMap U1)]) ?_ (fun c g hΦ => ?_))
   ·
    refine zK (zZ [0] rfl (by decide) (by kernel_rfl) (fun w' hw hS => zD 0 rfl (zL) hS (zD 1 rfl (y4 rfl rfl (zh (by omega))) hS (zD 2 rfl (zL) hS (zD 3 rfl (zCL rfl rfl) hS (zD 4 rfl (zL) hS ?_))))))
    by_cases g3_4 : ((((2 * r) + 1) + 1 : Nat) : Int) < hi
    ·
     refine zp 5 rfl rfl (gT g3_4) (zL) hS (zp 6 rfl rfl (gT g3_4) (zL) hS (zp 7 rfl rfl (gT g3_4) (zL) hS (zp 8 rfl rfl (gT g3_4) (y4 rfl rfl (zh (by omega))) hS (zp 9 rfl rfl (gT g3_4) (yA (pV 0 rfl) 1 (f + ((2 * r) + 1)) rfl rfl rfl (by omega)) hS (zp 10 rfl rfl (gT g3_4) (yX (pV 0 rfl) 1 (f + ((2 * r) + 1)) 0 (fun _ => rfl) rfl rfl (by omega) rfl) hS (zp 11 rfl rfl (gT g3_4) (zL) hS (zp 12 rfl rfl (gT g3_4) (zL) hS (zp 13 rfl rfl (gT g3_4) (zL) hS (zp 14 rfl rfl (gT g3_4) (y4 rfl rfl (zh (by omega))) hS (zp 15 rfl rfl (gT g3_4) (y4 rfl rfl (zh (by omega))) hS (zp 16 rfl rfl (gT g3_4) (yA (pV 0 rfl) 1 ((f + ((2 * r) + 1)) + 1) rfl rfl rfl (by omega)) hS (zp 17 rfl rfl (gT g3_4) (yX (pV 0 rfl) 1 ((f + ((2 * r) + 1)) + 1) 0 (fun _ => rfl) rfl rfl (by omega) rfl) hS ?_))))))))))))
     refine zX 18 rfl hw (zR rfl (gT g3_4) (zP rfl rfl (fun w' hw => (xg (zH m (f + ((2 * r) + 1))) (zH m ((f + ((2 * r) + 1)) + 1)) w').mono ?_)))
     rintro _ w1 ⟨rfl, hO⟩
     refine (?_ : CL _ _ _ _ _ _ (Own w S [Res.vec 32 1 v m.length (m.flatMap U1)])) w1 (hw.frame0 hO)
     refine zE [0] rfl (by decide) (fun w' hw hS => zD 19 rfl (xv (gT g3_4)) hS (zM ?_))
     refine (?_ : C _ _ _ _ _ _ _ (Own w S [Res.vec 32 1 v m.length (m.flatMap U1)])) _ hw
     refine zT rfl (fun c2 => ?_) (fun c2 => ?_)
     ·
      refine zY (zC rfl (zn rfl rfl (zh (by omega)) rfl (zG rfl ?_)))
      exact zd (fun w' hw => ⟨2 * r + 1 + 1, ⟨rfl, rfl, rfl, rfl, rfl, trivial⟩, ⟨⟨by omega, by omega⟩, zKD c2⟩, hw⟩)
     ·
      exact xY (fun w' hw => ⟨2 * r + 1, ⟨rfl, rfl, rfl, rfl, rfl, trivial⟩, ⟨⟨by omega, by omega⟩, zGO (fun _ => c2)⟩, hw⟩)
    ·
     refine zk 5 rfl rfl (gF g3_4) rfl hS (zk 6 rfl rfl (gF g3_4) rfl hS (zk 7 rfl rfl (gF g3_4) rfl hS (zk 8 rfl rfl (gF g3_4) rfl hS (zk 9 rfl rfl (gF g3_4) rfl hS (zk 10 rfl rfl (gF g3_4) rfl hS (zk 11 rfl rfl (gF g3_4) rfl hS (zk 12 rfl rfl (gF g3_4) rfl hS (zk 13 rfl rfl (gF g3_4) rfl hS (zk 14 rfl rfl (gF g3_4) rfl hS (zk 15 rfl rfl (gF g3_4) rfl hS (zk 16 rfl rfl (gF g3_4) rfl hS (zk 17 rfl rfl (gF g3_4) rfl hS ?_))))))))))))
     refine zk 18 rfl rfl (gF g3_4) rfl hS (zD 19 rfl (xw (gF g3_4)) hS (zM ?_))
     refine (?_ : C _ _ _ _ _ _ _ (Own w S [Res.vec 32 1 v m.length (m.flatMap U1)])) _ hw
     refine xy rfl ?_
     exact xY (fun w' hw => ⟨2 * r + 1, ⟨rfl, rfl, rfl, rfl, rfl, trivial⟩, ⟨⟨by omega, by omega⟩, zGO (fun h => absurd h (by omega))⟩, hw⟩)
   have hc := hΦ.1
   have hmx := hΦ.2
   refine zK (zK (zZ [0] rfl (by decide) (by kernel_rfl) (fun w' hw hS => zD 0 rfl (zL) hS (zD 1 rfl (zL) hS (zD 2 rfl (zL) hS (zD 3 rfl (y4 rfl rfl (zh (by omega))) hS (zD 4 rfl (yA (pV 0 rfl) 1 (f + r) rfl rfl rfl (by omega)) hS (zD 5 rfl (yX (pV 0 rfl) 1 (f + r) 0 (fun _ => rfl) rfl rfl (by omega) rfl) hS (zD 6 rfl (zL) hS (zD 7 rfl (zL) hS (zD 8 rfl (zL) hS (zD 9 rfl (y4 rfl rfl (zh (by omega))) hS ?_))))))))))))
   refine zD 10 rfl (yA (pV 0 rfl) 1 (f + c) rfl rfl rfl (by omega)) hS (zD 11 rfl (yX (pV 0 rfl) 1 (f + c) 0 (fun _ => rfl) rfl rfl (by omega) rfl) hS (zX 12 rfl hw (zP rfl rfl (fun w' hw => (xg (zH m (f + r)) (zH m (f + c)) w').mono ?_))))
   rintro _ w1 ⟨rfl, hO⟩
   refine (?_ : CL _ _ _ _ _ _ (Own w S [Res.vec 32 1 v m.length (m.flatMap U1)])) w1 (hw.frame0 hO)
   refine zE [0] rfl (by decide) (fun w' hw hS => zD 13 rfl (jX (q := olt (zH m (f + r)) (zH m (f + c))) rfl) hS (zM ?_))
   refine (?_ : C _ _ _ _ _ _ _ (Own w S [Res.vec 32 1 v m.length (m.flatMap U1)])) _ hw
   refine zT rfl (fun c4 => ?_) (fun c4 => ?_)
   ·
    exact zN (zAN rfl (fun w' hw => ⟨m, rfl, hSm, hX.done (fun c' h1 h2 => xM (hmx c' h1 h2) c4), hw⟩))
   ·
    refine zJ (yh (fun (n : List Nat) => [(0, v), (2, Vi hi), (3, Vj f), (9, Vj c)]) (fun (n : List Nat) => n = yM m (f + r) (f + c)) (fun (n : List Nat) => [Res.vec 32 1 v n.length (n.flatMap U1)]) ?_ (fun n g hΦ => ?_))
    ·
     refine zZ [] rfl (by decide) (by kernel_rfl) (fun w' hw hS => zD 0 rfl (zL) hS (zD 1 rfl (zL) hS (zD 2 rfl (zL) hS (zD 3 rfl (y4 rfl rfl (zh (by omega))) hS (zD 4 rfl (zL) hS (zD 5 rfl (zL) hS (zD 6 rfl (zL) hS (zD 7 rfl (y4 rfl rfl (zh (by omega))) hS (zD 8 rfl (zL) hS (zD 9 rfl (zL) hS (zD 10 rfl (zL) hS (zD 11 rfl (y4 rfl rfl (zh (by omega))) hS ?_))))))))))))
     refine zD 14 rfl (zL) hS (zD 15 rfl (zL) hS (zD 16 rfl (zL) hS (zD 17 rfl (y4 rfl rfl (zh (by omega))) hS (za 12 18 ?_ ?_))))
     ·
      refine zU 12 rfl hw (zF (pV 0 rfl) 1 (f + c) rfl rfl rfl (by omega) rfl (zE [] rfl (by decide) (fun w' hw hS => za 13 18 ?_ ?_)))
      ·
       refine zU 13 rfl hw (zQ (pV 0 rfl) 1 (f + c) 0 (fun _ => rfl) rfl rfl (by omega) rfl rfl (zI 18 rfl (zF (pV 0 rfl) 1 (f + r) rfl rfl rfl (by omega) rfl (zI 19 rfl (zQ (pV 0 rfl) 1 (f + r) 0 (fun _ => rfl) rfl rfl (by omega) rfl rfl (zI 20 rfl (zF (pV 0 rfl) 1 (f + r) rfl rfl rfl (by omega) rfl (zI 21 rfl ?_))))))))
       refine zS 0 (f + r) (zH m (f + c)) rfl (fun _ => rfl) rfl (by omega) rfl rfl rfl (by omega) (zI 22 rfl (zF (pV 0 rfl) 1 (f + c) rfl rfl rfl (by simp only [List.length_set]; omega) rfl (zI 23 rfl (zS 0 (f + c) (zH m (f + r)) rfl (fun _ => rfl) rfl (by omega) rfl rfl rfl (by simp only [List.length_set]; omega) (zE [] rfl (by decide) (fun w' hw hS => zM ?_))))))
       exact ⟨yM m (f + r) (f + c), ⟨rfl, rfl, rfl, rfl, trivial⟩, rfl, hw⟩
      ·
       refine zU 18 rfl hw (zF (pV 0 rfl) 1 (f + r) rfl rfl rfl (by omega) rfl (zE [] rfl (by decide) (fun w' hw hS => za 13 19 ?_ ?_)))
       ·
        refine zU 13 rfl hw (zQ (pV 0 rfl) 1 (f + c) 0 (fun _ => rfl) rfl rfl (by omega) rfl rfl (zI 19 rfl (zQ (pV 0 rfl) 1 (f + r) 0 (fun _ => rfl) rfl rfl (by omega) rfl rfl (zI 20 rfl (zF (pV 0 rfl) 1 (f + r) rfl rfl rfl (by omega) rfl (zI 21 rfl (zS 0 (f + r) (zH m (f + c)) rfl (fun _ => rfl) rfl (by omega) rfl rfl rfl (by omega) (zI 22 rfl ?_))))))))
        refine zF (pV 0 rfl) 1 (f + c) rfl rfl rfl (by simp only [List.length_set]; omega) rfl (zI 23 rfl (zS 0 (f + c) (zH m (f + r)) rfl (fun _ => rfl) rfl (by omega) rfl rfl rfl (by simp only [List.length_set]; omega) (zE [] rfl (by decide) (fun w' hw hS => zM ?_))))
        exact ⟨yM m (f + r) (f + c), ⟨rfl, rfl, rfl, rfl, trivial⟩, rfl, hw⟩
       ·
        refine zU 19 rfl hw (zQ (pV 0 rfl) 1 (f + r) 0 (fun _ => rfl) rfl rfl (by omega) rfl rfl (zI 13 rfl (zQ (pV 0 rfl) 1 (f + c) 0 (fun _ => rfl) rfl rfl (by omega) rfl rfl (zI 20 rfl (zF (pV 0 rfl) 1 (f + r) rfl rfl rfl (by omega) rfl (zI 21 rfl (zS 0 (f + r) (zH m (f + c)) rfl (fun _ => rfl) rfl (by omega) rfl rfl rfl (by omega) (zI 22 rfl ?_))))))))
        refine zF (pV 0 rfl) 1 (f + c) rfl rfl rfl (by simp only [List.length_set]; omega) rfl (zI 23 rfl (zS 0 (f + c) (zH m (f + r)) rfl (fun _ => rfl) rfl (by omega) rfl rfl rfl (by simp only [List.length_set]; omega) (zE [] rfl (by decide) (fun w' hw hS => zM ?_))))
        exact ⟨yM m (f + r) (f + c), ⟨rfl, rfl, rfl, rfl, trivial⟩, rfl, hw⟩
     ·
      refine zU 18 rfl hw (zF (pV 0 rfl) 1 (f + r) rfl rfl rfl (by omega) rfl (zE [] rfl (by decide) (fun w' hw hS => za 12 19 ?_ ?_)))
      ·
       refine zU 12 rfl hw (zF (pV 0 rfl) 1 (f + c) rfl rfl rfl (by omega) rfl (zE [] rfl (by decide) (fun w' hw hS => za 13 19 ?_ ?_)))
       ·
        refine zU 13 rfl hw (zQ (pV 0 rfl) 1 (f + c) 0 (fun _ => rfl) rfl rfl (by omega) rfl rfl (zI 19 rfl (zQ (pV 0 rfl) 1 (f + r) 0 (fun _ => rfl) rfl rfl (by omega) rfl rfl (zI 20 rfl (zF (pV 0 rfl) 1 (f + r) rfl rfl rfl (by omega) rfl (zI 21 rfl (zS 0 (f + r) (zH m (f + c)) rfl (fun _ => rfl) rfl (by omega) rfl rfl rfl (by omega) (zI 22 rfl ?_))))))))
        refine zF (pV 0 rfl) 1 (f + c) rfl rfl rfl (by simp only [List.length_set]; omega) rfl (zI 23 rfl (zS 0 (f + c) (zH m (f + r)) rfl (fun _ => rfl) rfl (by omega) rfl rfl rfl (by simp only [List.length_set]; omega) (zE [] rfl (by decide) (fun w' hw hS => zM ?_))))
        exact ⟨yM m (f + r) (f + c), ⟨rfl, rfl, rfl, rfl, trivial⟩, rfl, hw⟩
       ·
        refine zU 19 rfl hw (zQ (pV 0 rfl) 1 (f + r) 0 (fun _ => rfl) rfl rfl (by omega) rfl rfl (zI 13 rfl (zQ (pV 0 rfl) 1 (f + c) 0 (fun _ => rfl) rfl rfl (by omega) rfl rfl (zI 20 rfl (zF (pV 0 rfl) 1 (f + r) rfl rfl rfl (by omega) rfl (zI 21 rfl (zS 0 (f + r) (zH m (f + c)) rfl (fun _ => rfl) rfl (by omega) rfl rfl rfl (by omega) (zI 22 rfl ?_))))))))
        refine zF (pV 0 rfl) 1 (f + c) rfl rfl rfl (by simp only [List.length_set]; omega) rfl (zI 23 rfl (zS 0 (f + c) (zH m (f + r)) rfl (fun _ => rfl) rfl (by omega) rfl rfl rfl (by simp only [List.length_set]; omega) (zE [] rfl (by decide) (fun w' hw hS => zM ?_))))
        exact ⟨yM m (f + r) (f + c), ⟨rfl, rfl, rfl, rfl, trivial⟩, rfl, hw⟩
      ·
       refine zU 19 rfl hw (zQ (pV 0 rfl) 1 (f + r) 0 (fun _ => rfl) rfl rfl (by omega) rfl rfl (zI 12 rfl (zF (pV 0 rfl) 1 (f + c) rfl rfl rfl (by omega) rfl (zI 13 rfl (zQ (pV 0 rfl) 1 (f + c) 0 (fun _ => rfl) rfl rfl (by omega) rfl rfl (zI 20 rfl (zF (pV 0 rfl) 1 (f + r) rfl rfl rfl (by omega) rfl (zI 21 rfl ?_))))))))
       refine zS 0 (f + r) (zH m (f + c)) rfl (fun _ => rfl) rfl (by omega) rfl rfl rfl (by omega) (zI 22 rfl (zF (pV 0 rfl) 1 (f + c) rfl rfl rfl (by simp only [List.length_set]; omega) rfl (zI 23 rfl (zS 0 (f + c) (zH m (f + r)) rfl (fun _ => rfl) rfl (by omega) rfl rfl rfl (by simp only [List.length_set]; omega) (zE [] rfl (by decide) (fun w' hw hS => zM ?_))))))
       exact ⟨yM m (f + r) (f + c), ⟨rfl, rfl, rfl, rfl, trivial⟩, rfl, hw⟩
    have hn := hΦ
    refine zY (zC rfl (zG rfl ?_))
    exact zd (fun w' hw => ⟨c, n, ⟨rfl, rfl, rfl, rfl, trivial⟩, ⟨⟨by omega, by omega⟩, by rw [hn]; exact hSm.then_swp ⟨by omega, by omega⟩ ⟨by omega, by omega⟩ hh, by rw [hn]; exact hX.step hr.1 hc.1 hc.2 (by omega) hmx (Decidable.not_not.1 c4)⟩, hw, (by omega)⟩)
theorem zEp {S : List Nat} (v : Value) (l : List Nat) (a b : Nat) (w : World) (ha : a < b) (hb : b ≤ l.length) (hl : z6 l.length) (hin : Own w S [Res.vec 32 1 v l.length (l.flatMap U1)] w) : Rets Tryz.prog 79 #[v, Vj a, Vj b] w fun u_ w' => ∃ (l' : List Nat), u_ = .tuple #[] ∧ Same a b l l' ∧ Up a b l' ∧ Own w S [Res.vec 32 1 v l'.length (l'.flatMap U1)] w' := by
  refine ze Tryz.func79 rfl Tryz.ntmps79 hin ?_
  refine zB (zC rfl (zG rfl (zA (zB (zG rfl (zA (zB (zC rfl (zC rfl (yJ (c := ((b - a : Nat) : Int)) rfl rfl (wsi (by omega) (by omega)) rfl (zG rfl (zA ?_))))))))))))
  refine zK (zB (zC rfl (yJ (c := ((b - a - 1 : Nat) : Int)) rfl rfl (xi (by omega) (by omega)) rfl (xn (c := (((b - a - 1) / 2 : Nat) : Int)) rfl rfl (by decide) (qui (b := 2) (by omega)) rfl (zG rfl (zA (zW ?_)))))))
  refine xF (fun (i : Nat) (m : List Nat) => [(0, v), (6, Vj a), (7, Vi 0), (8, Vj (b - a)), (9, Vi (((i : Nat) : Int) - 1))]) (fun (i : Nat) (m : List Nat) => i ≤ (b - a - 1) / 2 + 1 ∧ Same a b l m ∧ Hp i (b - a) a m) (fun (i : Nat) (m : List Nat) => [Res.vec 32 1 v m.length (m.flatMap U1)]) (fun (i : Nat) (m : List Nat) => i) (fun w' hw => ⟨(b - a - 1) / 2 + 1, l, ⟨rfl, rfl, rfl, rfl, vi (by omega), trivial⟩, ⟨Nat.le_refl _, Same.refl _ _ _, Hp.none (by omega)⟩, hw⟩) (fun i m g hΦ => ?_)
  have hml := hΦ.2.1.len
  have hi1 := hΦ.1
  have hSm := hΦ.2.1
  have hH := hΦ.2.2
  refine zK (zB (zC rfl (yW rfl rfl rfl (zA (zT rfl (fun c1 => ?_) (fun c1 => ?_))))))
  ·
   refine zJ (zK (zW (zY (zC rfl (zC rfl (zC rfl (zC rfl (zP rfl rfl (fun w' hw => (zGR v m (((i : Nat) : Int) - 1) ((b - a : Nat) : Int) a w' (by omega) (by omega) (by first | assumption | omega | (simp <;> omega) | (constructor <;> (first | omega | (simp only [z6]; omega) | (simp <;> omega)))) (by rw [show (((i : Nat) : Int) - 1).toNat + 1 = i by omega, Int.toNat_natCast]; exact hH) (hw.give [0] rfl (by decide))).mono ?_)))))))))
   rintro _ w1 ⟨l'1_, rfl, hf6_4, hf6_4_1, hO⟩
   have q2 : Hp (i - 1) (b - a) a l'1_ := (by have h := hf6_4_1; rwa [show (((i : Nat) : Int) - 1).toNat = i - 1 by omega, Int.toNat_natCast] at h)
   refine (?_ : CL _ _ _ _ _ _ (Own w S [Res.vec 32 1 v l'1_.length (l'1_.flatMap U1)])) w1 (hw.frameL [0] rfl hO)
   refine zA (zY (zC rfl (yJ rfl rfl (zh (by omega)) rfl (zG rfl ?_))))
   exact zd (fun w' hw => ⟨i - 1, l'1_, ⟨rfl, rfl, rfl, rfl, vi (by omega), trivial⟩, ⟨by omega, hSm.trans (hf6_4.wide (by omega) (by omega)), q2⟩, hw, (by omega)⟩)
  ·
   refine z8 rfl (zB (zC rfl (yJ rfl rfl (zh (by omega)) rfl (zG rfl (zA (zW ?_))))))
   refine xF (fun (i : Nat) (m : List Nat) => [(0, v), (6, Vj a), (7, Vi 0), (10, Vi (((i : Nat) : Int) - 1))]) (fun (i : Nat) (m : List Nat) => i ≤ b - a ∧ Same a b l m ∧ HpUp i (b - a) a m) (fun (i : Nat) (m : List Nat) => [Res.vec 32 1 v m.length (m.flatMap U1)]) (fun (i : Nat) (m : List Nat) => i) (fun w' hw => ⟨b - a, m, ⟨rfl, rfl, rfl, rfl, trivial⟩, ⟨Nat.le_refl _, hSm, HpUp.start (by have h0 : i = 0 := (by omega); rw [h0] at hH; exact hH)⟩, hw⟩) (fun i m g hΦ => ?_)
   have hml2 := hΦ.2.1.len
   have hi2 := hΦ.1
   have hS2 := hΦ.2.1
   have hU2 := hΦ.2.2
   refine zK (zB (zC rfl (yW rfl rfl rfl (zA (zT rfl (fun c2 => ?_) (fun c2 => ?_))))))
   ·
    have hU3 : HpUp (i - 1 + 1) (b - a) a m := by rw [show i - 1 + 1 = i by omega]; exact hU2
    have hsw := hU3.swap (by omega) (by omega)
    refine zJ (zK (zW (yh (fun (n : List Nat) => [(0, v), (6, Vj a), (7, Vi 0), (10, Vi (((i : Nat) : Int) - 1))]) (fun (n : List Nat) => n = yM m a (a + (i - 1))) (fun (n : List Nat) => [Res.vec 32 1 v n.length (n.flatMap U1)]) ?_ (fun n g hΦ => ?_))))
    ·
     refine zZ [] rfl (by decide) (by kernel_rfl) (fun w' hw hS => zD 0 rfl (zL) hS (zD 1 rfl (zL) hS (zD 2 rfl (zL) hS (zD 3 rfl (zL) hS (zD 4 rfl (zL) hS (zD 5 rfl (y4 (c := ((a + (i - 1) : Nat) : Int)) rfl rfl (by rw [show ((a : Nat) : Int) + (((i : Nat) : Int) - 1) = ((a + (i - 1) : Nat) : Int) by omega]; exact zh (by omega))) hS (zD 6 rfl (zL) hS (zD 7 rfl (zL) hS (zD 8 rfl (zL) hS (zD 9 rfl (y4 (c := ((a + (i - 1) : Nat) : Int)) rfl rfl (by rw [show ((a : Nat) : Int) + (((i : Nat) : Int) - 1) = ((a + (i - 1) : Nat) : Int) by omega]; exact zh (by omega))) hS (zD 12 rfl (zL) hS (zD 13 rfl (zL) hS ?_))))))))))))
     refine za 10 14 ?_ ?_
     ·
      refine zU 10 rfl hw (zF (pV 0 rfl) 1 (a + (i - 1)) rfl rfl rfl (by omega) rfl (zE [] rfl (by decide) (fun w' hw hS => za 11 14 ?_ ?_)))
      ·
       refine zU 11 rfl hw (zQ (pV 0 rfl) 1 (a + (i - 1)) 0 (fun _ => rfl) rfl rfl (by omega) rfl rfl (zI 14 rfl (zF (pV 0 rfl) 1 a rfl rfl rfl (by omega) rfl (zI 15 rfl (zQ (pV 0 rfl) 1 a 0 (fun _ => rfl) rfl rfl (by omega) rfl rfl (zI 16 rfl (zF (pV 0 rfl) 1 a rfl rfl rfl (by omega) rfl (zI 17 rfl ?_))))))))
       refine zS 0 a (zH m (a + (i - 1))) rfl (fun _ => rfl) rfl (by omega) rfl rfl rfl (by omega) (zI 18 rfl (zF (pV 0 rfl) 1 (a + (i - 1)) rfl rfl rfl (by simp only [List.length_set]; omega) rfl (zI 19 rfl (zS 0 (a + (i - 1)) (zH m a) rfl (fun _ => rfl) rfl (by omega) rfl rfl rfl (by simp only [List.length_set]; omega) (zE [] rfl (by decide) (fun w' hw hS => zM ?_))))))
       exact ⟨yM m a (a + (i - 1)), ⟨rfl, rfl, rfl, rfl, trivial⟩, rfl, hw⟩
      ·
       refine zU 14 rfl hw (zF (pV 0 rfl) 1 a rfl rfl rfl (by omega) rfl (zE [] rfl (by decide) (fun w' hw hS => za 11 15 ?_ ?_)))
       ·
        refine zU 11 rfl hw (zQ (pV 0 rfl) 1 (a + (i - 1)) 0 (fun _ => rfl) rfl rfl (by omega) rfl rfl (zI 15 rfl (zQ (pV 0 rfl) 1 a 0 (fun _ => rfl) rfl rfl (by omega) rfl rfl (zI 16 rfl (zF (pV 0 rfl) 1 a rfl rfl rfl (by omega) rfl (zI 17 rfl (zS 0 a (zH m (a + (i - 1))) rfl (fun _ => rfl) rfl (by omega) rfl rfl rfl (by omega) (zI 18 rfl ?_))))))))
        refine zF (pV 0 rfl) 1 (a + (i - 1)) rfl rfl rfl (by simp only [List.length_set]; omega) rfl (zI 19 rfl (zS 0 (a + (i - 1)) (zH m a) rfl (fun _ => rfl) rfl (by omega) rfl rfl rfl (by simp only [List.length_set]; omega) (zE [] rfl (by decide) (fun w' hw hS => zM ?_))))
        exact ⟨yM m a (a + (i - 1)), ⟨rfl, rfl, rfl, rfl, trivial⟩, rfl, hw⟩
       ·
        refine zU 15 rfl hw (zQ (pV 0 rfl) 1 a 0 (fun _ => rfl) rfl rfl (by omega) rfl rfl (zI 11 rfl (zQ (pV 0 rfl) 1 (a + (i - 1)) 0 (fun _ => rfl) rfl rfl (by omega) rfl rfl (zI 16 rfl (zF (pV 0 rfl) 1 a rfl rfl rfl (by omega) rfl (zI 17 rfl (zS 0 a (zH m (a + (i - 1))) rfl (fun _ => rfl) rfl (by omega) rfl rfl rfl (by omega) (zI 18 rfl ?_))))))))
        refine zF (pV 0 rfl) 1 (a + (i - 1)) rfl rfl rfl (by simp only [List.length_set]; omega) rfl (zI 19 rfl (zS 0 (a + (i - 1)) (zH m a) rfl (fun _ => rfl) rfl (by omega) rfl rfl rfl (by simp only [List.length_set]; omega) (zE [] rfl (by decide) (fun w' hw hS => zM ?_))))
        exact ⟨yM m a (a + (i - 1)), ⟨rfl, rfl, rfl, rfl, trivial⟩, rfl, hw⟩
     ·
      refine zU 14 rfl hw (zF (pV 0 rfl) 1 a rfl rfl rfl (by omega) rfl (zE [] rfl (by decide) (fun w' hw hS => za 10 15 ?_ ?_)))
      ·
       refine zU 10 rfl hw (zF (pV 0 rfl) 1 (a + (i - 1)) rfl rfl rfl (by omega) rfl (zE [] rfl (by decide) (fun w' hw hS => za 11 15 ?_ ?_)))
       ·
        refine zU 11 rfl hw (zQ (pV 0 rfl) 1 (a + (i - 1)) 0 (fun _ => rfl) rfl rfl (by omega) rfl rfl (zI 15 rfl (zQ (pV 0 rfl) 1 a 0 (fun _ => rfl) rfl rfl (by omega) rfl rfl (zI 16 rfl (zF (pV 0 rfl) 1 a rfl rfl rfl (by omega) rfl (zI 17 rfl (zS 0 a (zH m (a + (i - 1))) rfl (fun _ => rfl) rfl (by omega) rfl rfl rfl (by omega) (zI 18 rfl ?_))))))))
        refine zF (pV 0 rfl) 1 (a + (i - 1)) rfl rfl rfl (by simp only [List.length_set]; omega) rfl (zI 19 rfl (zS 0 (a + (i - 1)) (zH m a) rfl (fun _ => rfl) rfl (by omega) rfl rfl rfl (by simp only [List.length_set]; omega) (zE [] rfl (by decide) (fun w' hw hS => zM ?_))))
        exact ⟨yM m a (a + (i - 1)), ⟨rfl, rfl, rfl, rfl, trivial⟩, rfl, hw⟩
       ·
        refine zU 15 rfl hw (zQ (pV 0 rfl) 1 a 0 (fun _ => rfl) rfl rfl (by omega) rfl rfl (zI 11 rfl (zQ (pV 0 rfl) 1 (a + (i - 1)) 0 (fun _ => rfl) rfl rfl (by omega) rfl rfl (zI 16 rfl (zF (pV 0 rfl) 1 a rfl rfl rfl (by omega) rfl (zI 17 rfl (zS 0 a (zH m (a + (i - 1))) rfl (fun _ => rfl) rfl (by omega) rfl rfl rfl (by omega) (zI 18 rfl ?_))))))))
        refine zF (pV 0 rfl) 1 (a + (i - 1)) rfl rfl rfl (by simp only [List.length_set]; omega) rfl (zI 19 rfl (zS 0 (a + (i - 1)) (zH m a) rfl (fun _ => rfl) rfl (by omega) rfl rfl rfl (by simp only [List.length_set]; omega) (zE [] rfl (by decide) (fun w' hw hS => zM ?_))))
        exact ⟨yM m a (a + (i - 1)), ⟨rfl, rfl, rfl, rfl, trivial⟩, rfl, hw⟩
      ·
       refine zU 15 rfl hw (zQ (pV 0 rfl) 1 a 0 (fun _ => rfl) rfl rfl (by omega) rfl rfl (zI 10 rfl (zF (pV 0 rfl) 1 (a + (i - 1)) rfl rfl rfl (by omega) rfl (zI 11 rfl (zQ (pV 0 rfl) 1 (a + (i - 1)) 0 (fun _ => rfl) rfl rfl (by omega) rfl rfl (zI 16 rfl (zF (pV 0 rfl) 1 a rfl rfl rfl (by omega) rfl (zI 17 rfl ?_))))))))
       refine zS 0 a (zH m (a + (i - 1))) rfl (fun _ => rfl) rfl (by omega) rfl rfl rfl (by omega) (zI 18 rfl (zF (pV 0 rfl) 1 (a + (i - 1)) rfl rfl rfl (by simp only [List.length_set]; omega) rfl (zI 19 rfl (zS 0 (a + (i - 1)) (zH m a) rfl (fun _ => rfl) rfl (by omega) rfl rfl rfl (by simp only [List.length_set]; omega) (zE [] rfl (by decide) (fun w' hw hS => zM ?_))))))
       exact ⟨yM m a (a + (i - 1)), ⟨rfl, rfl, rfl, rfl, trivial⟩, rfl, hw⟩
    have hn := hΦ
    have hnl : n.length = m.length := by rw [hn, zDB]
    refine zY (zC rfl (zC rfl (zC rfl (zC rfl (zP rfl rfl (fun w' hw => (zGR v n 0 (((i : Nat) : Int) - 1) a w' (by omega) (by omega) (by first | assumption | omega | (simp <;> omega) | (constructor <;> (first | omega | (simp only [z6]; omega) | (simp <;> omega)))) (by rw [show (((i : Nat) : Int) - 1).toNat = i - 1 by omega, hn]; exact hsw.1) (hw.give [0] rfl (by decide))).mono ?_))))))
    rintro _ w1 ⟨l'2_, rfl, hf11_4, hf11_4_1, hO⟩
    have q3 : Hp 0 (i - 1) a l'2_ := (by have h := hf11_4_1; rwa [show (((i : Nat) : Int) - 1).toNat = i - 1 by omega] at h)
    have q4 : Same a (a + (i - 1)) n l'2_ := hf11_4.wide (by omega) (by omega)
    refine (?_ : CL _ _ _ _ _ _ (Own w S [Res.vec 32 1 v l'2_.length (l'2_.flatMap U1)])) w1 (hw.frameL [0] rfl hO)
    refine zA (zY (zC rfl (yJ rfl rfl (zh (by omega)) rfl (zG rfl ?_))))
    exact zd (fun w' hw => ⟨i - 1, l'2_, ⟨rfl, rfl, rfl, vi (by omega), trivial⟩, ⟨by omega, (hS2.then_swp ⟨by omega, by omega⟩ ⟨by omega, by omega⟩ hb).trans ((hn ▸ q4).wide (by omega) (by omega)), HpUp.sift hsw.2 q3 (hn ▸ q4) (by omega) (by rw [zDB]; omega)⟩, hw, (by omega)⟩)
   ·
    exact yv rfl (zAN rfl (fun w' hw => ⟨m, rfl, hS2, (by have h := hU2.up; have h0 : i = 0 := (by omega); rw [h0, Nat.add_zero, show a + (b - a) = b by omega] at h; exact h), hw⟩))
end Go.Proofs.YtcdiehplbmkmeaaGreat
