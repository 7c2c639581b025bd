import Derived.Test.YtkkeknmkipkbmaaGreatFwG
import Derived.Test.YtkkeknmkipkbmaaGreatSrtB
import Derived.Test.YtkkeknmkipkbmaaGreatConfB
set_option linter.unusedSectionVars false
set_option linter.unusedSimpArgs false
set_option linter.unusedVariables false
set_option maxRecDepth 10000
namespace Go.Proofs.YtkkeknmkipkbmaaGreat
open Go Go.Sc Go.Proofs
instance : SO Int := ⟨fun a b => a < b, fun a b => inferInstance, fun h k => by omega, fun h k => by omega⟩
theorem ole_int {a b : Int} : kS a b ↔ a ≤ b := Int.not_lt
theorem zK0 (x : Nat) (w : World) : Rets Tryz.prog 231 #[Vn x] w fun u_ w' => u_ = .bool false ∧ Own w [] [] w' := by
  refine zT Tryz.func231 rfl Tryz.ntmps231 (Own.start w) ?_
  refine zB (zK rfl (zA (zB (zD rfl (zD rfl (kR rfl rfl rfl (zK rfl (zA ?_))))))))
  exact zY (yD (v := .bool (decide (((x : Nat) : Int) ≠ ((x : Nat) : Int)))) rfl rfl (fun w' hw => ⟨(by simp), hw.drop⟩))
theorem zJb (x y : Nat) (w : World) : Rets Tryz.prog 215 #[Vn x, Vn y] w fun u_ w' => u_ = .bool (decide (olt x y)) ∧ Own w [] [] w' := by
  refine zT Tryz.func215 rfl Tryz.ntmps215 (Own.start w) ?_
  refine zB (zK rfl (zA (zB (zD rfl (zH rfl rfl (fun w' hw => (zK0 x w').mono ?_))))))
  rintro _ w1 ⟨rfl, hO⟩
  refine (?_ : CL _ _ _ _ _ _ (Own w [] [])) w1 (hw.frame0 hO)
  refine zD rfl (jk rfl rfl rfl rfl (jk rfl rfl rfl rfl (jk rfl rfl rfl rfl (kX rfl rfl (zD rfl (zO rfl rfl (zD rfl (zO rfl rfl (zD rfl (zO rfl rfl (yJ rfl rfl rfl (kX rfl rfl ?_))))))))))))
  refine zK rfl (zA ?_)
  exact zY (yD (v := .bool (decide (((x : Nat) : Int) < ((y : Nat) : Int)))) rfl rfl (fun w' hw => ⟨(by congr 1; exact decide_eq_decide.2 (Int.ofNat_lt)), hw.drop⟩))
theorem zF8 {S : List Nat} (v : Value) (l : List Nat) (a b : Nat) (w : World) (ha : a ≤ b) (hb : b ≤ l.length) (hl : zd l.length) (hin : Own w S [Res.vec 22 1 v l.length (l.flatMap U1)] w) : Rets Tryz.prog 209 #[v, Vj a, Vj b] w fun u_ w' => ∃ (l' : List Nat), u_ = .tuple #[] ∧ Same a b l l' ∧ Up a b l' ∧ Own w S [Res.vec 22 1 v l'.length (l'.flatMap U1)] w' := by
  refine zT Tryz.func209 rfl Tryz.ntmps209 hin ?_
  refine zB (zD rfl (z3 rfl rfl (zy (by omega)) rfl (zK rfl (zA (zc ?_)))))
  refine y9 (fun (i : Nat) (m : List Nat) => [(0, v), (1, Vj a), (2, Vj b), (6, Vj i)]) (fun (i : Nat) (m : List Nat) => (a + 1 ≤ i ∧ (i ≤ b ∨ i = a + 1)) ∧ Same a b l m ∧ Up a i m) (fun (i : Nat) (m : List Nat) => [Res.vec 22 1 v m.length (m.flatMap U1)]) (fun (i : Nat) (m : List Nat) => b + 1 - i) (fun w' hw => ⟨a + 1, l, ⟨rfl, rfl, rfl, rfl, trivial⟩, ⟨⟨by omega, .inr rfl⟩, Same.refl _ _ _, Up.one (by omega)⟩, hw⟩) (fun i m g hΦ => ?_)
  have hml := hΦ.2.1.len
  have hi1 := hΦ.1
  have hU := hΦ.2.2
  have hS1 := hΦ.2.1
  refine zQ (zB (zD rfl (zD rfl (yJ rfl rfl rfl (zA (zf rfl (fun c1 => ?_) (fun c1 => ?_)))))))
  ·
   refine zR (zQ (zc (zB (zD rfl (zK rfl (zA (zc ?_)))))))
   refine y9 (fun (j : Nat) (q : List Nat) => [(0, v), (1, Vj a), (2, Vj b), (6, Vj i), (7, Vj j)]) (fun (j : Nat) (q : List Nat) => (a ≤ j ∧ j ≤ i) ∧ Same a b l q ∧ Ins a i j q) (fun (j : Nat) (q : List Nat) => [Res.vec 22 1 v q.length (q.flatMap U1)]) (fun (j : Nat) (q : List Nat) => j) (fun w' hw => ⟨i, m, ⟨rfl, rfl, rfl, rfl, rfl, trivial⟩, ⟨⟨by omega, by omega⟩, hS1, Ins.start hU⟩, hw⟩) (fun j q g hΦ => ?_)
   have hql := hΦ.2.1.len
   have hj1 := hΦ.1
   have hS2 := hΦ.2.1
   have hI2 := hΦ.2.2
   refine zQ (zQ (zk [0] rfl (by decide) (by kernel_rfl) (fun w' hw hS => zC 0 rfl (zU) hS (zC 1 rfl (zU) hS (zC 2 rfl (zBQ rfl rfl) hS (zC 3 rfl (zU) hS ?_))))))
   by_cases g4_3 : ((a : Nat) : Int) < ((j : Nat) : Int)
   ·
    refine zZ 4 rfl rfl (gT g4_3) (zU) hS (zZ 5 rfl rfl (gT g4_3) (zU) hS (zZ 6 rfl rfl (gT g4_3) (zAZ (pV 0 rfl) 1 j rfl rfl rfl (by omega)) hS (zZ 7 rfl rfl (gT g4_3) (zDS (pV 0 rfl) 1 j 0 (fun _ => rfl) rfl rfl (by omega) rfl) hS (zZ 8 rfl rfl (gT g4_3) (zU) hS (zZ 9 rfl rfl (gT g4_3) (zU) hS (zZ 10 rfl rfl (gT g4_3) (xb (c := ((j - 1 : Nat) : Int)) rfl rfl (zCP (by omega) (by omega))) hS (zZ 11 rfl rfl (gT g4_3) (zAZ (pV 0 rfl) 1 (j - 1) rfl rfl rfl (by omega)) hS (zZ 12 rfl rfl (gT g4_3) (zDS (pV 0 rfl) 1 (j - 1) 0 (fun _ => rfl) rfl rfl (by omega) rfl) hS (zN 13 rfl hw (zO rfl (gT g4_3) (zH rfl rfl (fun w' hw => (zJb (zG q j) (zG q (j - 1)) w').mono ?_))))))))))))
    rintro _ w1 ⟨rfl, hO⟩
    refine (?_ : CL _ _ _ _ _ _ (Own w S [Res.vec 22 1 v q.length (q.flatMap U1)])) w1 (hw.frame0 hO)
    refine zE [0] rfl (by decide) (fun w' hw hS => zC 14 rfl (yb (gT g4_3)) hS (zX ?_))
    refine (?_ : C _ _ _ _ _ _ _ (Own w S [Res.vec 22 1 v q.length (q.flatMap U1)])) _ hw
    refine zf rfl (fun c2 => ?_) (fun c2 => ?_)
    ·
     refine zR (xD (fun (n : List Nat) => [(0, v), (1, Vj a), (2, Vj b), (6, Vj i), (7, Vj j)]) (fun (n : List Nat) => n = swp q j (j - 1)) (fun (n : List Nat) => [Res.vec 22 1 v n.length (n.flatMap U1)]) ?_ (fun n g hΦ => ?_))
     ·
      refine zc (zk [] rfl (by decide) (by kernel_rfl) (fun w' hw hS => zC 0 rfl (zU) hS (zC 1 rfl (zU) hS (zC 2 rfl (zU) hS (zC 3 rfl (zU) hS (zC 4 rfl (xb (c := ((j - 1 : Nat) : Int)) rfl rfl (zCP (by omega) (by omega))) hS (zC 5 rfl (zU) hS (zC 6 rfl (zU) hS (zC 7 rfl (xb (c := ((j - 1 : Nat) : Int)) rfl rfl (zCP (by omega) (by omega))) hS (zC 10 rfl (zU) hS (zC 11 rfl (zU) hS (yA 8 12 ?_ ?_))))))))))))
      ·
       refine zr 8 rfl hw (zm (pV 0 rfl) 1 (j - 1) rfl rfl rfl (by omega) rfl (zE [] rfl (by decide) (fun w' hw hS => yA 9 12 ?_ ?_)))
       ·
        refine zr 9 rfl hw (yR (pV 0 rfl) 1 (j - 1) 0 (fun _ => rfl) rfl rfl (by omega) rfl rfl (yg 12 rfl (zm (pV 0 rfl) 1 j rfl rfl rfl (by omega) rfl (yg 13 rfl (yR (pV 0 rfl) 1 j 0 (fun _ => rfl) rfl rfl (by omega) rfl rfl (yg 14 rfl (zm (pV 0 rfl) 1 j rfl rfl rfl (by omega) rfl (yg 15 rfl ?_))))))))
        refine xO 0 j (zG q (j - 1)) rfl (fun _ => rfl) rfl (by omega) rfl rfl rfl (by omega) (yg 16 rfl (zm (pV 0 rfl) 1 (j - 1) rfl rfl rfl (by simp only [List.length_set]; omega) rfl (yg 17 rfl (xO 0 (j - 1) (zG q j) rfl (fun _ => rfl) rfl (by omega) rfl rfl rfl (by simp only [List.length_set]; omega) (zE [] rfl (by decide) (fun w' hw hS => zX ?_))))))
        exact ⟨swp q j (j - 1), ⟨rfl, rfl, rfl, rfl, rfl, trivial⟩, rfl, hw⟩
       ·
        refine zr 12 rfl hw (zm (pV 0 rfl) 1 j rfl rfl rfl (by omega) rfl (zE [] rfl (by decide) (fun w' hw hS => yA 9 13 ?_ ?_)))
        ·
         refine zr 9 rfl hw (yR (pV 0 rfl) 1 (j - 1) 0 (fun _ => rfl) rfl rfl (by omega) rfl rfl (yg 13 rfl (yR (pV 0 rfl) 1 j 0 (fun _ => rfl) rfl rfl (by omega) rfl rfl (yg 14 rfl (zm (pV 0 rfl) 1 j rfl rfl rfl (by omega) rfl (yg 15 rfl (xO 0 j (zG q (j - 1)) rfl (fun _ => rfl) rfl (by omega) rfl rfl rfl (by omega) (yg 16 rfl ?_))))))))
         refine zm (pV 0 rfl) 1 (j - 1) rfl rfl rfl (by simp only [List.length_set]; omega) rfl (yg 17 rfl (xO 0 (j - 1) (zG q j) rfl (fun _ => rfl) rfl (by omega) rfl rfl rfl (by simp only [List.length_set]; omega) (zE [] rfl (by decide) (fun w' hw hS => zX ?_))))
         exact ⟨swp q j (j - 1), ⟨rfl, rfl, rfl, rfl, rfl, trivial⟩, rfl, hw⟩
        ·
         refine zr 13 rfl hw (yR (pV 0 rfl) 1 j 0 (fun _ => rfl) rfl rfl (by omega) rfl rfl (yg 9 rfl (yR (pV 0 rfl) 1 (j - 1) 0 (fun _ => rfl) rfl rfl (by omega) rfl rfl (yg 14 rfl (zm (pV 0 rfl) 1 j rfl rfl rfl (by omega) rfl (yg 15 rfl (xO 0 j (zG q (j - 1)) rfl (fun _ => rfl) rfl (by omega) rfl rfl rfl (by omega) (yg 16 rfl ?_))))))))
         refine zm (pV 0 rfl) 1 (j - 1) rfl rfl rfl (by simp only [List.length_set]; omega) rfl (yg 17 rfl (xO 0 (j - 1) (zG q j) rfl (fun _ => rfl) rfl (by omega) rfl rfl rfl (by simp only [List.length_set]; omega) (zE [] rfl (by decide) (fun w' hw hS => zX ?_))))
         exact ⟨swp q j (j - 1), ⟨rfl, rfl, rfl, rfl, rfl, trivial⟩, rfl, hw⟩
      ·
       refine zr 12 rfl hw (zm (pV 0 rfl) 1 j rfl rfl rfl (by omega) rfl (zE [] rfl (by decide) (fun w' hw hS => yA 8 13 ?_ ?_)))
       ·
        refine zr 8 rfl hw (zm (pV 0 rfl) 1 (j - 1) rfl rfl rfl (by omega) rfl (zE [] rfl (by decide) (fun w' hw hS => yA 9 13 ?_ ?_)))
        ·
         refine zr 9 rfl hw (yR (pV 0 rfl) 1 (j - 1) 0 (fun _ => rfl) rfl rfl (by omega) rfl rfl (yg 13 rfl (yR (pV 0 rfl) 1 j 0 (fun _ => rfl) rfl rfl (by omega) rfl rfl (yg 14 rfl (zm (pV 0 rfl) 1 j rfl rfl rfl (by omega) rfl (yg 15 rfl (xO 0 j (zG q (j - 1)) rfl (fun _ => rfl) rfl (by omega) rfl rfl rfl (by omega) (yg 16 rfl ?_))))))))
         refine zm (pV 0 rfl) 1 (j - 1) rfl rfl rfl (by simp only [List.length_set]; omega) rfl (yg 17 rfl (xO 0 (j - 1) (zG q j) rfl (fun _ => rfl) rfl (by omega) rfl rfl rfl (by simp only [List.length_set]; omega) (zE [] rfl (by decide) (fun w' hw hS => zX ?_))))
         exact ⟨swp q j (j - 1), ⟨rfl, rfl, rfl, rfl, rfl, trivial⟩, rfl, hw⟩
        ·
         refine zr 13 rfl hw (yR (pV 0 rfl) 1 j 0 (fun _ => rfl) rfl rfl (by omega) rfl rfl (yg 9 rfl (yR (pV 0 rfl) 1 (j - 1) 0 (fun _ => rfl) rfl rfl (by omega) rfl rfl (yg 14 rfl (zm (pV 0 rfl) 1 j rfl rfl rfl (by omega) rfl (yg 15 rfl (xO 0 j (zG q (j - 1)) rfl (fun _ => rfl) rfl (by omega) rfl rfl rfl (by omega) (yg 16 rfl ?_))))))))
         refine zm (pV 0 rfl) 1 (j - 1) rfl rfl rfl (by simp only [List.length_set]; omega) rfl (yg 17 rfl (xO 0 (j - 1) (zG q j) rfl (fun _ => rfl) rfl (by omega) rfl rfl rfl (by simp only [List.length_set]; omega) (zE [] rfl (by decide) (fun w' hw hS => zX ?_))))
         exact ⟨swp q j (j - 1), ⟨rfl, rfl, rfl, rfl, rfl, trivial⟩, rfl, hw⟩
       ·
        refine zr 13 rfl hw (yR (pV 0 rfl) 1 j 0 (fun _ => rfl) rfl rfl (by omega) rfl rfl (yg 8 rfl (zm (pV 0 rfl) 1 (j - 1) rfl rfl rfl (by omega) rfl (yg 9 rfl (yR (pV 0 rfl) 1 (j - 1) 0 (fun _ => rfl) rfl rfl (by omega) rfl rfl (yg 14 rfl (zm (pV 0 rfl) 1 j rfl rfl rfl (by omega) rfl (yg 15 rfl ?_))))))))
        refine xO 0 j (zG q (j - 1)) rfl (fun _ => rfl) rfl (by omega) rfl rfl rfl (by omega) (yg 16 rfl (zm (pV 0 rfl) 1 (j - 1) rfl rfl rfl (by simp only [List.length_set]; omega) rfl (yg 17 rfl (xO 0 (j - 1) (zG q j) rfl (fun _ => rfl) rfl (by omega) rfl rfl rfl (by simp only [List.length_set]; omega) (zE [] rfl (by decide) (fun w' hw hS => zX ?_))))))
        exact ⟨swp q j (j - 1), ⟨rfl, rfl, rfl, rfl, rfl, trivial⟩, rfl, hw⟩
     have hn := hΦ
     refine zW (zD rfl (kE (c := ((j - 1 : Nat) : Int)) rfl rfl (zCP (by omega) (by omega)) rfl (zK rfl ?_)))
     exact zj (fun w' hw => ⟨j - 1, n, ⟨rfl, rfl, rfl, rfl, rfl, trivial⟩, ⟨⟨by omega, by omega⟩, by rw [hn]; exact hS2.then_swp ⟨by omega, by omega⟩ ⟨by omega, by omega⟩ hb, by rw [hn]; exact hI2.step (by omega) (by omega) (by omega) c2⟩, hw, (by omega)⟩)
    ·
     refine yQ rfl (zW (zD rfl (z3 rfl rfl (zy (by omega)) rfl (zK rfl ?_))))
     exact zj (fun w' hw => ⟨i + 1, q, ⟨rfl, rfl, rfl, rfl, trivial⟩, ⟨⟨by omega, .inl (by omega)⟩, hS2, hI2.done (fun _ => c2)⟩, hw, (by omega)⟩)
   ·
    refine zS 4 rfl rfl (gF g4_3) rfl hS (zS 5 rfl rfl (gF g4_3) rfl hS (zS 6 rfl rfl (gF g4_3) rfl hS (zS 7 rfl rfl (gF g4_3) rfl hS (zS 8 rfl rfl (gF g4_3) rfl hS (zS 9 rfl rfl (gF g4_3) rfl hS (zS 10 rfl rfl (gF g4_3) rfl hS (zS 11 rfl rfl (gF g4_3) rfl hS (zS 12 rfl rfl (gF g4_3) rfl hS (zS 13 rfl rfl (gF g4_3) rfl hS (zC 14 rfl (yG (gF g4_3)) hS (zX ?_)))))))))))
    refine (?_ : C _ _ _ _ _ _ _ (Own w S [Res.vec 22 1 v q.length (q.flatMap U1)])) _ hw
    refine x8 rfl (yQ rfl (zW (zD rfl (z3 rfl rfl (zy (by omega)) rfl (zK rfl ?_)))))
    exact zj (fun w' hw => ⟨i + 1, q, ⟨rfl, rfl, rfl, rfl, trivial⟩, ⟨⟨by omega, .inl (by omega)⟩, hS2, hI2.done (fun h => absurd h (by omega))⟩, hw, (by omega)⟩)
  ·
   exact kf rfl (yM rfl (fun w' hw => ⟨m, rfl, hS1, (fun k h1 h2 => hU k h1 (by omega)), hw⟩))
theorem zKb {S : List Nat} (v : Value) (l : List Nat) (n : Nat) (lim : Int) (w : World) (hn : n ≤ 12) (hln : n ≤ l.length) (hl : zd l.length) (hin : Own w S [Res.vec 22 1 v l.length (l.flatMap U1)] w) : Rets Tryz.prog 197 #[v, Vj 0, Vj n, Vi lim] w fun u_ w' => ∃ (l' : List Nat), u_ = .tuple #[] ∧ Same 0 n l l' ∧ Up 0 n l' ∧ Own w S [Res.vec 22 1 v l'.length (l'.flatMap U1)] w' := by
  refine zT Tryz.func197 rfl Tryz.ntmps197 hin ?_
  refine zB (zK rfl (zA (zB (zK rfl (zA (zc ?_))))))
  refine xS (fun (k : Nat) => [(0, v), (1, Vj 0), (2, Vj n), (3, Vi lim), (8, .bool true), (9, .bool true)]) (fun (k : Nat) => k = 1) (fun (k : Nat) => [Res.vec 22 1 v l.length (l.flatMap U1)]) (fun (k : Nat) => 0) (fun w' hw => ⟨1, ⟨rfl, rfl, rfl, rfl, rfl, rfl, trivial⟩, rfl, hw⟩) (fun k g hΦ => ?_)
  refine zc (zB (zD rfl (zD rfl (kE (c := ((n : Nat) : Int)) rfl rfl (zy (by omega)) rfl (zK rfl (zA (zQ (zB (zD rfl (x4 rfl rfl rfl (zA (zf rfl (fun c1 => ?_) (fun c1 => ?_)))))))))))))
  ·
   refine zB (zD rfl (zD rfl (zD rfl (zH rfl rfl (fun w' hw => (zF8 v l 0 n w' (by first | omega | (simp <;> omega)) (by first | omega | (simp <;> omega)) (by first | assumption | omega | (simp <;> omega) | (constructor <;> (first | omega | (simp only [zd]; omega) | (simp <;> omega)))) (hw.give [0] rfl (by decide))).mono ?_)))))
   rintro _ w1 ⟨l'1_, rfl, hf4_3, hf4_3_1, hO⟩
   refine (?_ : CL _ _ _ _ _ _ (Own w S [Res.vec 22 1 v l'1_.length (l'1_.flatMap U1)])) w1 (hw.frameL [0] rfl hO)
   refine zA ?_
   exact zY (yM rfl (fun w' hw => ⟨l'1_, rfl, hf4_3, hf4_3_1, hw⟩))
  ·
   exact absurd c1 (by omega)
theorem zIw {S : List Nat} (v : Value) (l : List Nat) (w : World) (hl : l.length ≤ 12) (hin : Own w S [Res.vec 22 1 v l.length (l.flatMap U1)] w) : Rets Tryz.prog 164 #[v] w fun u_ w' => ∃ (l' : List Nat), u_ = .tuple #[] ∧ l'.Perm l ∧ l'.Pairwise (fun x y => kS x y) ∧ Own w S [Res.vec 22 1 v l'.length (l'.flatMap U1)] w' := by
  refine zT Tryz.func164 rfl Tryz.ntmps164 hin ?_
  refine zB (zD rfl (zq (pV 0 rfl) rfl rfl (zK rfl (zA (zW (zD rfl (zD rfl (zD rfl (xe (by kernel_rfl) rfl (y6 (by omega)) rfl ?_ (by kernel_rfl))))))))))
  refine zH rfl rfl (fun w' hw => (zIo l.length w' (by first | omega | (simp <;> omega))).mono ?_)
  rintro _ w1 ⟨rfl, hO⟩
  refine (?_ : CL _ _ _ _ _ _ (Own w S [Res.vec 22 1 v l.length (l.flatMap U1)])) w1 (hw.frame0 hO)
  refine zH rfl rfl (fun w' hw => (zKb v l l.length (((z9 l.length) : Nat) : Int) w' (by first | omega | (simp <;> omega)) (by first | omega | (simp <;> omega)) (by first | assumption | omega | (simp <;> omega) | (constructor <;> (first | omega | (simp only [zd]; omega) | (simp <;> omega)))) (hw.give [0] rfl (by decide))).mono ?_)
  rintro _ w1 ⟨l'1_, rfl, hf1_5, hf1_5_1, hO⟩
  refine (?_ : CL _ _ _ _ _ _ (Own w S [Res.vec 22 1 v l'1_.length (l'1_.flatMap U1)])) w1 (hw.frameL [0] rfl hO)
  exact zj (yM rfl (fun w' hw => ⟨l'1_, rfl, hf1_5.perm, zAm hf1_5 hf1_5_1, hw⟩))
theorem zFG (sb : Nat) (v : Value) (l : List Nat) (hl : zd l.length) : zGY Tryz.prog 165 [.pointer (some ⟨sb, 0, none⟩)] (fun x : Nat => Value.int .u64 (x : Nat)) (fun xs => xs = l) l.length [Res.row sb 42 [v], Res.vec 22 1 v l.length (l.flatMap U1)] := by
  intro ly J L0 w Y hJ hin
  refine xZ (args := [.func (.yield ly) #[] #[], .pointer (some ⟨sb, 0, none⟩)]) Tryz.func165 rfl Tryz.ntmps165 rfl (show Own w (y8 ([Res.row sb 42 [v], Res.vec 22 1 v l.length (l.flatMap U1)] ++ L0)) (Res.row sb 42 [v] :: Res.vec 22 1 v l.length (l.flatMap U1) :: L0) w from hin) ?_
  refine zB (zM 0 (v := v) rfl rfl rfl rfl (zq (pV 1 rfl) rfl rfl (zD rfl (zA (zc ?_)))))
  refine y9 (fun (k : Nat) (Lr : List Res) => [(0, .func (.yield ly) #[] #[]), (5, v), (6, Vj l.length), (7, Vj k)]) (fun (k : Nat) (Lr : List Res) => k ≤ l.length ∧ J (l.take k) Lr) (fun (k : Nat) (Lr : List Res) => (Res.row sb 42 [v] :: Res.vec 22 1 v l.length (l.flatMap U1) :: Lr)) (fun (k : Nat) (Lr : List Res) => l.length - k) (fun w' hw => ⟨0, L0, ⟨rfl, rfl, rfl, rfl, trivial⟩, ⟨Nat.zero_le _, by simpa using hJ⟩, hw⟩) (fun k Lr g hΦ => ?_)
  have hk := hΦ.1
  have hJk := hΦ.2
  refine zB (yJ rfl rfl rfl (zA (zQ (zf rfl (fun c1 => ?_) (fun c1 => ?_)))))
  ·
   refine zR (zQ (zc (zB (zm (pV 1 rfl) 1 k rfl rfl rfl (by omega) rfl (yR (pV 1 rfl) 1 k 0 (fun _ => rfl) rfl rfl (by omega) rfl rfl (zK rfl (zA (zCn ?_))))))))
   refine x7 rfl (zU) ?_
   refine x7 rfl (zU) ?_
   refine zEw [Res.row sb 42 [v], Res.vec 22 1 v l.length (l.flatMap U1)] (zG l k) Y rfl rfl hJk (by rw [List.length_take]; omega) rfl (fun Ly1_ hJLy1_ => ?_)
   refine x7 rfl (zBG (b := true) rfl) ?_
   refine zGL ?_
   refine x8 rfl (zR (zW (z3 rfl rfl (zy (by omega)) rfl (zD rfl ?_))))
   exact zj (fun w' hw => ⟨k + 1, Ly1_, ⟨rfl, rfl, rfl, rfl, trivial⟩, ⟨by omega, by rw [zu (by omega)]; exact hJLy1_⟩, hw, (by omega)⟩)
  ·
   exact kf rfl (yM rfl (fun w' hw => ⟨l, Lr, rfl, (by have h := hJk; rwa [List.take_of_length_le (by omega)] at h), hw⟩))
theorem zI8 {S : List Nat} (v : Value) (l : List Nat) (w : World) (hin : Own w S [Res.vec 22 1 v l.length (l.flatMap U1)] w) : Rets Tryz.prog 121 #[v] w fun u_ w' => ∃ (b : Nat), u_ = .func (.func 165) #[] #[.pointer (some ⟨b, 0, none⟩)] ∧ Own w S [Res.vec 22 1 v l.length (l.flatMap U1), Res.row b 42 [v]] w' := by
  refine zT Tryz.func121 rfl Tryz.ntmps121 hin ?_
  refine zB ?_
  refine zg (fun w' hw => Own.cell1Vec (i := 0) rfl hw) (fun hc1_ => ?_)
  refine zEK rfl hc1_ rfl (fun b1 => zK rfl (zA (zB (zAs (va := []) (vb := [.pointer (some ⟨b1, 0, none⟩)]) rfl rfl rfl (zK rfl (zA ?_))))))
  exact zY (yD (v := .func (.func 165) #[] #[.pointer (some ⟨b1, 0, none⟩)]) rfl rfl (fun w' hw => ⟨b1, rfl, hw⟩))
theorem zHT {Sx : List Nat → Prop} {N : Nat} {Ls : List Res} (sg : FuncId) (lb : List Value) (hcall : xk Tryz.prog sg = true) (hseq : zGY Tryz.prog sg lb (fun x => Vn x) Sx N Ls) (hN : N ≤ 1000000000) (w : World) (hin : Own w (y8 Ls) Ls w) : Rets Tryz.prog 196 #[.slice none 0 0, .func (.func sg) #[] lb.toArray] w fun u_ w' => ∃ (v : Value) (xs : List Nat), u_ = v ∧ Sx xs ∧ Own w (y8 Ls) (Ls ++ [Res.vec 22 1 v xs.length (xs.flatMap U1)]) w' := by
  refine zB7 (args := [.slice none 0 0, .func (.func sg) #[] lb.toArray]) Tryz.func196 rfl Tryz.ntmps196 rfl rfl rfl (show Own w (y8 Ls) Ls w from hin) ?_
  refine z7 rfl rfl (fun b => ?_)
  refine zK rfl ?_
  refine zj (fun w1 hw => ?_)
  refine (?_ : CL _ _ _ _ _ _ (Own w (y8 Ls) (Ls ++ [Res.row b 42 [.slice none 0 0]]))) w1 hw
  refine zD rfl ?_
  refine zj (fun w2 hw => ?_)
  have hw2 := zt hw 22 1
  rw [List.append_assoc] at hw2
  refine zEp (enc := (fun x => Vn x)) (p := 7) (q := 5) (Ju := fun pre L => ∃ v, L = [Res.row b 42 [v], Res.vec 22 1 v pre.length (pre.flatMap U1)]) rfl hcall hseq ⟨.slice none 0 0, rfl⟩ hw2 rfl rfl rfl ?_ ?_ ?_
  · intro x w
    exact (zK rfl (zj (fun w' hw' => ⟨rfl, hw'⟩)) : CL _ _ _ _ _ _ (fun w' => w' = w)) w rfl
  · rintro pre x L w ⟨v, rfl⟩ hlen
    refine zM 0 (v := v) rfl rfl rfl rfl ?_
    refine zD rfl ?_
    refine z4 (e := 22) (sz := 1) (vs := [Vn x]) (by kernel_rfl) rfl rfl (by simp [Value.cells]) (by decide) rfl (fun b10 => ?_)
    refine yO (g := U1) (sz := 1) (by' := 8) (fun _ => rfl) (l := pre) (l' := [x]) (by simp [cell1, U1]) 1 (by kernel_rfl) rfl rfl rfl (fun w' hw' => Vec.sl (Own.holds hw' 2 _ rfl)) (by first | omega | (simp <;> omega)) (by decide) rfl (fun v11 => ?_)
    refine zg (fun w' hw => Own.cell1Vec (i := 1) rfl hw) (fun hc1_ => ?_)
    refine zo (cs := [v]) 0 rfl rfl rfl hc1_ rfl ?_
    exact zj (fun w' hw => ⟨_, ⟨_, rfl⟩, hw.sel [0, 1] rfl (by decide)⟩)
  · rintro xs L' D w' hS ⟨v, rfl⟩ hO a ha
    have hO2 := hO.perm (List.Perm.cons _ (List.perm_append_comm))
    refine zG4 (v := v) rfl ?_ hO2 (fun w'' hO3 => ⟨v, xs, rfl, hS, ?_⟩) a ha
    · exact x7 rfl (zGK 1 (v := v) rfl rfl rfl (by kernel_rfl)) (x7 rfl ya (zIl (fun w' hw => ⟨rfl, hw⟩)))
    · exact (Own.tail hO3).perm (List.perm_append_comm (l₁ := [_]))
theorem zEP {S : List Nat} (b : Nat) (v : Value) (l : List Nat) (w : World) (hl : l.length ≤ 1000000000) (hin : Own w S [Res.row b 42 [v], Res.vec 22 1 v l.length (l.flatMap U1)] w) : Rets Tryz.prog 163 #[.func (.func 165) #[] #[.pointer (some ⟨b, 0, none⟩)]] w fun u_ w' => ∃ (v' : Value) (l' : List Nat), u_ = v' ∧ l' = l ∧ Own w S [Res.row b 42 [v], Res.vec 22 1 v l.length (l.flatMap U1), Res.vec 22 1 v' l'.length (l'.flatMap U1)] w' := by
  refine zT Tryz.func163 rfl Tryz.ntmps163 hin ?_
  refine zB (zK rfl (zA (zB (zD rfl (zH rfl rfl (fun w' hw => (zHT 165 [.pointer (some ⟨b, 0, none⟩)] (by kernel_rfl) (zFG b v l (by first | assumption | omega)) (by omega) w' (hw.give [0, 1] rfl (by decide))).mono ?_))))))
  rintro v1_ w1 ⟨_, xs2_, rfl, hf1_1, hO⟩
  refine (?_ : CL _ _ _ _ _ _ (Own w S [Res.row b 42 [v], Res.vec 22 1 v l.length (l.flatMap U1), Res.vec 22 1 v1_ xs2_.length (xs2_.flatMap U1)])) w1 (hw.frameL [0, 1] rfl hO)
  refine zK rfl (zA ?_)
  exact zY (yD (v := v1_) rfl rfl (fun w' hw => ⟨v1_, xs2_, rfl, hf1_1, hw⟩))
theorem zFV {S : List Nat} (b : Nat) (v : Value) (l : List Nat) (w : World) (hl : l.length ≤ 12) (hin : Own w S [Res.row b 42 [v], Res.vec 22 1 v l.length (l.flatMap U1)] w) : Rets Tryz.prog 120 #[.func (.func 165) #[] #[.pointer (some ⟨b, 0, none⟩)]] w fun u_ w' => ∃ (v' : Value) (l' : List Nat), u_ = v' ∧ l'.Perm l ∧ l'.Pairwise (fun x y => kS x y) ∧ Own w S [Res.row b 42 [v], Res.vec 22 1 v l.length (l.flatMap U1), Res.vec 22 1 v' l'.length (l'.flatMap U1)] w' := by
  refine zT Tryz.func120 rfl Tryz.ntmps120 hin ?_
  refine zB (zK rfl (zA (zB (zD rfl (zH rfl rfl (fun w' hw => (zEP b v l w' (by first | omega | (simp <;> omega)) (hw.give [0, 1] rfl (by decide))).mono ?_))))))
  rintro v'1_ w1 ⟨_, l'2_, rfl, hf1_1, hO⟩
  have hl1 : l'2_.length = l.length := by rw [hf1_1]
  refine (?_ : CL _ _ _ _ _ _ (Own w S [Res.row b 42 [v], Res.vec 22 1 v l.length (l.flatMap U1), Res.vec 22 1 v'1_ l'2_.length (l'2_.flatMap U1)])) w1 (hw.frameL [0, 1] rfl hO)
  refine zK rfl (zA (zB (zD rfl (zH rfl rfl (fun w' hw => (zIw v'1_ l'2_ w' (by first | omega | (simp <;> omega)) (hw.give [2] rfl (by decide))).mono ?_)))))
  rintro _ w1 ⟨l'3_, rfl, hf2_1, hf2_1_1, hO⟩
  refine (?_ : CL _ _ _ _ _ _ (Own w S [Res.row b 42 [v], Res.vec 22 1 v l.length (l.flatMap U1), Res.vec 22 1 v'1_ l'3_.length (l'3_.flatMap U1)])) w1 (hw.frameL [2] rfl hO)
  refine zA (zB (zD rfl (zK rfl (zA ?_))))
  exact zY (yD (v := v'1_) rfl rfl (fun w' hw => ⟨v'1_, l'3_, rfl, (by rw [← hf1_1]; exact hf2_1), hf2_1_1, hw⟩))
theorem zKJ (x : Int) (w : World) : Rets Tryz.prog 144 #[Vi x] w fun u_ w' => u_ = .bool false ∧ Own w [] [] w' := by
  refine zT Tryz.func144 rfl Tryz.ntmps144 (Own.start w) ?_
  refine zB (zK rfl (zA (zB (zD rfl (zD rfl (kR rfl rfl rfl (zK rfl (zA ?_))))))))
  exact zY (yD (v := .bool (decide (x ≠ x))) rfl rfl (fun w' hw => ⟨(by simp), hw.drop⟩))
theorem zJ4 (x y : Int) (w : World) : Rets Tryz.prog 225 #[Vi x, Vi y] w fun u_ w' => u_ = .bool (decide (olt x y)) ∧ Own w [] [] w' := by
  refine zT Tryz.func225 rfl Tryz.ntmps225 (Own.start w) ?_
  refine zB (zK rfl (zA (zB (zD rfl (zH rfl rfl (fun w' hw => (zKJ x w').mono ?_))))))
  rintro _ w1 ⟨rfl, hO⟩
  refine (?_ : CL _ _ _ _ _ _ (Own w [] [])) w1 (hw.frame0 hO)
  refine zD rfl (jk rfl rfl rfl rfl (jk rfl rfl rfl rfl (jk rfl rfl rfl rfl (kX rfl rfl (zD rfl (zO rfl rfl (zD rfl (zO rfl rfl (zD rfl (zO rfl rfl (yJ rfl rfl rfl (kX rfl rfl ?_))))))))))))
  refine zK rfl (zA ?_)
  exact zY (yD (v := .bool (decide (x < y))) rfl rfl (fun w' hw => ⟨rfl, hw.drop⟩))
theorem zFj {S : List Nat} (v : Value) (l : List Int) (a b : Nat) (w : World) (ha : a ≤ b) (hb : b ≤ l.length) (hl : zd l.length) (hin : Own w S [Res.vec 3 1 v l.length (l.flatMap I1)] w) : Rets Tryz.prog 219 #[v, Vj a, Vj b] w fun u_ w' => ∃ (l' : List Int), u_ = .tuple #[] ∧ Same a b l l' ∧ Up a b l' ∧ Own w S [Res.vec 3 1 v l'.length (l'.flatMap I1)] w' := by
  refine zT Tryz.func219 rfl Tryz.ntmps219 hin ?_
  refine zB (zD rfl (z3 rfl rfl (zy (by omega)) rfl (zK rfl (zA (zc ?_)))))
  refine y9 (fun (i : Nat) (m : List Int) => [(0, v), (1, Vj a), (2, Vj b), (6, Vj i)]) (fun (i : Nat) (m : List Int) => (a + 1 ≤ i ∧ (i ≤ b ∨ i = a + 1)) ∧ Same a b l m ∧ Up a i m) (fun (i : Nat) (m : List Int) => [Res.vec 3 1 v m.length (m.flatMap I1)]) (fun (i : Nat) (m : List Int) => b + 1 - i) (fun w' hw => ⟨a + 1, l, ⟨rfl, rfl, rfl, rfl, trivial⟩, ⟨⟨by omega, .inr rfl⟩, Same.refl _ _ _, Up.one (by omega)⟩, hw⟩) (fun i m g hΦ => ?_)
  have hml := hΦ.2.1.len
  have hi1 := hΦ.1
  have hU := hΦ.2.2
  have hS1 := hΦ.2.1
  refine zQ (zB (zD rfl (zD rfl (yJ rfl rfl rfl (zA (zf rfl (fun c1 => ?_) (fun c1 => ?_)))))))
  ·
   refine zR (zQ (zc (zB (zD rfl (zK rfl (zA (zc ?_)))))))
   refine y9 (fun (j : Nat) (q : List Int) => [(0, v), (1, Vj a), (2, Vj b), (6, Vj i), (7, Vj j)]) (fun (j : Nat) (q : List Int) => (a ≤ j ∧ j ≤ i) ∧ Same a b l q ∧ Ins a i j q) (fun (j : Nat) (q : List Int) => [Res.vec 3 1 v q.length (q.flatMap I1)]) (fun (j : Nat) (q : List Int) => j) (fun w' hw => ⟨i, m, ⟨rfl, rfl, rfl, rfl, rfl, trivial⟩, ⟨⟨by omega, by omega⟩, hS1, Ins.start hU⟩, hw⟩) (fun j q g hΦ => ?_)
   have hql := hΦ.2.1.len
   have hj1 := hΦ.1
   have hS2 := hΦ.2.1
   have hI2 := hΦ.2.2
   refine zQ (zQ (zk [0] rfl (by decide) (by kernel_rfl) (fun w' hw hS => zC 0 rfl (zU) hS (zC 1 rfl (zU) hS (zC 2 rfl (zBQ rfl rfl) hS (zC 3 rfl (zU) hS ?_))))))
   by_cases g4_3 : ((a : Nat) : Int) < ((j : Nat) : Int)
   ·
    refine zZ 4 rfl rfl (gT g4_3) (zU) hS (zZ 5 rfl rfl (gT g4_3) (zU) hS (zZ 6 rfl rfl (gT g4_3) (zAZ (pV 0 rfl) 1 j rfl rfl rfl (by omega)) hS (zZ 7 rfl rfl (gT g4_3) (zDS (pV 0 rfl) 1 j 0 (fun _ => rfl) rfl rfl (by omega) rfl) hS (zZ 8 rfl rfl (gT g4_3) (zU) hS (zZ 9 rfl rfl (gT g4_3) (zU) hS (zZ 10 rfl rfl (gT g4_3) (xb (c := ((j - 1 : Nat) : Int)) rfl rfl (zCP (by omega) (by omega))) hS (zZ 11 rfl rfl (gT g4_3) (zAZ (pV 0 rfl) 1 (j - 1) rfl rfl rfl (by omega)) hS (zZ 12 rfl rfl (gT g4_3) (zDS (pV 0 rfl) 1 (j - 1) 0 (fun _ => rfl) rfl rfl (by omega) rfl) hS (zN 13 rfl hw (zO rfl (gT g4_3) (zH rfl rfl (fun w' hw => (zJ4 (zG q j) (zG q (j - 1)) w').mono ?_))))))))))))
    rintro _ w1 ⟨rfl, hO⟩
    refine (?_ : CL _ _ _ _ _ _ (Own w S [Res.vec 3 1 v q.length (q.flatMap I1)])) w1 (hw.frame0 hO)
    refine zE [0] rfl (by decide) (fun w' hw hS => zC 14 rfl (yb (gT g4_3)) hS (zX ?_))
    refine (?_ : C _ _ _ _ _ _ _ (Own w S [Res.vec 3 1 v q.length (q.flatMap I1)])) _ hw
    refine zf rfl (fun c2 => ?_) (fun c2 => ?_)
    ·
     refine zR (xD (fun (n : List Int) => [(0, v), (1, Vj a), (2, Vj b), (6, Vj i), (7, Vj j)]) (fun (n : List Int) => n = swp q j (j - 1)) (fun (n : List Int) => [Res.vec 3 1 v n.length (n.flatMap I1)]) ?_ (fun n g hΦ => ?_))
     ·
      refine zc (zk [] rfl (by decide) (by kernel_rfl) (fun w' hw hS => zC 0 rfl (zU) hS (zC 1 rfl (zU) hS (zC 2 rfl (zU) hS (zC 3 rfl (zU) hS (zC 4 rfl (xb (c := ((j - 1 : Nat) : Int)) rfl rfl (zCP (by omega) (by omega))) hS (zC 5 rfl (zU) hS (zC 6 rfl (zU) hS (zC 7 rfl (xb (c := ((j - 1 : Nat) : Int)) rfl rfl (zCP (by omega) (by omega))) hS (zC 10 rfl (zU) hS (zC 11 rfl (zU) hS (yA 8 12 ?_ ?_))))))))))))
      ·
       refine zr 8 rfl hw (zm (pV 0 rfl) 1 (j - 1) rfl rfl rfl (by omega) rfl (zE [] rfl (by decide) (fun w' hw hS => yA 9 12 ?_ ?_)))
       ·
        refine zr 9 rfl hw (yR (pV 0 rfl) 1 (j - 1) 0 (fun _ => rfl) rfl rfl (by omega) rfl rfl (yg 12 rfl (zm (pV 0 rfl) 1 j rfl rfl rfl (by omega) rfl (yg 13 rfl (yR (pV 0 rfl) 1 j 0 (fun _ => rfl) rfl rfl (by omega) rfl rfl (yg 14 rfl (zm (pV 0 rfl) 1 j rfl rfl rfl (by omega) rfl (yg 15 rfl ?_))))))))
        refine xO 0 j (zG q (j - 1)) rfl (fun _ => rfl) rfl (by omega) rfl rfl rfl (by omega) (yg 16 rfl (zm (pV 0 rfl) 1 (j - 1) rfl rfl rfl (by simp only [List.length_set]; omega) rfl (yg 17 rfl (xO 0 (j - 1) (zG q j) rfl (fun _ => rfl) rfl (by omega) rfl rfl rfl (by simp only [List.length_set]; omega) (zE [] rfl (by decide) (fun w' hw hS => zX ?_))))))
        exact ⟨swp q j (j - 1), ⟨rfl, rfl, rfl, rfl, rfl, trivial⟩, rfl, hw⟩
       ·
        refine zr 12 rfl hw (zm (pV 0 rfl) 1 j rfl rfl rfl (by omega) rfl (zE [] rfl (by decide) (fun w' hw hS => yA 9 13 ?_ ?_)))
        ·
         refine zr 9 rfl hw (yR (pV 0 rfl) 1 (j - 1) 0 (fun _ => rfl) rfl rfl (by omega) rfl rfl (yg 13 rfl (yR (pV 0 rfl) 1 j 0 (fun _ => rfl) rfl rfl (by omega) rfl rfl (yg 14 rfl (zm (pV 0 rfl) 1 j rfl rfl rfl (by omega) rfl (yg 15 rfl (xO 0 j (zG q (j - 1)) rfl (fun _ => rfl) rfl (by omega) rfl rfl rfl (by omega) (yg 16 rfl ?_))))))))
         refine zm (pV 0 rfl) 1 (j - 1) rfl rfl rfl (by simp only [List.length_set]; omega) rfl (yg 17 rfl (xO 0 (j - 1) (zG q j) rfl (fun _ => rfl) rfl (by omega) rfl rfl rfl (by simp only [List.length_set]; omega) (zE [] rfl (by decide) (fun w' hw hS => zX ?_))))
         exact ⟨swp q j (j - 1), ⟨rfl, rfl, rfl, rfl, rfl, trivial⟩, rfl, hw⟩
        ·
         refine zr 13 rfl hw (yR (pV 0 rfl) 1 j 0 (fun _ => rfl) rfl rfl (by omega) rfl rfl (yg 9 rfl (yR (pV 0 rfl) 1 (j - 1) 0 (fun _ => rfl) rfl rfl (by omega) rfl rfl (yg 14 rfl (zm (pV 0 rfl) 1 j rfl rfl rfl (by omega) rfl (yg 15 rfl (xO 0 j (zG q (j - 1)) rfl (fun _ => rfl) rfl (by omega) rfl rfl rfl (by omega) (yg 16 rfl ?_))))))))
         refine zm (pV 0 rfl) 1 (j - 1) rfl rfl rfl (by simp only [List.length_set]; omega) rfl (yg 17 rfl (xO 0 (j - 1) (zG q j) rfl (fun _ => rfl) rfl (by omega) rfl rfl rfl (by simp only [List.length_set]; omega) (zE [] rfl (by decide) (fun w' hw hS => zX ?_))))
         exact ⟨swp q j (j - 1), ⟨rfl, rfl, rfl, rfl, rfl, trivial⟩, rfl, hw⟩
      ·
       refine zr 12 rfl hw (zm (pV 0 rfl) 1 j rfl rfl rfl (by omega) rfl (zE [] rfl (by decide) (fun w' hw hS => yA 8 13 ?_ ?_)))
       ·
        refine zr 8 rfl hw (zm (pV 0 rfl) 1 (j - 1) rfl rfl rfl (by omega) rfl (zE [] rfl (by decide) (fun w' hw hS => yA 9 13 ?_ ?_)))
        ·
         refine zr 9 rfl hw (yR (pV 0 rfl) 1 (j - 1) 0 (fun _ => rfl) rfl rfl (by omega) rfl rfl (yg 13 rfl (yR (pV 0 rfl) 1 j 0 (fun _ => rfl) rfl rfl (by omega) rfl rfl (yg 14 rfl (zm (pV 0 rfl) 1 j rfl rfl rfl (by omega) rfl (yg 15 rfl (xO 0 j (zG q (j - 1)) rfl (fun _ => rfl) rfl (by omega) rfl rfl rfl (by omega) (yg 16 rfl ?_))))))))
         refine zm (pV 0 rfl) 1 (j - 1) rfl rfl rfl (by simp only [List.length_set]; omega) rfl (yg 17 rfl (xO 0 (j - 1) (zG q j) rfl (fun _ => rfl) rfl (by omega) rfl rfl rfl (by simp only [List.length_set]; omega) (zE [] rfl (by decide) (fun w' hw hS => zX ?_))))
         exact ⟨swp q j (j - 1), ⟨rfl, rfl, rfl, rfl, rfl, trivial⟩, rfl, hw⟩
        ·
         refine zr 13 rfl hw (yR (pV 0 rfl) 1 j 0 (fun _ => rfl) rfl rfl (by omega) rfl rfl (yg 9 rfl (yR (pV 0 rfl) 1 (j - 1) 0 (fun _ => rfl) rfl rfl (by omega) rfl rfl (yg 14 rfl (zm (pV 0 rfl) 1 j rfl rfl rfl (by omega) rfl (yg 15 rfl (xO 0 j (zG q (j - 1)) rfl (fun _ => rfl) rfl (by omega) rfl rfl rfl (by omega) (yg 16 rfl ?_))))))))
         refine zm (pV 0 rfl) 1 (j - 1) rfl rfl rfl (by simp only [List.length_set]; omega) rfl (yg 17 rfl (xO 0 (j - 1) (zG q j) rfl (fun _ => rfl) rfl (by omega) rfl rfl rfl (by simp only [List.length_set]; omega) (zE [] rfl (by decide) (fun w' hw hS => zX ?_))))
         exact ⟨swp q j (j - 1), ⟨rfl, rfl, rfl, rfl, rfl, trivial⟩, rfl, hw⟩
       ·
        refine zr 13 rfl hw (yR (pV 0 rfl) 1 j 0 (fun _ => rfl) rfl rfl (by omega) rfl rfl (yg 8 rfl (zm (pV 0 rfl) 1 (j - 1) rfl rfl rfl (by omega) rfl (yg 9 rfl (yR (pV 0 rfl) 1 (j - 1) 0 (fun _ => rfl) rfl rfl (by omega) rfl rfl (yg 14 rfl (zm (pV 0 rfl) 1 j rfl rfl rfl (by omega) rfl (yg 15 rfl ?_))))))))
        refine xO 0 j (zG q (j - 1)) rfl (fun _ => rfl) rfl (by omega) rfl rfl rfl (by omega) (yg 16 rfl (zm (pV 0 rfl) 1 (j - 1) rfl rfl rfl (by simp only [List.length_set]; omega) rfl (yg 17 rfl (xO 0 (j - 1) (zG q j) rfl (fun _ => rfl) rfl (by omega) rfl rfl rfl (by simp only [List.length_set]; omega) (zE [] rfl (by decide) (fun w' hw hS => zX ?_))))))
        exact ⟨swp q j (j - 1), ⟨rfl, rfl, rfl, rfl, rfl, trivial⟩, rfl, hw⟩
     have hn := hΦ
     refine zW (zD rfl (kE (c := ((j - 1 : Nat) : Int)) rfl rfl (zCP (by omega) (by omega)) rfl (zK rfl ?_)))
     exact zj (fun w' hw => ⟨j - 1, n, ⟨rfl, rfl, rfl, rfl, rfl, trivial⟩, ⟨⟨by omega, by omega⟩, by rw [hn]; exact hS2.then_swp ⟨by omega, by omega⟩ ⟨by omega, by omega⟩ hb, by rw [hn]; exact hI2.step (by omega) (by omega) (by omega) c2⟩, hw, (by omega)⟩)
    ·
     refine yQ rfl (zW (zD rfl (z3 rfl rfl (zy (by omega)) rfl (zK rfl ?_))))
     exact zj (fun w' hw => ⟨i + 1, q, ⟨rfl, rfl, rfl, rfl, trivial⟩, ⟨⟨by omega, .inl (by omega)⟩, hS2, hI2.done (fun _ => c2)⟩, hw, (by omega)⟩)
   ·
    refine zS 4 rfl rfl (gF g4_3) rfl hS (zS 5 rfl rfl (gF g4_3) rfl hS (zS 6 rfl rfl (gF g4_3) rfl hS (zS 7 rfl rfl (gF g4_3) rfl hS (zS 8 rfl rfl (gF g4_3) rfl hS (zS 9 rfl rfl (gF g4_3) rfl hS (zS 10 rfl rfl (gF g4_3) rfl hS (zS 11 rfl rfl (gF g4_3) rfl hS (zS 12 rfl rfl (gF g4_3) rfl hS (zS 13 rfl rfl (gF g4_3) rfl hS (zC 14 rfl (yG (gF g4_3)) hS (zX ?_)))))))))))
    refine (?_ : C _ _ _ _ _ _ _ (Own w S [Res.vec 3 1 v q.length (q.flatMap I1)])) _ hw
    refine x8 rfl (yQ rfl (zW (zD rfl (z3 rfl rfl (zy (by omega)) rfl (zK rfl ?_)))))
    exact zj (fun w' hw => ⟨i + 1, q, ⟨rfl, rfl, rfl, rfl, trivial⟩, ⟨⟨by omega, .inl (by omega)⟩, hS2, hI2.done (fun h => absurd h (by omega))⟩, hw, (by omega)⟩)
  ·
   exact kf rfl (yM rfl (fun w' hw => ⟨m, rfl, hS1, (fun k h1 h2 => hU k h1 (by omega)), hw⟩))
theorem zKa {S : List Nat} (v : Value) (l : List Int) (n : Nat) (lim : Int) (w : World) (hn : n ≤ 12) (hln : n ≤ l.length) (hl : zd l.length) (hin : Own w S [Res.vec 3 1 v l.length (l.flatMap I1)] w) : Rets Tryz.prog 208 #[v, Vj 0, Vj n, Vi lim] w fun u_ w' => ∃ (l' : List Int), u_ = .tuple #[] ∧ Same 0 n l l' ∧ Up 0 n l' ∧ Own w S [Res.vec 3 1 v l'.length (l'.flatMap I1)] w' := by
  refine zT Tryz.func208 rfl Tryz.ntmps208 hin ?_
  refine zB (zK rfl (zA (zB (zK rfl (zA (zc ?_))))))
  refine xS (fun (k : Nat) => [(0, v), (1, Vj 0), (2, Vj n), (3, Vi lim), (8, .bool true), (9, .bool true)]) (fun (k : Nat) => k = 1) (fun (k : Nat) => [Res.vec 3 1 v l.length (l.flatMap I1)]) (fun (k : Nat) => 0) (fun w' hw => ⟨1, ⟨rfl, rfl, rfl, rfl, rfl, rfl, trivial⟩, rfl, hw⟩) (fun k g hΦ => ?_)
  refine zc (zB (zD rfl (zD rfl (kE (c := ((n : Nat) : Int)) rfl rfl (zy (by omega)) rfl (zK rfl (zA (zQ (zB (zD rfl (x4 rfl rfl rfl (zA (zf rfl (fun c1 => ?_) (fun c1 => ?_)))))))))))))
  ·
   refine zB (zD rfl (zD rfl (zD rfl (zH rfl rfl (fun w' hw => (zFj v l 0 n w' (by first | omega | (simp <;> omega)) (by first | omega | (simp <;> omega)) (by first | assumption | omega | (simp <;> omega) | (constructor <;> (first | omega | (simp only [zd]; omega) | (simp <;> omega)))) (hw.give [0] rfl (by decide))).mono ?_)))))
   rintro _ w1 ⟨l'1_, rfl, hf4_3, hf4_3_1, hO⟩
   refine (?_ : CL _ _ _ _ _ _ (Own w S [Res.vec 3 1 v l'1_.length (l'1_.flatMap I1)])) w1 (hw.frameL [0] rfl hO)
   refine zA ?_
   exact zY (yM rfl (fun w' hw => ⟨l'1_, rfl, hf4_3, hf4_3_1, hw⟩))
  ·
   exact absurd c1 (by omega)
theorem zJs {S : List Nat} (v : Value) (l : List Int) (w : World) (hl : l.length ≤ 12) (hin : Own w S [Res.vec 3 1 v l.length (l.flatMap I1)] w) : Rets Tryz.prog 193 #[v] w fun u_ w' => ∃ (l' : List Int), u_ = .tuple #[] ∧ l'.Perm l ∧ l'.Pairwise (fun x y => kS x y) ∧ Own w S [Res.vec 3 1 v l'.length (l'.flatMap I1)] w' := by
  refine zT Tryz.func193 rfl Tryz.ntmps193 hin ?_
  refine zB (zD rfl (zq (pV 0 rfl) rfl rfl (zK rfl (zA (zW (zD rfl (zD rfl (zD rfl (xe (by kernel_rfl) rfl (y6 (by omega)) rfl ?_ (by kernel_rfl))))))))))
  refine zH rfl rfl (fun w' hw => (zIo l.length w' (by first | omega | (simp <;> omega))).mono ?_)
  rintro _ w1 ⟨rfl, hO⟩
  refine (?_ : CL _ _ _ _ _ _ (Own w S [Res.vec 3 1 v l.length (l.flatMap I1)])) w1 (hw.frame0 hO)
  refine zH rfl rfl (fun w' hw => (zKa v l l.length (((z9 l.length) : Nat) : Int) w' (by first | omega | (simp <;> omega)) (by first | omega | (simp <;> omega)) (by first | assumption | omega | (simp <;> omega) | (constructor <;> (first | omega | (simp only [zd]; omega) | (simp <;> omega)))) (hw.give [0] rfl (by decide))).mono ?_)
  rintro _ w1 ⟨l'1_, rfl, hf1_5, hf1_5_1, hO⟩
  refine (?_ : CL _ _ _ _ _ _ (Own w S [Res.vec 3 1 v l'1_.length (l'1_.flatMap I1)])) w1 (hw.frameL [0] rfl hO)
  exact zj (yM rfl (fun w' hw => ⟨l'1_, rfl, hf1_5.perm, zAm hf1_5 hf1_5_1, hw⟩))
theorem zFK (sb : Nat) (v : Value) (l : List Int) (hl : zd l.length) : zGY Tryz.prog 194 [.pointer (some ⟨sb, 0, none⟩)] (fun x : Int => Value.int .i64 x) (fun xs => xs = l) l.length [Res.row sb 33 [v], Res.vec 3 1 v l.length (l.flatMap I1)] := by
  intro ly J L0 w Y hJ hin
  refine xZ (args := [.func (.yield ly) #[] #[], .pointer (some ⟨sb, 0, none⟩)]) Tryz.func194 rfl Tryz.ntmps194 rfl (show Own w (y8 ([Res.row sb 33 [v], Res.vec 3 1 v l.length (l.flatMap I1)] ++ L0)) (Res.row sb 33 [v] :: Res.vec 3 1 v l.length (l.flatMap I1) :: L0) w from hin) ?_
  refine zB (zM 0 (v := v) rfl rfl rfl rfl (zq (pV 1 rfl) rfl rfl (zD rfl (zA (zc ?_)))))
  refine y9 (fun (k : Nat) (Lr : List Res) => [(0, .func (.yield ly) #[] #[]), (5, v), (6, Vj l.length), (7, Vj k)]) (fun (k : Nat) (Lr : List Res) => k ≤ l.length ∧ J (l.take k) Lr) (fun (k : Nat) (Lr : List Res) => (Res.row sb 33 [v] :: Res.vec 3 1 v l.length (l.flatMap I1) :: Lr)) (fun (k : Nat) (Lr : List Res) => l.length - k) (fun w' hw => ⟨0, L0, ⟨rfl, rfl, rfl, rfl, trivial⟩, ⟨Nat.zero_le _, by simpa using hJ⟩, hw⟩) (fun k Lr g hΦ => ?_)
  have hk := hΦ.1
  have hJk := hΦ.2
  refine zB (yJ rfl rfl rfl (zA (zQ (zf rfl (fun c1 => ?_) (fun c1 => ?_)))))
  ·
   refine zR (zQ (zc (zB (zm (pV 1 rfl) 1 k rfl rfl rfl (by omega) rfl (yR (pV 1 rfl) 1 k 0 (fun _ => rfl) rfl rfl (by omega) rfl rfl (zK rfl (zA (zCn ?_))))))))
   refine x7 rfl (zU) ?_
   refine x7 rfl (zU) ?_
   refine zEw [Res.row sb 33 [v], Res.vec 3 1 v l.length (l.flatMap I1)] (zG l k) Y rfl rfl hJk (by rw [List.length_take]; omega) rfl (fun Ly1_ hJLy1_ => ?_)
   refine x7 rfl (zBG (b := true) rfl) ?_
   refine zGL ?_
   refine x8 rfl (zR (zW (z3 rfl rfl (zy (by omega)) rfl (zD rfl ?_))))
   exact zj (fun w' hw => ⟨k + 1, Ly1_, ⟨rfl, rfl, rfl, rfl, trivial⟩, ⟨by omega, by rw [zu (by omega)]; exact hJLy1_⟩, hw, (by omega)⟩)
  ·
   exact kf rfl (yM rfl (fun w' hw => ⟨l, Lr, rfl, (by have h := hJk; rwa [List.take_of_length_le (by omega)] at h), hw⟩))
theorem zJ0 {S : List Nat} (v : Value) (l : List Int) (w : World) (hin : Own w S [Res.vec 3 1 v l.length (l.flatMap I1)] w) : Rets Tryz.prog 161 #[v] w fun u_ w' => ∃ (b : Nat), u_ = .func (.func 194) #[] #[.pointer (some ⟨b, 0, none⟩)] ∧ Own w S [Res.vec 3 1 v l.length (l.flatMap I1), Res.row b 33 [v]] w' := by
  refine zT Tryz.func161 rfl Tryz.ntmps161 hin ?_
  refine zB ?_
  refine zg (fun w' hw => Own.cell1Vec (i := 0) rfl hw) (fun hc1_ => ?_)
  refine zEK rfl hc1_ rfl (fun b1 => zK rfl (zA (zB (zAs (va := []) (vb := [.pointer (some ⟨b1, 0, none⟩)]) rfl rfl rfl (zK rfl (zA ?_))))))
  exact zY (yD (v := .func (.func 194) #[] #[.pointer (some ⟨b1, 0, none⟩)]) rfl rfl (fun w' hw => ⟨b1, rfl, hw⟩))
theorem zGU {Sx : List Int → Prop} {N : Nat} {Ls : List Res} (sg : FuncId) (lb : List Value) (hcall : xk Tryz.prog sg = true) (hseq : zGY Tryz.prog sg lb (fun x => Vi x) Sx N Ls) (hN : N ≤ 1000000000) (w : World) (hin : Own w (y8 Ls) Ls w) : Rets Tryz.prog 207 #[.slice none 0 0, .func (.func sg) #[] lb.toArray] w fun u_ w' => ∃ (v : Value) (xs : List Int), u_ = v ∧ Sx xs ∧ Own w (y8 Ls) (Ls ++ [Res.vec 3 1 v xs.length (xs.flatMap I1)]) w' := by
  refine zB7 (args := [.slice none 0 0, .func (.func sg) #[] lb.toArray]) Tryz.func207 rfl Tryz.ntmps207 rfl rfl rfl (show Own w (y8 Ls) Ls w from hin) ?_
  refine z7 rfl rfl (fun b => ?_)
  refine zK rfl ?_
  refine zj (fun w1 hw => ?_)
  refine (?_ : CL _ _ _ _ _ _ (Own w (y8 Ls) (Ls ++ [Res.row b 33 [.slice none 0 0]]))) w1 hw
  refine zD rfl ?_
  refine zj (fun w2 hw => ?_)
  have hw2 := zt hw 3 1
  rw [List.append_assoc] at hw2
  refine zEp (enc := (fun x => Vi x)) (p := 7) (q := 5) (Ju := fun pre L => ∃ v, L = [Res.row b 33 [v], Res.vec 3 1 v pre.length (pre.flatMap I1)]) rfl hcall hseq ⟨.slice none 0 0, rfl⟩ hw2 rfl rfl rfl ?_ ?_ ?_
  · intro x w
    exact (zK rfl (zj (fun w' hw' => ⟨rfl, hw'⟩)) : CL _ _ _ _ _ _ (fun w' => w' = w)) w rfl
  · rintro pre x L w ⟨v, rfl⟩ hlen
    refine zM 0 (v := v) rfl rfl rfl rfl ?_
    refine zD rfl ?_
    refine z4 (e := 3) (sz := 1) (vs := [Vi x]) (by kernel_rfl) rfl rfl (by simp [Value.cells]) (by decide) rfl (fun b10 => ?_)
    refine yO (g := I1) (sz := 1) (by' := 8) (fun _ => rfl) (l := pre) (l' := [x]) (by simp [cell1, I1]) 1 (by kernel_rfl) rfl rfl rfl (fun w' hw' => Vec.sl (Own.holds hw' 2 _ rfl)) (by first | omega | (simp <;> omega)) (by decide) rfl (fun v11 => ?_)
    refine zg (fun w' hw => Own.cell1Vec (i := 1) rfl hw) (fun hc1_ => ?_)
    refine zo (cs := [v]) 0 rfl rfl rfl hc1_ rfl ?_
    exact zj (fun w' hw => ⟨_, ⟨_, rfl⟩, hw.sel [0, 1] rfl (by decide)⟩)
  · rintro xs L' D w' hS ⟨v, rfl⟩ hO a ha
    have hO2 := hO.perm (List.Perm.cons _ (List.perm_append_comm))
    refine zG4 (v := v) rfl ?_ hO2 (fun w'' hO3 => ⟨v, xs, rfl, hS, ?_⟩) a ha
    · exact x7 rfl (zGK 1 (v := v) rfl rfl rfl (by kernel_rfl)) (x7 rfl ya (zIl (fun w' hw => ⟨rfl, hw⟩)))
    · exact (Own.tail hO3).perm (List.perm_append_comm (l₁ := [_]))
theorem zDx {S : List Nat} (b : Nat) (v : Value) (l : List Int) (w : World) (hl : l.length ≤ 1000000000) (hin : Own w S [Res.row b 33 [v], Res.vec 3 1 v l.length (l.flatMap I1)] w) : Rets Tryz.prog 192 #[.func (.func 194) #[] #[.pointer (some ⟨b, 0, none⟩)]] w fun u_ w' => ∃ (v' : Value) (l' : List Int), u_ = v' ∧ l' = l ∧ Own w S [Res.row b 33 [v], Res.vec 3 1 v l.length (l.flatMap I1), Res.vec 3 1 v' l'.length (l'.flatMap I1)] w' := by
  refine zT Tryz.func192 rfl Tryz.ntmps192 hin ?_
  refine zB (zK rfl (zA (zB (zD rfl (zH rfl rfl (fun w' hw => (zGU 194 [.pointer (some ⟨b, 0, none⟩)] (by kernel_rfl) (zFK b v l (by first | assumption | omega)) (by omega) w' (hw.give [0, 1] rfl (by decide))).mono ?_))))))
  rintro v1_ w1 ⟨_, xs2_, rfl, hf1_1, hO⟩
  refine (?_ : CL _ _ _ _ _ _ (Own w S [Res.row b 33 [v], Res.vec 3 1 v l.length (l.flatMap I1), Res.vec 3 1 v1_ xs2_.length (xs2_.flatMap I1)])) w1 (hw.frameL [0, 1] rfl hO)
  refine zK rfl (zA ?_)
  exact zY (yD (v := v1_) rfl rfl (fun w' hw => ⟨v1_, xs2_, rfl, hf1_1, hw⟩))
theorem zFe {S : List Nat} (b : Nat) (v : Value) (l : List Int) (w : World) (hl : l.length ≤ 12) (hin : Own w S [Res.row b 33 [v], Res.vec 3 1 v l.length (l.flatMap I1)] w) : Rets Tryz.prog 160 #[.func (.func 194) #[] #[.pointer (some ⟨b, 0, none⟩)]] w fun u_ w' => ∃ (v' : Value) (l' : List Int), u_ = v' ∧ l'.Perm l ∧ l'.Pairwise (fun x y => kS x y) ∧ Own w S [Res.row b 33 [v], Res.vec 3 1 v l.length (l.flatMap I1), Res.vec 3 1 v' l'.length (l'.flatMap I1)] w' := by
  refine zT Tryz.func160 rfl Tryz.ntmps160 hin ?_
  refine zB (zK rfl (zA (zB (zD rfl (zH rfl rfl (fun w' hw => (zDx b v l w' (by first | omega | (simp <;> omega)) (hw.give [0, 1] rfl (by decide))).mono ?_))))))
  rintro v'1_ w1 ⟨_, l'2_, rfl, hf1_1, hO⟩
  have hl1 : l'2_.length = l.length := by rw [hf1_1]
  refine (?_ : CL _ _ _ _ _ _ (Own w S [Res.row b 33 [v], Res.vec 3 1 v l.length (l.flatMap I1), Res.vec 3 1 v'1_ l'2_.length (l'2_.flatMap I1)])) w1 (hw.frameL [0, 1] rfl hO)
  refine zK rfl (zA (zB (zD rfl (zH rfl rfl (fun w' hw => (zJs v'1_ l'2_ w' (by first | omega | (simp <;> omega)) (hw.give [2] rfl (by decide))).mono ?_)))))
  rintro _ w1 ⟨l'3_, rfl, hf2_1, hf2_1_1, hO⟩
  refine (?_ : CL _ _ _ _ _ _ (Own w S [Res.row b 33 [v], Res.vec 3 1 v l.length (l.flatMap I1), Res.vec 3 1 v'1_ l'3_.length (l'3_.flatMap I1)])) w1 (hw.frameL [2] rfl hO)
  refine zA (zB (zD rfl (zK rfl (zA ?_))))
  exact zY (yD (v := v'1_) rfl rfl (fun w' hw => ⟨v'1_, l'3_, rfl, (by rw [← hf1_1]; exact hf2_1), hf2_1_1, hw⟩))
def cge (l : List Nat) (x : Nat) : Nat := (l.filter fun y => decide (x ≤ y)).length
def cgt (l : List Nat) (x : Nat) : Nat := (l.filter fun y => decide (x < y)).length
def zEA (l : List Nat) (x : Nat) : Prop := l.length < 2 * cge l x
instance (l : List Nat) (x : Nat) : Decidable (zEA l x) := inferInstanceAs (Decidable (_ < _))
theorem zGu {l m : List Nat} (h : l.Perm m) (x : Nat) : cge l x = cge m x := (h.filter _).length_eq
theorem zHP {l m : List Nat} (h : l.Perm m) (x : Nat) : cgt l x = cgt m x := (h.filter _).length_eq
theorem zEv {s : List Nat} (h : s.Pairwise fun x y => kS x y) {i j : Nat} (hij : i ≤ j) (hj : j < s.length) : zG s i ≤ zG s j := by
  by_cases e : i = j
  · rw [e]; exact Nat.le_refl _
  · have := List.pairwise_iff_getElem.1 h i j (by omega) hj (by omega)
    have e1 := xR (List.getElem?_eq_getElem (show i < s.length by omega))
    have e2 := xR (List.getElem?_eq_getElem hj)
    rw [e1, e2]
    exact ole_nat.1 this
theorem zJY {s : List Nat} (h : s.Pairwise fun x y => kS x y) {q : Nat} (hq : q < s.length) : s.length ≤ q + cge s (zG s q) := by
  have hd : ∀ y ∈ s.drop q, decide (zG s q ≤ y) = true := by
    intro y hy
    obtain ⟨k, hk⟩ := List.mem_iff_getElem?.1 hy
    rw [List.getElem?_drop] at hk
    have hlt := (List.getElem?_eq_some_iff.1 hk).1
    rw [← xR hk]
    exact decide_eq_true (zEv h (by omega) hlt)
  have e : cge s (zG s q) = cge (s.take q) (zG s q) + cge (s.drop q) (zG s q) := by
    unfold cge
    rw [← List.length_append, ← List.filter_append, List.take_append_drop]
  have e2 : cge (s.drop q) (zG s q) = s.length - q := by
    unfold cge
    rw [List.filter_eq_self.2 hd, List.length_drop]
  omega
theorem zJf {s : List Nat} (h : s.Pairwise fun x y => kS x y) {q : Nat} (hq : q < s.length) : cgt s (zG s q) + (q + 1) ≤ s.length := by
  have ht : ∀ y ∈ s.take (q + 1), ¬ (decide (zG s q < y) = true) := by
    intro y hy
    obtain ⟨k, hk⟩ := List.mem_iff_getElem?.1 hy
    have hlt := (List.getElem?_eq_some_iff.1 hk).1
    rw [List.length_take] at hlt
    rw [List.getElem?_take, if_pos (by omega)] at hk
    rw [← xR hk]
    have := zEv h (show k ≤ q by omega) hq
    simp; omega
  have e : cgt s (zG s q) = cgt (s.take (q + 1)) (zG s q) + cgt (s.drop (q + 1)) (zG s q) := by
    unfold cgt
    rw [← List.length_append, ← List.filter_append, List.take_append_drop]
  have e2 : cgt (s.take (q + 1)) (zG s q) = 0 := by
    unfold cgt
    rw [List.filter_eq_nil_iff.2 ht]; rfl
  have e3 : cgt (s.drop (q + 1)) (zG s q) ≤ s.length - (q + 1) := by
    unfold cgt
    refine Nat.le_trans (List.length_filter_le _ _) ?_
    rw [List.length_drop]; exact Nat.le_refl _
  omega
theorem zGD {l s : List Nat} (hp : s.Perm l) (h : s.Pairwise fun x y => kS x y) (h0 : 0 < l.length) : zEA l (zG s ((l.length - 1) / 2)) ∧ 2 * cgt l (zG s ((l.length - 1) / 2)) ≤ l.length ∧ zG s ((l.length - 1) / 2) ∈ l := by
  have hl := hp.length_eq
  have h1 := zJY h (q := (l.length - 1) / 2) (by omega)
  have h2 := zJf h (q := (l.length - 1) / 2) (by omega)
  rw [zGu hp] at h1
  rw [zHP hp] at h2
  refine ⟨?_, ?_, hp.mem_iff.1 (zl (by omega))⟩
  · unfold zEA; omega
  · omega
theorem zIG {l : List Nat} {m b : Nat} (h : m < b) : cge l b ≤ cgt l m := by
  unfold cge cgt
  refine (List.Sublist.length_le ?_)
  have : l.filter (fun y => decide (b ≤ y)) = (l.filter fun y => decide (m < y)).filter fun y => decide (b ≤ y) := by
    rw [List.filter_filter]
    congr 1
    funext y
    by_cases q : b ≤ y
    · simp [q]; omega
    · simp [q]
  rw [this]
  exact List.filter_sublist
def ku (c : ConfD) (l : List Nat) (n : Nat) (e : Int) : Prop :=
  (¬ c.ok → n = 0 ∧ e = 2) ∧ (c.ok → l.length ≠ c.vs.length → n = 0 ∧ e = 1) ∧ (c.ok → l.length = c.vs.length → e = 0 ∧ zEA l n ∧ 2 * cgt l n ≤ l.length ∧ n ∈ l)
theorem zDJ {c : ConfD} {l : List Nat} (h : yC c.ok ≠ 0) : ku c l 0 (yC c.ok) :=
  have hn : ¬ c.ok := fun q => h (errOf_zero.2 q)
  ⟨fun _ => ⟨rfl, jX hn⟩, fun q => absurd q hn, fun q => absurd q hn⟩
theorem zC7 {c : ConfD} {l : List Nat} (h : ¬ yC c.ok ≠ 0) (h2 : ((l.length : Nat) : Int) ≠ ((c.vs.length : Nat) : Int)) : ku c l 0 1 :=
  have hn : c.ok := errOf_zero.1 (Decidable.not_not.1 h)
  ⟨fun q => absurd hn q, fun _ _ => ⟨rfl, rfl⟩, fun _ q => absurd q (by omega)⟩
theorem zAh {c : ConfD} {l : List Nat} (h : ¬ yC c.ok ≠ 0) (h2 : ¬ ((l.length : Nat) : Int) ≠ ((c.vs.length : Nat) : Int)) : 0 < l.length := by
  have hn : c.ok := errOf_zero.1 (Decidable.not_not.1 h)
  have := hn.1.2
  omega
theorem zEY {c : ConfD} {l s : List Nat} (h : ¬ yC c.ok ≠ 0) (h2 : ¬ ((l.length : Nat) : Int) ≠ ((c.vs.length : Nat) : Int)) (hp : s.Perm l) (hs : s.Pairwise fun x y => kS x y) : ku c l (zG s ((s.length - 1) / 2)) 0 := by
  have hn : c.ok := errOf_zero.1 (Decidable.not_not.1 h)
  have h0 := zAh h h2
  have := zGD hp hs h0
  rw [hp.length_eq]
  exact ⟨fun q => absurd hn q, fun _ q => absurd q (by omega), fun _ _ => ⟨rfl, this⟩⟩
theorem zB0 {S : List Nat} (c : ConfD) (v : Value) (l : List Nat) (w : World) (hf : c.few) (hl : l.length ≤ 12) (hin : Own w S [Res.vec 22 1 v l.length (l.flatMap U1)] w) (rd_c : ConfD.rd c w S) : Rets Tryz.prog 76 #[.agg (ConfD.cells c).toArray, v] w fun u_ w' => ∃ (n : Nat) (e : Int), u_ = .tuple #[Vn n, Vi e] ∧ ku c l n e ∧ Own w S [Res.vec 22 1 v l.length (l.flatMap U1)] w' := by
  refine zT Tryz.func76 rfl Tryz.ntmps76 hin ?_
  refine zB (z7 rfl rfl (fun b2 => zK rfl (zK rfl (zA (zQ (zB (yY (cs := (ConfD.cells c)) 1 rfl rfl rfl (zH rfl rfl (fun w' hw => (zCh c w' ‹_› (rd_c.at0 hw)).mono ?_)))))))))
  rintro _ w1 ⟨rfl, hO⟩
  refine (?_ : CL _ _ _ _ _ _ (Own w S [Res.vec 22 1 v l.length (l.flatMap U1), Res.row b2 35 (ConfD.cells c)])) w1 (hw.frame0 hO)
  refine zK rfl (zA (zB (zD rfl (kR rfl rfl rfl (zA (zf rfl (fun c1 => ?_) (fun c1 => ?_)))))))
  ·
   refine zB (zD rfl (zK rfl (zK rfl (zA ?_))))
   exact zY (xP (v := Vn 0) (v' := Vi (yC c.ok)) rfl rfl rfl (fun w' hw => ⟨0, yC c.ok, rfl, zDJ c1, hw.sel [0] rfl (by decide)⟩))
  ·
   refine zR (zQ (zB (zD rfl (zq (pV 0 rfl) rfl rfl (zJ (o := 0) rfl rfl (zM 1 (v := c.vv) rfl rfl rfl rfl (zq (pR rd_c.vv) rfl rfl (kR rfl rfl rfl (zA (zf rfl (fun c2 => ?_) (fun c2 => ?_)))))))))))
   ·
    refine zB (zK rfl (zK rfl (zA ?_)))
    exact zY (xP (v := Vn 0) (v' := Vi 1) rfl rfl rfl (fun w' hw => ⟨0, 1, rfl, zC7 c1 c2, hw.sel [0] rfl (by decide)⟩))
   ·
    refine zR (zB (zD rfl (zH rfl rfl (fun w' hw => (zI8 v l w' (hw.give [0] rfl (by decide))).mono ?_))))
    rintro _ w1 ⟨b1_, rfl, hO⟩
    refine (?_ : CL _ _ _ _ _ _ (Own w S [Res.row b2 35 (ConfD.cells c), Res.vec 22 1 v l.length (l.flatMap U1), Res.row b1_ 42 [v]])) w1 (hw.frameL [0] rfl hO)
    refine zH rfl rfl (fun w' hw => (zFV b1_ v l w' (by first | omega | (simp <;> omega)) (hw.give [2, 1] rfl (by decide))).mono ?_)
    rintro v'2_ w1 ⟨_, l'3_, rfl, hf6_2, hf6_2_1, hO⟩
    have hsl := hf6_2.length_eq
    have h0 := zAh c1 c2
    refine (?_ : CL _ _ _ _ _ _ (Own w S [Res.row b2 35 (ConfD.cells c), Res.row b1_ 42 [v], Res.vec 22 1 v l.length (l.flatMap U1), Res.vec 22 1 v'2_ l'3_.length (l'3_.flatMap U1)])) w1 (hw.frameL [2, 1] rfl hO)
    refine zK rfl (zA (zB (zD rfl (zD rfl (zq (pV 3 rfl) rfl rfl (kE (c := ((l'3_.length - 1 : Nat) : Int)) rfl rfl (zCP (by omega) (by omega)) rfl (zGp (c := (((l'3_.length - 1) / 2 : Nat) : Int)) rfl rfl (by decide) (qui (b := 2) (by omega)) rfl (zm (pV 3 rfl) 1 ((l'3_.length - 1) / 2) rfl rfl rfl (by omega) rfl (yR (pV 3 rfl) 1 ((l'3_.length - 1) / 2) 0 (fun _ => rfl) rfl rfl (by omega) rfl rfl (zK rfl (zK rfl (zA ?_))))))))))))
    exact zY (xP (v := Vn (zG l'3_ ((l'3_.length - 1) / 2))) (v' := Vi 0) rfl rfl rfl (fun w' hw => ⟨(zG l'3_ ((l'3_.length - 1) / 2)), 0, rfl, zEY c1 c2 hf6_2 hf6_2_1, hw.sel [2] rfl (by decide)⟩))
def kO (l : List Nat) : Nat := (l.filter fun n => decide (zEA l n)).foldl max 0
theorem zFs {l : List Nat} {n : Nat} : ∀ {a : Nat}, a ≤ n → (∀ m ∈ l, m ≤ n) → (a = n ∨ n ∈ l) → l.foldl max a = n := by
  induction l with
  | nil => intro a _ _ h; simpa using h
  | cons b l ih =>
    intro a ha hl h
    have hb := hl b (by simp)
    refine ih (by omega) (fun m hm => hl m (List.mem_cons_of_mem _ hm)) ?_
    rcases h with h | h
    · left; omega
    · rcases List.mem_cons.1 h with h | h
      · left; omega
      · exact .inr h
theorem zFk {l : List Nat} {n : Nat} (h : zEA l n ∧ 2 * cgt l n ≤ l.length ∧ n ∈ l) : kO l = n := by
  refine zFs (Nat.zero_le _) (fun m hm => ?_) (.inr (List.mem_filter.2 ⟨h.2.2, decide_eq_true h.1⟩))
  have h2 := of_decide_eq_true (List.mem_filter.1 hm).2
  by_cases q : m ≤ n
  · exact q
  · have := zIG (l := l) (show n < m by omega)
    unfold zEA at h2; omega
end Go.Proofs.YtkkeknmkipkbmaaGreat
