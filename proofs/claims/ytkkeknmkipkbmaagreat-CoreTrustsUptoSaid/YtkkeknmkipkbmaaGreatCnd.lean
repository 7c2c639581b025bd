import Derived.Test.YtkkeknmkipkbmaaGreatCoV
import Derived.Test.YtkkeknmkipkbmaaGreatGrd
set_option linter.unusedSectionVars false
set_option linter.unusedSimpArgs false
set_option linter.unusedVariables false
set_option maxRecDepth 10000
namespace Go.Proofs.YtkkeknmkipkbmaaGreat
open Go Go.Sc Go.Proofs
def a3 (rho : Int) : StA := { id := 1, nodes := 0, voters := 0, edges := 0, rho := rho, base := 100, spread := 9, beat := 3, disk := 0, post := 0, keep := 0 }
def t0 : TimD := { term := 0, vote := 0, now := 0, heard := 0, due := 100, beaten := 0, checked := 0, gd := 0, stamp := 0 }
def n0 : NodA := { t := t0, r := ⟨1, 0, 0⟩, E := [], ld := none, yes := [] }
def n1 : NodA := { t := { t0 with now := 100, due := 200 }, r := ⟨2, 0, 0⟩, E := [], ld := none, yes := [1] }
theorem zKT {rho : Int} : xQ (a3 rho) [1, 2, 3] 100 0 n0 = (n1, ⟨[⟨1, 1, 2, 1, 0, 0, 0, 0, false, [], ⟨[], []⟩, 0, []⟩, ⟨1, 1, 3, 1, 0, 0, 0, 0, false, [], ⟨[], []⟩, 0, []⟩], [], []⟩) := by
  rfl
def m2 : MsgA := ⟨2, 2, 1, 1, 0, 0, 0, 0, true, [], ⟨[], []⟩, 0, []⟩
def n2 : NodA := { t := { t0 with term := 1, vote := 1, now := 100, due := 200 }, r := ⟨3, 0, 0⟩, E := [], ld := none, yes := [1] }
theorem zKw {rho : Int} : jU (a3 rho) [1, 2, 3] 100 0 m2 n1 = (n2, ⟨[⟨3, 1, 2, 1, 0, 0, 0, 0, false, [], ⟨[], []⟩, 0, []⟩, ⟨3, 1, 3, 1, 0, 0, 0, 0, false, [], ⟨[], []⟩, 0, []⟩], [], []⟩) := by
  rfl
theorem zKh {rho : Int} : zAJ (a3 rho) [1, 2, 3] [] = [(0, xJ 0 2), (0, xJ 0 3)] := by
  unfold zAJ
  rw [show (za [1, 2, 3] []).vs ++ (za [1, 2, 3] []).ls = [1, 2, 3] from rfl, ← zCY (List.Perm.refl [1, 2, 3]) (by simp [ole_int])]
  rfl
def m3 : MsgA := ⟨4, 2, 1, 1, 0, 0, 0, 0, true, [], ⟨[], []⟩, 0, []⟩
def p3 (id : Int) : PeerM := { id := id, next := 1, mtch := 0, round := 0, flight := 1, off := 0, opn := false, told := false, asked := false }
def l3 : LdD := { pv := .slice none 0 0, peers := [(0, p3 2), (0, p3 3)], av := .slice none 0 0, answered := [], rv := .slice none 0 0, rounds := [100], sure := 0, kv := .slice none 0 0, looks := [], give := 0, given := false }
def n3 : NodA := { t := { t0 with term := 1, vote := 1, now := 100, due := 200, stamp := 100, checked := 100, beaten := 100 }, r := ⟨4, 1, 0⟩, E := [jc 0 1], ld := some l3, yes := [] }
theorem zKj {rho : Int} : jU (a3 rho) [1, 2, 3] 100 0 m3 n2 = (n3, ⟨[⟨5, 1, 2, 1, 0, 0, 0, 1, false, [jc 0 1], ⟨[], []⟩, 0, []⟩, ⟨5, 1, 3, 1, 0, 0, 0, 1, false, [jc 0 1], ⟨[], []⟩, 0, []⟩], [], []⟩) := by
  have h1 : jU (a3 rho) [1, 2, 3] 100 0 m3 n2 = zBs (kZ (a3 rho) [1, 2, 3] { n2 with yes := [1, 2] }) := rfl
  rw [h1]
  unfold kZ
  dsimp only [n2]
  rw [zKh]
  rfl
theorem zIu {rho : Int} : jN (a3 rho) [1, 2, 3] 1 true 100 n3 = ((n3, ⟨[], [], []⟩), 15) := by
  rfl
def m5 : MsgA := ⟨6, 3, 1, 1, 1, 0, 0, 1, true, [], ⟨[], []⟩, 0, []⟩
def p5 : PeerM := { id := 3, next := 2, mtch := 1, round := 1, flight := 0, off := 0, opn := true, told := true, asked := false }
def l5 : LdD := { l3 with peers := [(0, p3 2), (0, p5)], answered := [3], sure := 1 }
def n5 : NodA := { n3 with t := { t0 with term := 1, vote := 1, now := 100, heard := 100, due := 200, stamp := 100, checked := 100, beaten := 100 }, r := ⟨4, 1, 1⟩, ld := some l5 }
theorem zKc {rho : Int} : jU (a3 rho) [1, 2, 3] 100 0 m5 n3 = (n5, ⟨[], [], []⟩) := by
  rfl
theorem zJl {rho now : Int} (h : max 100 now - 100 < (xH 100 rho).1) : jN (a3 rho) [1, 2, 3] 2 true now n5 = ((atF now n5, ⟨[], [⟨2, 1⟩], []⟩), 0) := by
  have h1 : jN (a3 rho) [1, 2, 3] 2 true now n5 = (zAA (a3 rho) [1, 2, 3] 2 true (atF now n5) l5, 0) := rfl
  rw [h1]
  unfold zAA
  rw [if_pos (.inr ⟨rfl, rfl, h⟩)]; rfl
def p7 : PeerM := { id := 3, next := 2, mtch := 1, round := 1, flight := 0, off := 0, opn := true, told := false, asked := false }
def l7 (now : Int) : LdD := { l5 with peers := [(0, p3 2), (0, p7)], rounds := [100, now], looks := [⟨2, 1, 2⟩] }
def n7 (now : Int) : NodA := { n5 with t := { n5.t with now := now, beaten := now }, ld := some (l7 now) }
theorem zJj {rho now : Int} (h : ¬ max 100 now - 100 < (xH 100 rho).1) : jN (a3 rho) [1, 2, 3] 2 true now n5 = ((n7 (max 100 now), ⟨[⟨5, 1, 2, 1, 0, 0, 1, 2, false, [jc 0 1], ⟨[], []⟩, 0, []⟩, ⟨5, 1, 3, 1, 1, 1, 1, 2, false, [], ⟨[], []⟩, 0, []⟩], [], []⟩), 0) := by
  have h1 : jN (a3 rho) [1, 2, 3] 2 true now n5 = (zAA (a3 rho) [1, 2, 3] 2 true (atF now n5) l5, 0) := rfl
  rw [h1]
  unfold zAA
  rw [if_neg (fun q => q.elim (show ¬ (za [1, 2, 3] [jc 0 1]).quorum [1] by decide) fun q => h q.2.2)]
  rfl
def m8 : MsgA := ⟨6, 3, 1, 1, 1, 0, 0, 2, true, [], ⟨[], []⟩, 0, []⟩
def p8 : PeerM := { id := 3, next := 2, mtch := 1, round := 2, flight := 0, off := 0, opn := true, told := true, asked := false }
theorem zK6 {rho now : Int} {t : TimD} (ht : t.term = 1) : y3 (a3 rho) t [1, 2, 3] [jc 0 1] (l7 now) 1 1 m8 = ⟨1, p8, false, []⟩ := by
  obtain ⟨tm, a1, a2, a4, a5, a6, a7, a8, a9⟩ := t
  cases ht
  rfl
theorem zK2 {rho now now2 : Int} : (jU (a3 rho) [1, 2, 3] now2 0 m8 (n7 now)).2 = ⟨[], [⟨2, 1⟩], []⟩ := by
  have h1 : jU (a3 rho) [1, 2, 3] now2 0 m8 (n7 now) = jC (a3 rho) [1, 2, 3] m8 (atF now2 (n7 now)) (l7 now) := by
    unfold jU xn yX
    rfl
  rw [h1]
  unfold jC
  rw [show xI (l7 now).peers m8.src = some 1 from rfl]
  dsimp only
  rw [show y3 (a3 rho) (atF now2 (n7 now)).t [1, 2, 3] (atF now2 (n7 now)).E (l7 now) 1 (atF now2 (n7 now)).r.commit m8 = ⟨1, p8, false, []⟩ from zK6 rfl]
  rw [show y7 (a3 rho) [1, 2, 3] (atF now2 (n7 now)).E (zi (zV m8 (l7 now) 1) 1 p8) (l7 now).rounds (l7 now).sure = 2 from rfl]
  rfl
def aA : StA := { id := 1, nodes := 0, voters := 0, edges := 0, rho := 0, base := 10, spread := 5, beat := 2, disk := 0, post := 0, keep := 0 }
def nA : NodA := { n0 with t := { t0 with due := 10 } }
theorem zKQ : zAJ aA [1] [] = [] := by
  unfold zAJ
  rw [show (za [1] []).vs ++ (za [1] []).ls = [1] from rfl, ← zCY (List.Perm.refl [1]) (by simp)]
  rfl
theorem zKO : (xQ aA [1] 10 0 nA).1.r = ⟨4, 1, 1⟩ := by
  have h1 : xQ aA [1] 10 0 nA = zBs (kZ aA [1] { nA with t := { t0 with term := 1, vote := 1, now := 10, due := 20 }, r := ⟨3, 0, 0⟩, yes := [1] }) := rfl
  rw [h1]
  unfold kZ
  dsimp only [nA, n0]
  rw [zKQ]
  rfl
theorem zC0 {t rho : Int} (ht : 0 ≤ t ∧ t ≤ 1000) (hr : 0 ≤ rho ∧ rho ≤ 500000) : ¬ jJ t rho := by unfold jJ; omega
theorem zLG {t rho : Int} (ht : 0 ≤ t ∧ t ≤ 1000) (hr : 0 ≤ rho ∧ rho ≤ 500000) : IntKind.i64.wrap (t.tdiv (1000000 + rho)) = 0 := by
  rw [Int.tdiv_eq_ediv_of_nonneg ht.1, Int.ediv_eq_zero_of_lt ht.1 (by omega)]; rfl
theorem zLJ {t rho : Int} (ht : 0 ≤ t ∧ t ≤ 1000) (hr : 0 ≤ rho ∧ rho ≤ 500000) : t.tmod (1000000 + rho) = t := by
  rw [Int.tmod_eq_emod_of_nonneg ht.1, Int.emod_eq_of_lt ht.1 (by omega)]
theorem zGZ (t rho : Int) (w : World) (ht : 0 ≤ t ∧ t ≤ 1000) (hr : 0 ≤ rho ∧ rho ≤ 500000) : Rets Tryz.prog 88 #[Vi t, Vi 1000000, Vi (1000000 + rho)] w fun u_ w' => u_ = Vi (shr t rho) ∧ Own w [] [] w' := by
  have hb := zC0 ht hr
  have hs := zBj hb
  refine zT Tryz.func88 rfl Tryz.ntmps88 (Own.start w) ?_
  refine zB (zK rfl (zA (yV (by kernel_rfl) (by kernel_rfl) (zL rfl (zU) (zL rfl (zU) (zL rfl (zIs (c := 0) rfl rfl (by omega) (zLG ht hr)) (zL rfl (zU) (zL rfl (zIv rfl rfl (zy (by omega))) (zL rfl (zU) (zL rfl (zU) (zL rfl (zGV (c := t) rfl rfl (by omega) (zLJ ht hr)) (zL rfl (zU) ?_))))))))))))
  refine zL rfl (zIv rfl rfl (zy (by omega))) (zL rfl (zU) (zL rfl (zIs (c := shr t rho) rfl rfl (by omega) (zEn hb)) (zL rfl (yw (c := shr t rho) rfl rfl (by rw [Int.zero_mul, Int.zero_add]; exact zy (by omega))) (zL rfl (ya) (xN ?_)))))
  exact zY (yD (v := Vi (shr t rho)) rfl rfl (fun w' hw => ⟨rfl, hw.drop⟩))
theorem zB1 (t rho : Int) (w : World) (ht : 0 ≤ t ∧ t ≤ 1000) (hr : 0 ≤ rho ∧ rho ≤ 500000) : Rets Tryz.prog 49 #[Vi t, Vi rho] w fun u_ w' => u_ = Vi (shr t rho) ∧ Own w [] [] w' := by
  refine zT Tryz.func49 rfl Tryz.ntmps49 (Own.start w) ?_
  refine zB (zK rfl (zA (zB (zD rfl (zD rfl (z3 rfl rfl (zy (by omega)) rfl (zH rfl rfl (fun w' hw => (zGZ t _ w' (by first | omega | (simp <;> omega)) (by first | omega | (simp <;> omega))).mono ?_))))))))
  rintro _ w1 ⟨rfl, hO⟩
  refine (?_ : CL _ _ _ _ _ _ (Own w [] [])) w1 (hw.frame0 hO)
  refine zK rfl (zA ?_)
  exact zY (yD (v := Vi (shr t rho)) rfl rfl (fun w' hw => ⟨rfl, hw.drop⟩))
theorem zHp (t rho : Int) (w : World) (ht : 0 ≤ t ∧ t ≤ 1000) (hr : 0 ≤ rho ∧ rho ≤ 500000) : Rets Tryz.prog 17 #[Vi t, Vi rho] w fun u_ w' => u_ = Vi (shr (shr t rho) rho) ∧ Own w [] [] w' := by
  have hs := zBj (zC0 ht hr)
  refine zT Tryz.func17 rfl Tryz.ntmps17 (Own.start w) ?_
  refine zB (zK rfl (zA (zB (zD rfl (zD rfl (zH rfl rfl (fun w' hw => (zB1 t rho w' (by first | omega | (simp <;> omega)) (by first | omega | (simp <;> omega))).mono ?_)))))))
  rintro _ w1 ⟨rfl, hO⟩
  refine (?_ : CL _ _ _ _ _ _ (Own w [] [])) w1 (hw.frame0 hO)
  refine zD rfl (zH rfl rfl (fun w' hw => (zB1 (shr t rho) rho w' (by first | omega | (simp <;> omega)) (by first | omega | (simp <;> omega))).mono ?_))
  rintro _ w1 ⟨rfl, hO⟩
  refine (?_ : CL _ _ _ _ _ _ (Own w [] [])) w1 (hw.frame0 hO)
  refine zK rfl (zA ?_)
  exact zY (yD (v := Vi (shr (shr t rho) rho)) rfl rfl (fun w' hw => ⟨rfl, hw.drop⟩))
theorem zGm (rho bs sp bt : Int) (vv : Value) (vs : List Int) (draw : Nat) (w : World) (hr : rho < 0 ∨ 500000 < rho) (hvv : Rd w [] (Res.sl vv vs.length (vs.flatMap I1))) : Rets Tryz.prog 10 #[Vi 1, .agg #[Vn 0, Vi 0], .agg #[Vn 0, Vn 0, vv, .slice none 0 0, .slice none 0 0], .slice none 0 0, .agg #[Vi 0, Vi 0, Vi 0, Vi rho, Vi bs, Vi sp, Vi bt, Vi 0, Vi 0, Vi 0], Vi 0, Vn draw] w fun u_ w' => u_ = .tuple #[.pointer none, Vi 1] ∧ Own w [] [] w' := by
  refine zT Tryz.func10 rfl Tryz.ntmps10 (Own.start w) ?_
  refine zB (z7 rfl rfl (fun b8 => z7 rfl rfl (fun b9 => z7 rfl rfl (fun b11 => zK rfl (zK rfl (zA (zQ (zB (zD rfl (yJ rfl rfl rfl (zD rfl (yT (q := 1 < 1) 2 2 [31, 30] (16 < 1) rfl rfl rfl rfl rfl rfl trivial rfl (fun h1_2 => ?_) (fun g1_5 => ?_)))))))))))))
  ·
   refine zO rfl (gF h1_2) (zD rfl (zO rfl (gF h1_2) (yo rfl rfl rfl ?_)))
   exact yK rfl (fun _ hw => hw)
  refine zD rfl (yT (q := (1 < 1) ∨ (16 < 1)) 2 6 [35, 34] (0 < 0) rfl rfl rfl rfl rfl rfl trivial rfl (fun h1_6 => ?_) (fun g1_9 => ?_))
  ·
   refine zO rfl (gF h1_6) (zD rfl (zO rfl (gF h1_6) (yJ rfl rfl rfl ?_)))
   exact yK rfl (fun _ hw => hw)
  refine zD rfl (yT (q := ((1 < 1) ∨ (16 < 1)) ∨ (0 < 0)) 3 10 [40, 39, 38] (rho < 0) rfl rfl rfl rfl rfl rfl trivial rfl (fun h1_10 => ?_) (fun g1_14 => ?_))
  ·
   refine zO rfl (gF h1_10) (zJ (o := 3) rfl rfl (zO rfl (gF h1_10) (zM 2 (v := Vi rho) rfl rfl rfl rfl (zO rfl (gF h1_10) (yJ rfl rfl rfl ?_)))))
   exact yK rfl (fun _ hw => hw)
  refine zD rfl (yT (q := (((1 < 1) ∨ (16 < 1)) ∨ (0 < 0)) ∨ (rho < 0)) 3 15 [45, 44, 43] (500000 < rho) rfl rfl rfl rfl rfl rfl trivial rfl (fun h1_15 => ?_) (fun g1_19 => ?_))
  ·
   refine zO rfl (gF h1_15) (zJ (o := 3) rfl rfl (zO rfl (gF h1_15) (zM 2 (v := Vi rho) rfl rfl rfl rfl (zO rfl (gF h1_15) (yo rfl rfl rfl ?_)))))
   exact yK rfl (fun _ hw => hw)
  refine zD rfl (yT (q := ((((1 < 1) ∨ (16 < 1)) ∨ (0 < 0)) ∨ (rho < 0)) ∨ (500000 < rho)) 8 20 [55, 54, 53, 52, 51, 50, 49, 48] ((min (min bs sp) bt) < 1) rfl rfl rfl rfl rfl rfl trivial rfl (fun h1_20 => ?_) (fun g1_29 => ?_))
  ·
   refine zO rfl (gF h1_20) (zJ (o := 4) rfl rfl (zO rfl (gF h1_20) (zM 2 (v := Vi bs) rfl rfl rfl rfl (zO rfl (gF h1_20) (zJ (o := 5) rfl rfl (zO rfl (gF h1_20) (zM 2 (v := Vi sp) rfl rfl rfl rfl (zO rfl (gF h1_20) (zJ (o := 6) rfl rfl (zO rfl (gF h1_20) (zM 2 (v := Vi bt) rfl rfl rfl rfl (zO rfl (gF h1_20) ?_))))))))))))
   refine zHn (c := min (min bs sp) bt) rfl rfl rfl (zIm _ _ _) rfl (zO rfl (gF h1_20) (yJ rfl rfl rfl ?_))
   exact yK rfl (fun _ hw => hw)
  refine zD rfl (yT (q := (((((1 < 1) ∨ (16 < 1)) ∨ (0 < 0)) ∨ (rho < 0)) ∨ (500000 < rho)) ∨ ((min (min bs sp) bt) < 1)) 8 30 [65, 64, 63, 62, 61, 60, 59, 58] (1073741824 < (max (max bs sp) bt)) rfl rfl rfl rfl rfl rfl trivial rfl (fun h1_30 => ?_) (fun g1_39 => ?_))
  ·
   refine zO rfl (gF h1_30) (zJ (o := 4) rfl rfl (zO rfl (gF h1_30) (zM 2 (v := Vi bs) rfl rfl rfl rfl (zO rfl (gF h1_30) (zJ (o := 5) rfl rfl (zO rfl (gF h1_30) (zM 2 (v := Vi sp) rfl rfl rfl rfl (zO rfl (gF h1_30) (zJ (o := 6) rfl rfl (zO rfl (gF h1_30) (zM 2 (v := Vi bt) rfl rfl rfl rfl (zO rfl (gF h1_30) ?_))))))))))))
   refine zG6 (c := max (max bs sp) bt) rfl rfl rfl (zGR _ _ _) rfl (zO rfl (gF h1_30) (yo rfl rfl rfl ?_))
   exact yK rfl (fun _ hw => hw)
  refine zA (zf rfl (fun c1 => ?_) (fun c1 => ?_))
  ·
   refine zB (zK rfl (zK rfl (zA ?_)))
   exact zY (xP (v := .pointer none) (v' := Vi 1) rfl rfl rfl (fun w' hw => ⟨rfl, hw.drop⟩))
  ·
   exact absurd (.inl (.inl (by rcases hr with h | h; exact .inl (.inr h); exact .inr h))) c1
theorem zCK (w : World) : Rets Tryz.prog 9 #[] w fun u_ w' => u_ = .agg #[Vi 0, Vi 0, Vi 0, Vi 0, Vi 10, Vi 9, Vi 3, Vi 0, Vi 0, Vi 0] ∧ Own w [] [] w' := by
  refine zT Tryz.func9 rfl Tryz.ntmps9 (Own.start w) ?_
  refine zB (yS (v := .agg #[Vi 0, Vi 0, Vi 0, Vi 0, Vi 0, Vi 0, Vi 0, Vi 0, Vi 0, Vi 0]) (by kernel_rfl) rfl (fun b0 => zA (zB (yc (cs := [Vi 0, Vi 0, Vi 0, Vi 0, Vi 10, Vi 9, Vi 3, Vi 0, Vi 0, Vi 0]) (z := [Vi 0, Vi 0, Vi 0, Vi 0, Vi 0, Vi 0, Vi 0, Vi 0, Vi 0, Vi 0]) (pl := [(0, 1), (1, 1), (2, 1), (3, 1), (4, 1), (5, 1), (6, 1), (7, 1), (8, 1), (9, 1)]) (by kernel_rfl) (by kernel_rfl) rfl (yH 0 rfl rfl rfl (xx rfl) rfl (zA ?_))))))
  exact zY (jt (cs := [Vi 0, Vi 0, Vi 0, Vi 0, Vi 10, Vi 9, Vi 3, Vi 0, Vi 0, Vi 0]) rfl rfl (by kernel_rfl) (Own.rowCells (i := 0) rfl) (fun w' hw => ⟨rfl, hw.drop⟩))
theorem zAS (w : World) : Rets Tryz.prog 11 #[] w fun u_ w' => u_ = .bool true ∧ Own w [] [] w' := by
  refine zT Tryz.func11 rfl Tryz.ntmps11 (Own.start w) ?_
  refine zB (zK rfl (zA (zB (yc (cs := [Vn 0, Vi 0]) (z := [Vn 0, Vi 0]) (pl := [(0, 1), (1, 1)]) (by kernel_rfl) (by kernel_rfl) rfl (z4 (e := 3) (sz := 1) (vs := [Vi 1]) (by kernel_rfl) rfl rfl (by simp [Value.cells]) (by decide) rfl (fun b9 => yc (cs := [(.slice (some ⟨b9, 0, none⟩) 1 1), .slice none 0 0]) (z := [.slice none 0 0, .slice none 0 0]) (pl := [(0, 1), (1, 1)]) (by kernel_rfl) (by kernel_rfl) rfl (yc (cs := [Vn 0, Vn 0, (.slice (some ⟨b9, 0, none⟩) 1 1), .slice none 0 0, .slice none 0 0]) (z := [Vn 0, Vn 0, .slice none 0 0, .slice none 0 0, .slice none 0 0]) (pl := [(0, 1), (1, 1), (2, 2), (4, 1)]) (by kernel_rfl) (by kernel_rfl) rfl (yc (cs := [Vi 0, Vi 0, Vi 0, Vi 0, Vi 10, Vi 5, Vi 2, Vi 0, Vi 0, Vi 0]) (z := [Vi 0, Vi 0, Vi 0, Vi 0, Vi 0, Vi 0, Vi 0, Vi 0, Vi 0, Vi 0]) (pl := [(0, 1), (1, 1), (2, 1), (3, 1), (4, 1), (5, 1), (6, 1), (7, 1), (8, 1), (9, 1)]) (by kernel_rfl) (by kernel_rfl) rfl (zH rfl rfl (fun w' hw => (zGq 1 0 10 5 2 (.slice (some ⟨b9, 0, none⟩) 1 1) [1] 0 w' (by first | omega | (simp <;> omega)) (by first | omega | (simp <;> omega)) (by first | omega | (simp <;> omega)) (by first | omega | (simp <;> omega)) (by first | omega | (simp <;> omega)) ⟨by simp, by simp⟩ (by first | omega | (simp <;> omega) | (constructor <;> (first | omega | (simp <;> omega)))) (by first | omega | (simp <;> omega) | (constructor <;> (first | omega | (simp <;> omega)))) (by first | omega | (simp <;> omega)) (hw.rdVec0 0 rfl)).mono ?_))))))))))
  rintro _ w1 ⟨cb1_, jb2_, b3_, lv4_, es5_, rfl, hf1_5, hf1_5_1, hO⟩
  have he := List.eq_nil_of_length_eq_zero hf1_5
  have hv := hf1_5_1
  have hcf : za b3_.vs (es5_.map EntD.toEntA) = ⟨[1], []⟩ := by rw [he, hv]; rfl
  refine (?_ : CL _ _ _ _ _ _ (Own w [] [vI (.slice (some ⟨b9, 0, none⟩) 1 1) [1], ze cb1_ ({ term := 0, vote := 0, now := 0, heard := 0, due := 0 + (10 + ((0 % (Int.toNat 5 + 1) : Nat) : Int)), beaten := 0, checked := 0, gd := 0, stamp := 0 } : TimD) (.pointer none) ({ id := 1, nodes := 0, voters := 0, edges := 0, rho := 0, base := 10, spread := 5, beat := 2, disk := 0, post := 0, keep := 0 } : StA) ({ role := 1, who := 0, commit := 0 } : RolD) b3_ (.slice none 0 0) jb2_ 0 (.pointer none), Res.nl b3_ lv4_ es5_, Res.lo none, vI (.slice none 0 0) ([] : List Int)])) w1 (hw.frame0 hO)
  refine zD rfl (yE (vs := [pt cb1_, Vi 0]) rfl rfl rfl (yE (vs := [pt cb1_, Vi 0]) rfl rfl rfl (zK rfl (zK rfl (zA (zQ (zB (zD rfl (kR rfl rfl rfl (zD rfl (yT (q := 0 ≠ 0) 2 2 [20, 19] (false = true) rfl rfl rfl rfl rfl rfl trivial rfl (fun h2_2 => ?_) (fun g2_5 => ?_))))))))))))
  ·
   refine zO rfl (gF h2_2) (zD rfl (zO rfl (gF h2_2) (xy (by kernel_rfl) rfl rfl rfl ?_)))
   exact yK (xC _) (fun _ hw => hw)
  refine zA (zf rfl (fun c1 => ?_) (fun c1 => ?_))
  ·
   exact absurd c1 (by simp)
  ·
   refine zR (zB (zD rfl (zH rfl rfl (fun w' hw => (zCI cb1_ jb2_ ({ term := 0, vote := 0, now := 0, heard := 0, due := 0 + (10 + ((0 % (Int.toNat 5 + 1) : Nat) : Int)), beaten := 0, checked := 0, gd := 0, stamp := 0 } : TimD) ({ id := 1, nodes := 0, voters := 0, edges := 0, rho := 0, base := 10, spread := 5, beat := 2, disk := 0, post := 0, keep := 0 } : StA) ({ role := 1, who := 0, commit := 0 } : RolD) b3_ (.slice none 0 0) 0 lv4_ es5_ none [] 10 0 w' (by rw [he]; exact ⟨Nat.zero_le _, Nat.zero_le _, trivial⟩) (by rw [he]; exact Nat.zero_le _) (by rw [hv]; decide) (by rw [hcf]; decide) ⟨⟨fun h => absurd (show (1 : Int) = 3 from h) (by decide), by decide⟩, (by rw [he]; decide), by decide, by decide, ⟨fun h => absurd (show (1 : Int) = 4 from h) (by decide), fun h => by cases h⟩, (fun q h => by cases h), Nat.zero_le _⟩ ⟨by decide, by decide, by decide, by decide, by decide⟩ (by first | omega | (simp <;> omega)) (by first | omega | (simp <;> omega)) (by first | assumption | omega | (simp <;> omega) | (constructor <;> (first | omega | (simp only [zd]; omega) | (simp <;> omega)))) (by first | assumption | omega | (simp <;> omega) | (constructor <;> (first | omega | (simp only [zd]; omega) | (simp <;> omega)))) (hw.give [1, 2, 3, 4] rfl (by decide))).mono ?_))))
   rintro _ w1 ⟨n6_, o7_, x8_, rfl, hf4_1, hf4_1_1, hf4_1_2, hf4_1_3, hO⟩
   have hs : n6_.r = ⟨4, 1, 1⟩ := by have h := congrArg (fun q : NodA × OutA => q.1.r) hf4_1; rw [he, hv] at h; exact h.trans zKO
   refine (?_ : CL _ _ _ _ _ _ (Own w [] [vI (.slice (some ⟨b9, 0, none⟩) 1 1) [1], ze cb1_ n6_.t (yf n6_.y) ({ id := 1, nodes := 0, voters := 0, edges := 0, rho := 0, base := 10, spread := 5, beat := 2, disk := 0, post := 0, keep := 0 } : StA) n6_.r b3_ n6_.yv jb2_ 0 (.pointer none), Res.nl b3_ n6_.lv n6_.es, Res.lo n6_.y, vI n6_.yv n6_.yes, vM o7_.mv o7_.msgs, sM o7_.msgs, vR o7_.rv o7_.rdys, vU o7_.xv o7_.losts])) w1 (hw.frameL [1, 2, 3, 4] rfl hO)
   refine zA (zB (zD rfl (zH rfl rfl (fun w' hw => (zII cb1_ jb2_ n6_.t ({ id := 1, nodes := 0, voters := 0, edges := 0, rho := 0, base := 10, spread := 5, beat := 2, disk := 0, post := 0, keep := 0 } : StA) n6_.r b3_ (yf n6_.y) n6_.yv (.pointer none) 0 w' (hw.give [1] rfl (by decide))).mono ?_))))
   rintro _ w1 ⟨rfl, hO⟩
   refine (?_ : CL _ _ _ _ _ _ (Own w [] [vI (.slice (some ⟨b9, 0, none⟩) 1 1) [1], Res.nl b3_ n6_.lv n6_.es, Res.lo n6_.y, vI n6_.yv n6_.yes, vM o7_.mv o7_.msgs, sM o7_.msgs, vR o7_.rv o7_.rdys, vU o7_.xv o7_.losts, ze cb1_ n6_.t (yf n6_.y) ({ id := 1, nodes := 0, voters := 0, edges := 0, rho := 0, base := 10, spread := 5, beat := 2, disk := 0, post := 0, keep := 0 } : StA) n6_.r b3_ n6_.yv jb2_ 0 (.pointer none)])) w1 (hw.frameL [1] rfl hO)
   refine zD rfl (yE (vs := [.agg #[Vn n6_.t.term, Vi n6_.t.vote], Vi n6_.r.role, Vi n6_.r.who, Vn n6_.r.commit]) rfl rfl rfl (yE (vs := [.agg #[Vn n6_.t.term, Vi n6_.t.vote], Vi n6_.r.role, Vi n6_.r.who, Vn n6_.r.commit]) rfl rfl rfl (yE (vs := [.agg #[Vn n6_.t.term, Vi n6_.t.vote], Vi n6_.r.role, Vi n6_.r.who, Vn n6_.r.commit]) rfl rfl rfl (yE (vs := [.agg #[Vn n6_.t.term, Vi n6_.t.vote], Vi n6_.r.role, Vi n6_.r.who, Vn n6_.r.commit]) rfl rfl rfl (yS (v := .agg #[Vn 0, Vi 0]) (by kernel_rfl) rfl (fun b3 => yH 9 rfl rfl rfl (xx rfl) rfl (zK rfl (zK rfl (zK rfl (zA (zB (zD rfl ?_))))))))))))
   refine yZ rfl rfl rfl (zD rfl (yd (q := n6_.r.role = 4) 2 2 [35, 34] (n6_.r.who = 1) rfl rfl rfl rfl rfl rfl trivial rfl (fun h6_2 => ?_) (fun g6_5 => ?_)))
   ·
    refine zO rfl (gT h6_2) (zD rfl (zO rfl (gT h6_2) (yZ rfl rfl rfl ?_)))
    exact yK rfl (fun _ hw => hw)
   refine zD rfl (yd (q := (n6_.r.role = 4) ∧ (n6_.r.who = 1)) 2 6 [39, 38] (((n6_.r.commit : Nat) : Int) = ((1 : Nat) : Int)) rfl rfl rfl rfl rfl rfl trivial rfl (fun h6_6 => ?_) (fun g6_9 => ?_))
   ·
    refine zO rfl (gT h6_6) (zD rfl (zO rfl (gT h6_6) (yZ rfl rfl rfl ?_)))
    exact yK rfl (fun _ hw => hw)
   refine zK rfl (zA ?_)
   exact zY (yD (v := .bool (decide (((n6_.r.role = 4) ∧ (n6_.r.who = 1)) ∧ (((n6_.r.commit : Nat) : Int) = ((1 : Nat) : Int))))) rfl rfl (fun w' hw => ⟨(by rw [hs]; rfl), hw.drop⟩))
theorem zKR {l : LdD} (h : l.er.bd) : l.bd := by
  have hp : ∀ p ∈ l.peers, ((0, p.2) : PeerP) ∈ l.er.peers := fun p hp => List.mem_map_of_mem (f := fun q : PeerP => ((0 : Nat), q.2)) hp
  exact ⟨by have := h.peers; rwa [show l.er.peers.length = l.peers.length from zJd] at this, fun p q => h.each (0, p.2) (hp p q), fun p q => h.round (0, p.2) (hp p q), h.rounds, h.looks, h.answered⟩
structure NodA.ok (vs0 : List Int) (A : NodA) : Prop where
  htm : (A.r.role = 3 → 1 ≤ A.t.term) ∧ A.t.term ≤ 4611686018427387904
  good : (LogA.mk 0 0 A.E).good
  len : A.E.length ≤ 100000
  hen : (LogA.mk 0 0 A.E).end_ ≤ A.t.term
  hn : 0 ≤ A.t.now ∧ A.t.now ≤ 1000000000000000
  hh : 0 ≤ A.t.heard ∧ A.t.heard ≤ 1000000000000000
  hbt : 0 ≤ A.t.beaten ∧ A.t.beaten ≤ 1000000000000000
  hck : 0 ≤ A.t.checked ∧ A.t.checked ≤ 1000000000000000
  hro : A.r.role = 4 ↔ A.ld.isSome = true
  hld : ∀ l, A.ld = some l → l.bd
  hy : A.yes.length ≤ 1000
  hcm : 1 ≤ ((za vs0 A.E).vs ++ (za vs0 A.E).ls).length ∧ ((za vs0 A.E).vs ++ (za vs0 A.E).ls).length ≤ 12
  hcl : A.r.commit ≤ A.E.length
theorem NodA.ok.hand {vs0 : List Int} {n : NdD} (h : n.a.ok vs0) : HandOk n.t n.r n.y n.yes (LG 0 0 n.es).end_ :=
  ⟨h.htm, h.hen, h.hn, h.hh, h.hro.trans (by unfold NdD.a; rw [Option.isSome_map]), fun q hq => zKR (h.hld q.2.er (by unfold NdD.a; rw [hq]; rfl)), h.hy⟩
theorem NodA.ok.len' {vs0 : List Int} {n : NdD} (h : n.a.ok vs0) : n.es.length ≤ 100000 := by have := h.len; unfold NdD.a at this; rwa [List.length_map] at this
theorem NodA.ok.hcl' {vs0 : List Int} {n : NdD} (h : n.a.ok vs0) : n.r.commit ≤ n.es.length := by have := h.hcl; unfold NdD.a at this; rwa [List.length_map] at this
def Res.cn (cb jb : Nat) (a : StA) (b : StB) (draw : Nat) (n : NdD) : Res := Res.star [ze cb n.t (yf n.y) a n.r b n.yv jb draw (.pointer none), Res.nl b n.lv n.es, Res.lo n.y, vI n.yv n.yes]
theorem zKI (cb jb : Nat) (a : StA) (b : StB) (draw : Nat) (n : NdD) (now : Int) (dr : Nat) (w : World) (ha : a.ok) (hvl : b.vs.length ≤ 12) (hk : n.a.ok b.vs) (hnw : 0 ≤ now ∧ now ≤ 1000000000000000) (hd : dr < 18446744073709551616) (hin : Own w (y8 [Res.cn cb jb a b draw n]) [Res.cn cb jb a b draw n] w) : Rets Tryz.prog 12 #[pt cb, Vi now, Vn dr] w fun u_ w' => ∃ (n' : NdD) (o : OutD) (x : OutA), u_ = .agg (OutD.cells o).toArray ∧ (n'.a, x) = xQ a b.vs now dr n.a ∧ o.msgs.map MsgD.a = x.ms ∧ o.rdys = x.rdys ∧ o.losts = x.losts ∧ Own w (y8 [Res.cn cb jb a b draw n]) [Res.cn cb jb a b dr n', vM o.mv o.msgs, sM o.msgs, vR o.rv o.rdys, vU o.xv o.losts] w' := by
  refine (zCI cb jb n.t a n.r b n.yv draw n.lv n.es n.y n.yes now dr w hk.good hk.len' hvl hk.hcm hk.hand ha hnw hd hk.hbt hk.hck (hin.starOpen 0 rfl)).mono ?_
  rintro _ w1 ⟨n', o, x, rfl, hf, h1, h2, h3, hO⟩
  exact ⟨n', o, x, rfl, hf, h1, h2, h3, (hO.starShut [0, 1, 2, 3] rfl (by decide)).sel [4, 0, 1, 2, 3] rfl (by decide)⟩
theorem zEd (cb jb : Nat) (a : StA) (b : StB) (draw : Nat) (n : NdD) (m : MsgD) (now : Int) (dr : Nat) (w : World) (ha : a.ok) (hvl : b.vs.length ≤ 12) (hk : n.a.ok b.vs) (hnw : 0 ≤ now ∧ now ≤ 1000000000000000) (hd : dr < 18446744073709551616) (hm : m.wf) (hmk : m.kind ≠ 7 ∧ m.kind ≠ 8) (hin : Own w (y8 [Res.cn cb jb a b draw n]) [Res.cn cb jb a b draw n] w) (rd_m : MsgD.rd m w (y8 [Res.cn cb jb a b draw n])) : Rets Tryz.prog 16 #[pt cb, .agg (MsgD.cells m).toArray, Vi now, Vn dr] w fun u_ w' => ∃ (n' : NdD) (dr' : Nat) (o : OutD) (x : OutA), u_ = .agg (OutD.cells o).toArray ∧ (n'.a, x) = jU a b.vs now dr m.a n.a ∧ o.msgs.map MsgD.a = x.ms ∧ o.rdys = x.rdys ∧ o.losts = x.losts ∧ Own w (y8 [Res.cn cb jb a b draw n]) [Res.cn cb jb a b dr' n', vM o.mv o.msgs, sM o.msgs, vR o.rv o.rdys, vU o.xv o.losts] w' := by
  refine (zJM cb jb n.t a n.r b n.yv draw n.lv n.es n.y n.yes m now dr w hk.good hk.len' hvl hk.hcm hk.hand ha hnw hm hd hmk (hin.starOpen 0 rfl) rd_m).mono ?_
  rintro _ w1 ⟨n', dr', o, x, rfl, hf, h1, h2, h3, hO⟩
  exact ⟨n', dr', o, x, rfl, hf, h1, h2, h3, (hO.starShut [0, 1, 2, 3] rfl (by decide)).sel [4, 0, 1, 2, 3] rfl (by decide)⟩
theorem zHG (cb jb : Nat) (a : StA) (b : StB) (draw : Nat) (n : NdD) (id : Nat) (lazy : Bool) (now : Int) (w : World) (ha : a.ok) (hvl : b.vs.length ≤ 12) (hk : n.a.ok b.vs) (hnw : 0 ≤ now ∧ now ≤ 1000000000000000) (hin : Own w (y8 [Res.cn cb jb a b draw n]) [Res.cn cb jb a b draw n] w) : Rets Tryz.prog 15 #[pt cb, Vn id, .bool lazy, Vi now] w fun u_ w' => ∃ (n' : NdD) (o : OutD) (x : OutA) (e : Int), u_ = .tuple #[.agg (OutD.cells o).toArray, Vi e] ∧ ((n'.a, x), e) = jN a b.vs id lazy now n.a ∧ o.msgs.map MsgD.a = x.ms ∧ o.rdys = x.rdys ∧ o.losts = x.losts ∧ Own w (y8 [Res.cn cb jb a b draw n]) [Res.cn cb jb a b draw n', vM o.mv o.msgs, sM o.msgs, vR o.rv o.rdys, vU o.xv o.losts] w' := by
  refine (zJI cb jb n.t a n.r b n.yv draw n.lv n.es n.y n.yes id lazy now w hk.good hk.len' hvl hk.hcm hk.hand ha hnw hk.hcl' (hin.starOpen 0 rfl)).mono ?_
  rintro _ w1 ⟨n', o, x, e, rfl, hf, h1, h2, h3, hO⟩
  exact ⟨n', o, x, e, rfl, hf, h1, h2, h3, (hO.starShut [0, 1, 2, 3] rfl (by decide)).sel [4, 0, 1, 2, 3] rfl (by decide)⟩
theorem zKC (ci cr bs sp bt : Int) (vv : Value) (vs : List Int) (draw : Nat) (w : World) (hid : 1 ≤ ci ∧ ci ≤ 16) (hr : 0 ≤ cr ∧ cr ≤ 500000) (hb1 : 1 ≤ bs ∧ bs ≤ 1000000) (hb2 : 1 ≤ sp ∧ sp ≤ 1000000) (hb3 : 1 ≤ bt ∧ bt ≤ 1000000) (hvs : Rises vs) (hvn : 0 < vs.length) (hvl : vs.length ≤ 16) (hd : draw < 18446744073709551616) (hvv : Rd w [] (Res.sl vv vs.length (vs.flatMap I1))) : Rets Tryz.prog 10 #[Vi ci, .agg #[Vn 0, Vi 0], .agg #[Vn 0, Vn 0, vv, .slice none 0 0, .slice none 0 0], .slice none 0 0, .agg #[Vi 0, Vi 0, Vi 0, Vi cr, Vi bs, Vi sp, Vi bt, Vi 0, Vi 0, Vi 0], Vi 0, Vn draw] w fun u_ w' => ∃ (cb jb : Nat) (b : StB) (n : NdD), u_ = .tuple #[pt cb, Vi 0] ∧ n.a = { t := { term := 0, vote := 0, now := 0, heard := 0, due := 0 + (bs + ((draw % (Int.toNat sp + 1) : Nat) : Int)), beaten := 0, checked := 0, gd := 0, stamp := 0 }, r := ⟨1, 0, 0⟩, E := [], ld := none, yes := [] } ∧ b.vs = vs ∧ Own w [] [Res.cn cb jb ({ id := ci, nodes := 0, voters := 0, edges := 0, rho := cr, base := bs, spread := sp, beat := bt, disk := 0, post := 0, keep := 0 } : StA) b draw n] w' := by
  refine (zGq ci cr bs sp bt vv vs draw w hid hr hb1 hb2 hb3 hvs hvn hvl hd hvv).mono ?_
  rintro _ w1 ⟨cb, jb, b, lv, es, rfl, he, hb, hO⟩
  exact ⟨cb, jb, b, ⟨{ term := 0, vote := 0, now := 0, heard := 0, due := 0 + (bs + ((draw % (Int.toNat sp + 1) : Nat) : Int)), beaten := 0, checked := 0, gd := 0, stamp := 0 }, ⟨1, 0, 0⟩, lv, es, none, .slice none 0 0, []⟩, rfl, by unfold NdD.a; rw [List.eq_nil_of_length_eq_zero he]; rfl, hb, hO.toStar⟩
end Go.Proofs.YtkkeknmkipkbmaaGreat
