import Derived.Test.YtkkeknmkipkbmaaGreatFwX
import Derived.Test.YtkkeknmkipkbmaaGreatConfA
set_option linter.unusedSectionVars false
set_option linter.unusedSimpArgs false
set_option linter.unusedVariables false
set_option maxRecDepth 10000
namespace Go.Proofs.YtkkeknmkipkbmaaGreat
open Go Go.Sc Go.Proofs
theorem zDp {P : Program} {n : Nat} {fn : Func} {R : Value → World → Prop} {A : World → Prop} {f : Nat → Value} {t0 t1 t2 : Tmp} {T : TypeId} {b : Nat} {cs : List Value} {v0 v2 : Value} (hr : fn.results = #[.tmp t0, .cell t1 T, .tmp t2]) (h0 : f t0 = v0) (h1 : f t1 = .pointer (some ⟨b, 0, none⟩)) (h2 : f t2 = v2)
    (ht : xB P T = some cs.length) (hc : ∀ w, A w → ∀ i u, cs[i]? = some u → w.cell? ⟨b, 0 + i, none⟩ = some u) (h : ∀ w, A w → R (.tuple #[v0, .agg cs.toArray, v2]) w) : ∀ w, A w → ka P fn n R f w :=
  fun w hw => ⟨_, fun a ha => by
    have := yL (P := P) ht (hc w hw)
    simp [results, hr, ha.get, h0, h1, h2, asAddr, this], h w hw⟩
def jV (t rho : Int) : Prop := ((t < 0 ∨ 1099511627776 < t) ∨ rho < 0) ∨ 500000 < rho
instance (t rho : Int) : Decidable (jV t rho) := inferInstanceAs (Decidable (((_ ∨ _) ∨ _) ∨ _))
def shr (t rho : Int) : Int := t * 1000000 / (1000000 + rho)
def yr (t rho : Int) : Int × Int := if jV t rho then (0, 1) else (shr t rho, 0)
def xT (t rho : Int) : Int × Int := if (yr t rho).2 ≠ 0 then (0, (yr t rho).2) else yr (yr t rho).1 rho
theorem zD4 {t rho : Int} (h : ¬ jV t rho) : 0 ≤ shr t rho ∧ shr t rho ≤ t := by
  unfold jV at h
  unfold shr
  refine ⟨Int.ediv_nonneg (by omega) (by omega), ?_⟩
  refine Int.ediv_le_of_le_mul (by omega) ?_
  rw [Int.mul_add]
  have : 0 ≤ t * rho := Int.mul_nonneg (by omega) (by omega)
  omega
theorem zDW {t rho : Int} (h : ¬ jV t rho) : IntKind.i64.wrap ((t * 1000000).tdiv (1000000 + rho)) = shr t rho := by
  have h1 := zD4 h
  have h2 : (t * 1000000).tdiv (1000000 + rho) = shr t rho := by unfold jV at h; rw [Int.tdiv_eq_ediv_of_nonneg (by omega)]; rfl
  unfold jV at h
  rw [h2]; exact zo (by omega)
theorem zE1 (t rho : Int) (w : World) : Rets Tryz.prog 123 #[Vi t, Vi rho] w fun u_ w' => u_ = .bool (decide (jV t rho)) ∧ Own w [] [] w' := by
  refine zR Tryz.func123 rfl Tryz.ntmps123 (Own.start w) ?_
  refine zB (zH rfl (zA (zB (zC rfl (z4 rfl rfl rfl (zC rfl (yC (q := t < 0) 2 2 [9, 8] (1099511627776 < t) rfl rfl rfl rfl rfl rfl trivial rfl (fun h1_2 => ?_) (fun g1_5 => ?_))))))))
  ·
   refine zN rfl (gF h1_2) (zC rfl (zN rfl (gF h1_2) (yP rfl rfl rfl ?_)))
   exact z7 rfl (fun _ hw => hw)
  refine zC rfl (yC (q := (t < 0) ∨ (1099511627776 < t)) 2 6 [13, 12] (rho < 0) rfl rfl rfl rfl rfl rfl trivial rfl (fun h1_6 => ?_) (fun g1_9 => ?_))
  ·
   refine zN rfl (gF h1_6) (zC rfl (zN rfl (gF h1_6) (z4 rfl rfl rfl ?_)))
   exact z7 rfl (fun _ hw => hw)
  refine zC rfl (yC (q := ((t < 0) ∨ (1099511627776 < t)) ∨ (rho < 0)) 2 10 [17, 16] (500000 < rho) rfl rfl rfl rfl rfl rfl trivial rfl (fun h1_10 => ?_) (fun g1_13 => ?_))
  ·
   refine zN rfl (gF h1_10) (zC rfl (zN rfl (gF h1_10) (yP rfl rfl rfl ?_)))
   exact z7 rfl (fun _ hw => hw)
  refine zH rfl (zA ?_)
  exact zS (zx (v := .bool (decide ((((t < 0) ∨ (1099511627776 < t)) ∨ (rho < 0)) ∨ (500000 < rho)))) rfl rfl (fun w' hw => ⟨rfl, hw.drop⟩))
theorem zAY (t rho : Int) (w : World) : Rets Tryz.prog 80 #[Vi t, Vi rho] w fun u_ w' => u_ = .tuple #[Vi ((yr t rho).1), Vi ((yr t rho).2)] ∧ Own w [] [] w' := by
  refine zR Tryz.func80 rfl Tryz.ntmps80 (Own.start w) ?_
  refine zB (zH rfl (zH rfl (zA (zQ (zB (zC rfl (zC rfl (zF rfl rfl (fun w' hw => (zE1 t rho w').mono ?_)))))))))
  rintro _ w1 ⟨rfl, hO⟩
  refine (?_ : CL _ _ _ _ _ _ (Own w [] [])) w1 (hw.frame0 hO)
  refine zA (zV rfl (fun c1 => ?_) (fun c1 => ?_))
  ·
   refine zB (zH rfl (zH rfl (zA ?_)))
   exact zS (yj (v := Vi 0) (v' := Vi 1) rfl rfl rfl (fun w' hw => ⟨(by unfold yr; rw [if_pos c1]), hw.drop⟩))
  ·
   have hb : ¬ jV t rho := c1
   unfold jV at c1
   refine zP (zB (zC rfl (zCI rfl rfl (zo (by omega)) rfl (zC rfl (zu rfl rfl (zo (by omega)) rfl (zCw (c := shr t rho) rfl rfl (by omega) (zDW hb) rfl (zH rfl (zH rfl (zA ?_)))))))))
   exact zS (yj (v := Vi (shr t rho)) (v' := Vi 0) rfl rfl rfl (fun w' hw => ⟨(by unfold yr; rw [if_neg hb]), hw.drop⟩))
theorem zDS (t rho : Int) (w : World) : Rets Tryz.prog 44 #[Vi t, Vi rho] w fun u_ w' => u_ = .tuple #[Vi ((xT t rho).1), Vi ((xT t rho).2)] ∧ Own w [] [] w' := by
  refine zR Tryz.func44 rfl Tryz.ntmps44 (Own.start w) ?_
  refine zB (zH rfl (zH rfl (zA (zB (zC rfl (zC rfl (zF rfl rfl (fun w' hw => (zAY t rho w').mono ?_))))))))
  rintro _ w1 ⟨rfl, hO⟩
  refine (?_ : CL _ _ _ _ _ _ (Own w [] [])) w1 (hw.frame0 hO)
  refine zC rfl (zh (vs := [Vi ((yr t rho).1), Vi ((yr t rho).2)]) rfl rfl rfl (zh (vs := [Vi ((yr t rho).1), Vi ((yr t rho).2)]) rfl rfl rfl (zH rfl (zH rfl (zA (zQ (zB (zC rfl (yi rfl rfl rfl (zA (zV rfl (fun c1 => ?_) (fun c1 => ?_))))))))))))
  ·
   refine zB (zC rfl (zH rfl (zH rfl (zA ?_))))
   exact zS (yj (v := Vi 0) (v' := Vi ((yr t rho).2)) rfl rfl rfl (fun w' hw => ⟨(by unfold xT; rw [if_pos c1]), hw.drop⟩))
  ·
   refine zP (zB (zC rfl (zC rfl (zF rfl rfl (fun w' hw => (zAY ((yr t rho).1) rho w').mono ?_)))))
   rintro _ w1 ⟨rfl, hO⟩
   refine (?_ : CL _ _ _ _ _ _ (Own w [] [])) w1 (hw.frame0 hO)
   refine zh (vs := [Vi ((yr ((yr t rho).1) rho).1), Vi ((yr ((yr t rho).1) rho).2)]) rfl rfl rfl (zh (vs := [Vi ((yr ((yr t rho).1) rho).1), Vi ((yr ((yr t rho).1) rho).2)]) rfl rfl rfl (zH rfl (zH rfl (zA ?_))))
   exact zS (yj (v := Vi ((yr ((yr t rho).1) rho).1)) (v' := Vi ((yr ((yr t rho).1) rho).2)) rfl rfl rfl (fun w' hw => ⟨(by unfold xT; rw [if_neg c1]), hw.drop⟩))
end Go.Proofs.YtkkeknmkipkbmaaGreat
