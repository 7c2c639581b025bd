import Derived.Test.YtkkeknmkipkbmaaGreatFwX
import Derived.Test.YtkkeknmkipkbmaaGreatConfA
set_option linter.unusedSectionVars false
set_option linter.unusedSimpArgs false
set_option linter.unusedVariables false
set_option maxRecDepth 10000
namespace Go.Proofs.YtkkeknmkipkbmaaGreat
open Go Go.Sc Go.Proofs
def jJ (t rho : Int) : Prop := ((t < 0 ∨ 1099511627776 < t) ∨ rho < 0) ∨ 500000 < rho
instance (t rho : Int) : Decidable (jJ t rho) := inferInstanceAs (Decidable (((_ ∨ _) ∨ _) ∨ _))
def shr (t rho : Int) : Int := t * 1000000 / (1000000 + rho)
def xu (t rho : Int) : Int × Int := if jJ t rho then (0, 1) else (shr t rho, 0)
def xH (t rho : Int) : Int × Int := if (xu t rho).2 ≠ 0 then (0, (xu t rho).2) else xu (xu t rho).1 rho
theorem zBj {t rho : Int} (h : ¬ jJ t rho) : 0 ≤ shr t rho ∧ shr t rho ≤ t := by
  unfold jJ at h
  unfold shr
  refine ⟨Int.ediv_nonneg (by omega) (by omega), ?_⟩
  refine Int.ediv_le_of_le_mul (by omega) ?_
  rw [Int.mul_add]
  have : 0 ≤ t * rho := Int.mul_nonneg (by omega) (by omega)
  omega
theorem zDD {t rho : Int} (h : ¬ jJ t rho) : xH t rho = (shr (shr t rho) rho, 0) ∧ ¬ jJ (shr t rho) rho ∧ 0 ≤ shr (shr t rho) rho ∧ shr (shr t rho) rho ≤ t := by
  have h1 := zBj h
  have h2 : ¬ jJ (shr t rho) rho := by unfold jJ at h ⊢; omega
  have h3 := zBj h2
  refine ⟨?_, h2, h3.1, by omega⟩
  unfold xH xu
  rw [if_neg h]
  simp only [if_neg h2]; rfl
theorem zEn {t rho : Int} (h : ¬ jJ t rho) : IntKind.i64.wrap ((t * 1000000).tdiv (1000000 + rho)) = shr t rho := by
  have h1 := zBj h
  have h2 : (t * 1000000).tdiv (1000000 + rho) = shr t rho := by unfold jJ at h; rw [Int.tdiv_eq_ediv_of_nonneg (by omega)]; rfl
  unfold jJ at h
  rw [h2]; exact zy (by omega)
theorem zKZ (t rho : Int) (w : World) : Rets Tryz.prog 123 #[Vi t, Vi rho] w fun u_ w' => u_ = .bool (decide (jJ t rho)) ∧ Own w [] [] w' := by
  refine zT Tryz.func123 rfl Tryz.ntmps123 (Own.start w) ?_
  refine zB (zK rfl (zA (zB (zD rfl (yJ rfl rfl rfl (zD rfl (yT (q := t < 0) 2 2 [9, 8] (1099511627776 < t) rfl rfl rfl rfl rfl rfl trivial rfl (fun h1_2 => ?_) (fun g1_5 => ?_))))))))
  ·
   refine zO rfl (gF h1_2) (zD rfl (zO rfl (gF h1_2) (yo rfl rfl rfl ?_)))
   exact yK rfl (fun _ hw => hw)
  refine zD rfl (yT (q := (t < 0) ∨ (1099511627776 < t)) 2 6 [13, 12] (rho < 0) rfl rfl rfl rfl rfl rfl trivial rfl (fun h1_6 => ?_) (fun g1_9 => ?_))
  ·
   refine zO rfl (gF h1_6) (zD rfl (zO rfl (gF h1_6) (yJ rfl rfl rfl ?_)))
   exact yK rfl (fun _ hw => hw)
  refine zD rfl (yT (q := ((t < 0) ∨ (1099511627776 < t)) ∨ (rho < 0)) 2 10 [17, 16] (500000 < rho) rfl rfl rfl rfl rfl rfl trivial rfl (fun h1_10 => ?_) (fun g1_13 => ?_))
  ·
   refine zO rfl (gF h1_10) (zD rfl (zO rfl (gF h1_10) (yo rfl rfl rfl ?_)))
   exact yK rfl (fun _ hw => hw)
  refine zK rfl (zA ?_)
  exact zY (yD (v := .bool (decide ((((t < 0) ∨ (1099511627776 < t)) ∨ (rho < 0)) ∨ (500000 < rho)))) rfl rfl (fun w' hw => ⟨rfl, hw.drop⟩))
theorem zDH (t rho : Int) (w : World) : Rets Tryz.prog 80 #[Vi t, Vi rho] w fun u_ w' => u_ = .tuple #[Vi ((xu t rho).1), Vi ((xu t rho).2)] ∧ Own w [] [] w' := by
  refine zT Tryz.func80 rfl Tryz.ntmps80 (Own.start w) ?_
  refine zB (zK rfl (zK rfl (zA (zQ (zB (zD rfl (zD rfl (zH rfl rfl (fun w' hw => (zKZ t rho w').mono ?_)))))))))
  rintro _ w1 ⟨rfl, hO⟩
  refine (?_ : CL _ _ _ _ _ _ (Own w [] [])) w1 (hw.frame0 hO)
  refine zA (zf rfl (fun c1 => ?_) (fun c1 => ?_))
  ·
   refine zB (zK rfl (zK rfl (zA ?_)))
   exact zY (xP (v := Vi 0) (v' := Vi 1) rfl rfl rfl (fun w' hw => ⟨(by unfold xu; rw [if_pos c1]), hw.drop⟩))
  ·
   have hb : ¬ jJ t rho := c1
   unfold jJ at c1
   refine zR (zB (zD rfl (zHk rfl rfl (zy (by omega)) rfl (zD rfl (z3 rfl rfl (zy (by omega)) rfl (zGp (c := shr t rho) rfl rfl (by omega) (zEn hb) rfl (zK rfl (zK rfl (zA ?_)))))))))
   exact zY (xP (v := Vi (shr t rho)) (v' := Vi 0) rfl rfl rfl (fun w' hw => ⟨(by unfold xu; rw [if_neg hb]), hw.drop⟩))
theorem zIU (t rho : Int) (w : World) : Rets Tryz.prog 44 #[Vi t, Vi rho] w fun u_ w' => u_ = .tuple #[Vi ((xH t rho).1), Vi ((xH t rho).2)] ∧ Own w [] [] w' := by
  refine zT Tryz.func44 rfl Tryz.ntmps44 (Own.start w) ?_
  refine zB (zK rfl (zK rfl (zA (zB (zD rfl (zD rfl (zH rfl rfl (fun w' hw => (zDH t rho w').mono ?_))))))))
  rintro _ w1 ⟨rfl, hO⟩
  refine (?_ : CL _ _ _ _ _ _ (Own w [] [])) w1 (hw.frame0 hO)
  refine zD rfl (yE (vs := [Vi ((xu t rho).1), Vi ((xu t rho).2)]) rfl rfl rfl (yE (vs := [Vi ((xu t rho).1), Vi ((xu t rho).2)]) rfl rfl rfl (zK rfl (zK rfl (zA (zQ (zB (zD rfl (kR rfl rfl rfl (zA (zf rfl (fun c1 => ?_) (fun c1 => ?_))))))))))))
  ·
   refine zB (zD rfl (zK rfl (zK rfl (zA ?_))))
   exact zY (xP (v := Vi 0) (v' := Vi ((xu t rho).2)) rfl rfl rfl (fun w' hw => ⟨(by unfold xH; rw [if_pos c1]), hw.drop⟩))
  ·
   refine zR (zB (zD rfl (zD rfl (zH rfl rfl (fun w' hw => (zDH ((xu t rho).1) rho w').mono ?_)))))
   rintro _ w1 ⟨rfl, hO⟩
   refine (?_ : CL _ _ _ _ _ _ (Own w [] [])) w1 (hw.frame0 hO)
   refine yE (vs := [Vi ((xu ((xu t rho).1) rho).1), Vi ((xu ((xu t rho).1) rho).2)]) rfl rfl rfl (yE (vs := [Vi ((xu ((xu t rho).1) rho).1), Vi ((xu ((xu t rho).1) rho).2)]) rfl rfl rfl (zK rfl (zK rfl (zA ?_))))
   exact zY (xP (v := Vi ((xu ((xu t rho).1) rho).1)) (v' := Vi ((xu ((xu t rho).1) rho).2)) rfl rfl rfl (fun w' hw => ⟨(by unfold xH; rw [if_neg c1]), hw.drop⟩))
end Go.Proofs.YtkkeknmkipkbmaaGreat
