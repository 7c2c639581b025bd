import Derived.Test.YthincafbmpialaaGreatLedDoes
import Derived.Test.YthincafbmpialaaGreatLedLd
set_option linter.unusedSectionVars false
set_option linter.unusedSimpArgs false
set_option linter.unusedVariables false
set_option maxRecDepth 10000
namespace Go.Proofs.YthincafbmpialaaGreat
open Go Go.Sc Go.Proofs
theorem LSt.sok {idx : Nat} {now : Int} {cnt : Nat} {kb : List (ByteArray × Int)} {kl : List (Nat × LeaD)} {kr : List (Nat × RepD)} {idx2 : Nat} {now2 : Int} {cnt2 : Nat} {bs : List BudD} {ls : List LeaD} {rs : List RepD} (h : LSt idx now cnt kb kl kr idx2 now2 cnt2 bs ls rs) (hi : idx2 ≤ 1000000) : SOk idx now cnt bs ls rs := by
  obtain ⟨rfl, rfl, rfl, ho, hr⟩ := h
  exact ⟨ho.q, ho.s, ho.c, ho.w, by omega, by have := ho.n; omega, ho.a⟩
section
variable {idx : Nat} {now : Int} {cnt : Nat} {bs : List BudD} {ls : List LeaD} {rs : List RepD} {i0 c0 : Nat} {n0 : Int} {kb0 kb' : List (ByteArray × Int)} {kl0 kl' : List (Nat × LeaD)} {kr0 kr' : List (Nat × RepD)} {d : List UInt8} {er : Int} {idx' : Nat} {now' : Int} {cnt' : Nat}
theorem SOk.len (h : SOk idx now cnt bs ls rs) : (yc idx now cnt bs ls rs).length ≤ 21400 := zEc h _
theorem LRel.own (bs : List BudD) (ls : List LeaD) (rs : List RepD) : LRel (KB bs) (KL ls) (KR rs) bs ls rs := ⟨⟨.refl _, .refl _⟩, .refl _⟩
theorem zJE (hs : SOk idx now cnt bs ls rs) (h : zJu i0 n0 c0 kb0 kl0 kr0 (yc idx now cnt bs ls rs) er idx' now' cnt' kb' kl' kr') : er = 0 ∧ idx' = idx ∧ now' = now ∧ cnt' = cnt ∧ LRel kb' kl' kr' bs ls rs := by
  have hr := zBc hs
  rcases h with ⟨h0, x, ⟨h1, h2, h3⟩, rfl, rfl, rfl, rfl, rfl, rfl⟩ | ⟨_, h1, _⟩
  · have e := h1.one hr
    subst e
    exact ⟨h0, rfl, rfl, rfl, LRel.own _ _ _⟩
  · exact absurd ⟨hs.q.load hs.s, hs.c⟩ (h1 _ hr)
end
end Go.Proofs.YthincafbmpialaaGreat
