import Derived.Test.YtcdiehplbmkmeaaLDupR
import Derived.Test.YtcdiehplbmkmeaaFwK
set_option linter.unusedSectionVars false
set_option linter.unusedSimpArgs false
set_option linter.unusedVariables false
set_option maxRecDepth 10000
namespace Go.Proofs.Ytcdiehplbmkmeaa
open Go Go.Sc Go.Proofs
theorem zFv {S : List Nat} (m : Nat) (kl : List (Nat × RepD)) (w : World) (hin : Own w S [Res.mp yM zq m kl] w) : Rets Try.prog 66 #[.map (some m)] w fun u_ w' => ∃ (m' : Nat), u_ = .map (some m') ∧ Own w S [Res.mp yM zq m kl, Res.mp yM zq m' kl] w' := by
  refine zh Try.func66 rfl Try.ntmps66 hin ?_
  refine zB (zH rfl (zA (zM (zB (zC rfl (zD7 (by kernel_rfl) rfl rfl rfl (zA (xm rfl (zL (zB (zC rfl (zEF (by kernel_rfl) rfl rfl ?_))))))))))))
  refine zAU 0 (ke := yM) (ve := zq) (kv := kl) Try.func83 (by kernel_rfl) (by kernel_rfl) (by kernel_rfl) (by kernel_rfl) rfl rfl rfl (fun m7 => zGg (by kernel_rfl) rfl rfl (zH rfl (zA ?_)))
  exact zR (z3 (v := .map (some m7)) rfl rfl (fun w' hw => ⟨m7, rfl, hw⟩))
theorem zHS {S : List Nat} (b m : Nat) (kl : List (Nat × RepD)) (w : World) (hin : Own w S [Res.row b 89 [.map (some m)], Res.mp yM zq m kl] w) : Rets Try.prog 37 #[.pointer (some ⟨b, 0, none⟩)] w fun u_ w' => ∃ (b' m' : Nat), u_ = .pointer (some ⟨b', 0, none⟩) ∧ Own w S [Res.row b 89 [.map (some m)], Res.mp yM zq m kl, Res.row b' 89 [.map (some m')], Res.mp yM zq m' kl] w' := by
  refine zh Try.func37 rfl Try.ntmps37 hin ?_
  refine zB (zH rfl (zA (zM (zB (zC rfl (xc (by kernel_rfl) rfl rfl rfl (zA (xm rfl (zL (zB (zC rfl (yB rfl rfl ?_))))))))))))
  refine zW (o := 0) rfl rfl (zd 0 (v := .map (some m)) rfl rfl rfl rfl (zQ rfl rfl (fun w' hw => (zFv m kl w' (hw.give [1] rfl (by decide))).mono ?_)))
  rintro _ w1 ⟨m'1_, rfl, hO⟩
  refine (?_ : CL _ _ _ _ _ _ (Own w S [Res.row b 89 [.map (some m)], Res.mp yM zq m kl, Res.mp yM zq m'1_ kl])) w1 (hw.frameL [1] rfl hO)
  refine yS (cs := [.map (some m'1_)]) (z := [.map none]) (pl := [(0, 1)]) (by kernel_rfl) (by kernel_rfl) rfl (yh rfl rfl (fun b11 => zH rfl (zA ?_)))
  exact zR (z3 (v := .pointer (some ⟨b11, 0, none⟩)) rfl rfl (fun w' hw => ⟨b11, m'1_, rfl, hw.sel [0, 1, 3, 2] rfl (by decide)⟩))
def LOk (l : List RepD) : Prop := (l.map (·.session)).Pairwise (· < ·) ∧ ∀ r ∈ l, r.ok ∧ 1 ≤ r.session ∧ 1 ≤ r.seq
abbrev Bad (l : List RepD) (i : Nat) : Prop := (((yR (zG l i).ok ≠ 0) ∨ ((((zG l i).session : Nat) : Int) = ((0 : Nat) : Int))) ∨ ((((zG l i).seq : Nat) : Int) = ((0 : Nat) : Int))) ∨ ((0 < ((i : Nat) : Int)) ∧ ((((zG l i).session : Nat) : Int) ≤ (((zG l (i - 1)).session : Nat) : Int)))
end Go.Proofs.Ytcdiehplbmkmeaa
