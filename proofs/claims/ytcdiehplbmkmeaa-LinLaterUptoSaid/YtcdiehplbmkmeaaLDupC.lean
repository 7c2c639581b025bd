import Derived.Test.YtcdiehplbmkmeaaLDupR
import Derived.Test.YtcdiehplbmkmeaaFwK
set_option linter.unusedSectionVars false
set_option linter.unusedSimpArgs false
set_option linter.unusedVariables false
set_option maxRecDepth 10000
namespace Go.Proofs.Ytcdiehplbmkmeaa
open Go Go.Sc Go.Proofs
theorem zFV {S : List Nat} (m : Nat) (kl : List (Nat × RepD)) (w : World) (hin : Own w S [Res.mp yK zn m kl] w) : Rets Try.prog 66 #[.map (some m)] w fun u_ w' => ∃ (m' : Nat), u_ = .map (some m') ∧ Own w S [Res.mp yK zn m kl, Res.mp yK zn m' kl] w' := by
  refine zg Try.func66 rfl Try.ntmps66 hin ?_
  refine zB (zH rfl (zA (zO (zB (zC rfl (zDi (by kernel_rfl) rfl rfl rfl (zA (xf rfl (zM (zB (zC rfl (zDP (by kernel_rfl) rfl rfl ?_))))))))))))
  refine zAA 0 (ke := yK) (ve := zn) (kv := kl) Try.func83 (by kernel_rfl) (by kernel_rfl) (by kernel_rfl) (by kernel_rfl) rfl rfl rfl (fun m7 => zE9 (by kernel_rfl) rfl rfl (zH rfl (zA ?_)))
  exact zR (z6 (v := .map (some m7)) rfl rfl (fun w' hw => ⟨m7, rfl, hw⟩))
theorem zHV {S : List Nat} (b m : Nat) (kl : List (Nat × RepD)) (w : World) (hin : Own w S [Res.row b 89 [.map (some m)], Res.mp yK zn m kl] w) : Rets Try.prog 37 #[.pointer (some ⟨b, 0, none⟩)] w fun u_ w' => ∃ (b' m' : Nat), u_ = .pointer (some ⟨b', 0, none⟩) ∧ Own w S [Res.row b 89 [.map (some m)], Res.mp yK zn m kl, Res.row b' 89 [.map (some m')], Res.mp yK zn m' kl] w' := by
  refine zg Try.func37 rfl Try.ntmps37 hin ?_
  refine zB (zH rfl (zA (zO (zB (zC rfl (xS (by kernel_rfl) rfl rfl rfl (zA (xf rfl (zM (zB (zC rfl (yA rfl rfl ?_))))))))))))
  refine zc (o := 0) rfl rfl (ze 0 (v := .map (some m)) rfl rfl rfl rfl (zQ rfl rfl (fun w' hw => (zFV m kl w' (hw.give [1] rfl (by decide))).mono ?_)))
  rintro _ w1 ⟨m'1_, rfl, hO⟩
  refine (?_ : CL _ _ _ _ _ _ (Own w S [Res.row b 89 [.map (some m)], Res.mp yK zn m kl, Res.mp yK zn m'1_ kl])) w1 (hw.frameL [1] rfl hO)
  refine yN (cs := [.map (some m'1_)]) (z := [.map none]) (pl := [(0, 1)]) (by kernel_rfl) (by kernel_rfl) rfl (ya rfl rfl (fun b11 => zH rfl (zA ?_)))
  exact zR (z6 (v := .pointer (some ⟨b11, 0, none⟩)) rfl rfl (fun w' hw => ⟨b11, m'1_, rfl, hw.sel [0, 1, 3, 2] rfl (by decide)⟩))
def LOk (l : List RepD) : Prop := (l.map (·.session)).Pairwise (· < ·) ∧ ∀ r ∈ l, r.ok ∧ 1 ≤ r.session ∧ 1 ≤ r.seq
abbrev Bad (l : List RepD) (i : Nat) : Prop := (((yO (zG l i).ok ≠ 0) ∨ ((((zG l i).session : Nat) : Int) = ((0 : Nat) : Int))) ∨ ((((zG l i).seq : Nat) : Int) = ((0 : Nat) : Int))) ∨ ((0 < ((i : Nat) : Int)) ∧ ((((zG l i).session : Nat) : Int) ≤ (((zG l (i - 1)).session : Nat) : Int)))
end Go.Proofs.Ytcdiehplbmkmeaa
