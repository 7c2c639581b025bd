import Derived.Test.YtcdiehplbmkmeaaGreatFwK
import Derived.Test.YtcdiehplbmkmeaaGreatQuotaW
set_option linter.unusedSectionVars false
set_option linter.unusedSimpArgs false
set_option linter.unusedVariables false
set_option maxRecDepth 10000
namespace Go.Proofs.YtcdiehplbmkmeaaGreat
open Go Go.Sc Go.Proofs
theorem zFJ {S : List Nat} (m : Nat) (kb : List (ByteArray × Int)) (w : World) (hin : Own w S [Res.mp Value.string yI m kb] w) : Rets Tryz.prog 55 #[.map (some m)] w fun u_ w' => ∃ (m' : Nat), u_ = .map (some m') ∧ Own w S [Res.mp Value.string yI m kb, Res.mp Value.string yI m' kb] w' := by
  refine zd Tryz.func55 rfl Tryz.ntmps55 hin ?_
  refine zB (zE rfl (zA (zK (zB (zC rfl (zDv (by kernel_rfl) rfl rfl rfl (zA (xr rfl (zI (zB (zC rfl (zDx (by kernel_rfl) rfl rfl ?_))))))))))))
  refine zAu 0 (ke := Value.string) (ve := yI) (kv := kb) Tryz.func73 (by kernel_rfl) (by kernel_rfl) (by kernel_rfl) (by kernel_rfl) rfl rfl rfl (fun m7 => zF8 (by kernel_rfl) rfl rfl (zE rfl (zA ?_)))
  exact zN (zu (v := .map (some m7)) rfl rfl (fun w' hw => ⟨m7, rfl, hw⟩))
theorem zFM {S : List Nat} (m : Nat) (kl : List (Nat × LeaD)) (w : World) (hin : Own w S [Res.mp yF zl m kl] w) : Rets Tryz.prog 56 #[.map (some m)] w fun u_ w' => ∃ (m' : Nat), u_ = .map (some m') ∧ Own w S [Res.mp yF zl m kl, Res.mp yF zl m' kl] w' := by
  refine zd Tryz.func56 rfl Tryz.ntmps56 hin ?_
  refine zB (zE rfl (zA (zK (zB (zC rfl (zDv (by kernel_rfl) rfl rfl rfl (zA (xr rfl (zI (zB (zC rfl (zDx (by kernel_rfl) rfl rfl ?_))))))))))))
  refine zAu 0 (ke := yF) (ve := zl) (kv := kl) Tryz.func73 (by kernel_rfl) (by kernel_rfl) (by kernel_rfl) (by kernel_rfl) rfl rfl rfl (fun m7 => zF8 (by kernel_rfl) rfl rfl (zE rfl (zA ?_)))
  exact zN (zu (v := .map (some m7)) rfl rfl (fun w' hw => ⟨m7, rfl, hw⟩))
theorem zJ8 {S : List Nat} (b bm lm : Nat) (now : Int) (cnt : Nat) (kb : List (ByteArray × Int)) (kl : List (Nat × LeaD)) (w : World) (hin : Own w S [Res.row b 126 [.map (some bm), .map (some lm), Vi now, Vn cnt], Res.mp Value.string yI bm kb, Res.mp yF zl lm kl] w) : Rets Tryz.prog 48 #[.pointer (some ⟨b, 0, none⟩)] w fun u_ w' => ∃ (b' bm' lm' : Nat), u_ = .pointer (some ⟨b', 0, none⟩) ∧ Own w S [Res.row b 126 [.map (some bm), .map (some lm), Vi now, Vn cnt], Res.mp Value.string yI bm kb, Res.mp yF zl lm kl, Res.row b' 126 [.map (some bm'), .map (some lm'), Vi now, Vn cnt], Res.mp Value.string yI bm' kb, Res.mp yF zl lm' kl] w' := by
  refine zd Tryz.func48 rfl Tryz.ntmps48 hin ?_
  refine zB (zE rfl (zA (zK (zB (zC rfl (xk (by kernel_rfl) rfl rfl rfl (zA (xr rfl (zI (zK (zc [0] rfl (by decide) (by kernel_rfl) (fun w' hw hS => zD 0 rfl (zL) hS ?_))))))))))))
  refine zD 1 rfl (zn rfl) hS (zD 2 rfl (zY (o := 0) rfl) hS (zD 3 rfl (zj 0 (v := .map (some bm)) rfl rfl rfl) hS (zD 5 rfl (zL) hS (zD 6 rfl (zn rfl) hS (zD 7 rfl (zY (o := 1) rfl) hS (zD 8 rfl (zj 0 (v := .map (some lm)) rfl rfl rfl) hS (zD 10 rfl (zL) hS (zD 11 rfl (zn rfl) hS (zD 12 rfl (zY (o := 2) rfl) hS (zD 13 rfl (zj 0 (v := Vi now) rfl rfl rfl) hS (zD 14 rfl (zL) hS (zD 15 rfl (zn rfl) hS ?_))))))))))))
  refine zD 16 rfl (zY (o := 3) rfl) hS (zD 17 rfl (zj 0 (v := Vn cnt) rfl rfl rfl) hS (zZ 4 rfl hw (zP rfl rfl (fun w' hw => (zFJ bm kb w' (hw.give [1] rfl (by decide))).mono ?_))))
  rintro _ w1 ⟨m'1_, rfl, hO⟩
  refine (?_ : CL _ _ _ _ _ _ (Own w S [Res.row b 126 [.map (some bm), .map (some lm), Vi now, Vn cnt], Res.mp yF zl lm kl, Res.mp Value.string yI bm kb, Res.mp Value.string yI m'1_ kb])) w1 (hw.frameL [1] rfl hO)
  refine zF [0] rfl (by decide) (fun w' hw hS => zZ 9 rfl hw (zP rfl rfl (fun w' hw => (zFM lm kl w' (hw.give [1] rfl (by decide))).mono ?_)))
  rintro _ w1 ⟨m'2_, rfl, hO⟩
  refine (?_ : CL _ _ _ _ _ _ (Own w S [Res.row b 126 [.map (some bm), .map (some lm), Vi now, Vn cnt], Res.mp Value.string yI bm kb, Res.mp Value.string yI m'1_ kb, Res.mp yF zl lm kl, Res.mp yF zl m'2_ kl])) w1 (hw.frameL [1] rfl hO)
  refine zF [0] rfl (by decide) (fun w' hw hS => zD 18 rfl (zDX (cs := [.map (some m'1_), .map (some m'2_), Vi now, Vn cnt]) (z := [.map none, .map none, Vi 0, Vn 0]) (pl := [(0, 1), (1, 1), (2, 1), (3, 1)]) (by kernel_rfl) (by kernel_rfl)) hS (zZ 19 rfl hw (yg rfl rfl (fun b24 => zF [0] rfl (by decide) (fun w' hw hS => zD 20 rfl (xD) hS (zO ?_))))))
  refine (?_ : C _ _ _ _ _ _ _ (Own w S [Res.row b 126 [.map (some bm), .map (some lm), Vi now, Vn cnt], Res.mp Value.string yI bm kb, Res.mp Value.string yI m'1_ kb, Res.mp yF zl lm kl, Res.mp yF zl m'2_ kl, Res.row b24 126 [.map (some m'1_), .map (some m'2_), Vi now, Vn cnt]])) _ hw
  exact zN (zu (v := .pointer (some ⟨b24, 0, none⟩)) rfl rfl (fun w' hw => ⟨b24, m'1_, m'2_, rfl, hw.sel [0, 1, 3, 5, 2, 4] rfl (by decide)⟩))
end Go.Proofs.YtcdiehplbmkmeaaGreat
