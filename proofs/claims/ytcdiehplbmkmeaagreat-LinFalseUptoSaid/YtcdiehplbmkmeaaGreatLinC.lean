import Derived.Test.YtcdiehplbmkmeaaGreatFwK
import Derived.Test.YtcdiehplbmkmeaaGreatQuotaW
set_option linter.unusedSectionVars false
set_option linter.unusedSimpArgs false
set_option linter.unusedVariables false
set_option maxRecDepth 10000
namespace Go.Proofs.YtcdiehplbmkmeaaGreat
open Go Go.Sc Go.Proofs
theorem zFl {S : List Nat} (m : Nat) (kb : List (ByteArray × Int)) (w : World) (hin : Own w S [Res.mp Value.string yE m kb] w) : Rets Tryz.prog 55 #[.map (some m)] w fun u_ w' => ∃ (m' : Nat), u_ = .map (some m') ∧ Own w S [Res.mp Value.string yE m kb, Res.mp Value.string yE m' kb] w' := by
  refine ze Tryz.func55 rfl Tryz.ntmps55 hin ?_
  refine zB (zH rfl (zA (zL (zB (zC rfl (zEM (by kernel_rfl) rfl rfl rfl (zA (xt rfl (zJ (zB (zC rfl (zEm (by kernel_rfl) rfl rfl ?_))))))))))))
  refine zAz 0 (ke := Value.string) (ve := yE) (kv := kb) Tryz.func73 (by kernel_rfl) (by kernel_rfl) (by kernel_rfl) (by kernel_rfl) rfl rfl rfl (fun m7 => zGa (by kernel_rfl) rfl rfl (zH rfl (zA ?_)))
  exact zN (z4 (v := .map (some m7)) rfl rfl (fun w' hw => ⟨m7, rfl, hw⟩))
theorem zF1 {S : List Nat} (m : Nat) (kl : List (Nat × LeaD)) (w : World) (hin : Own w S [Res.mp yC zk m kl] w) : Rets Tryz.prog 56 #[.map (some m)] w fun u_ w' => ∃ (m' : Nat), u_ = .map (some m') ∧ Own w S [Res.mp yC zk m kl, Res.mp yC zk m' kl] w' := by
  refine ze Tryz.func56 rfl Tryz.ntmps56 hin ?_
  refine zB (zH rfl (zA (zL (zB (zC rfl (zEM (by kernel_rfl) rfl rfl rfl (zA (xt rfl (zJ (zB (zC rfl (zEm (by kernel_rfl) rfl rfl ?_))))))))))))
  refine zAz 0 (ke := yC) (ve := zk) (kv := kl) Tryz.func73 (by kernel_rfl) (by kernel_rfl) (by kernel_rfl) (by kernel_rfl) rfl rfl rfl (fun m7 => zGa (by kernel_rfl) rfl rfl (zH rfl (zA ?_)))
  exact zN (z4 (v := .map (some m7)) rfl rfl (fun w' hw => ⟨m7, rfl, hw⟩))
theorem zJj {S : List Nat} (b bm lm : Nat) (now : Int) (cnt : Nat) (kb : List (ByteArray × Int)) (kl : List (Nat × LeaD)) (w : World) (hin : Own w S [Res.row b 126 [.map (some bm), .map (some lm), Vi now, Vn cnt], Res.mp Value.string yE bm kb, Res.mp yC zk lm kl] w) : Rets Tryz.prog 48 #[.pointer (some ⟨b, 0, none⟩)] w fun u_ w' => ∃ (b' bm' lm' : Nat), u_ = .pointer (some ⟨b', 0, none⟩) ∧ Own w S [Res.row b 126 [.map (some bm), .map (some lm), Vi now, Vn cnt], Res.mp Value.string yE bm kb, Res.mp yC zk lm kl, Res.row b' 126 [.map (some bm'), .map (some lm'), Vi now, Vn cnt], Res.mp Value.string yE bm' kb, Res.mp yC zk lm' kl] w' := by
  refine ze Tryz.func48 rfl Tryz.ntmps48 hin ?_
  refine zB (zH rfl (zA (zL (zB (zC rfl (xk (by kernel_rfl) rfl rfl rfl (zA (xt rfl (zJ (zL (zZ [0] rfl (by decide) (by kernel_rfl) (fun w' hw hS => zD 0 rfl (zK) hS ?_))))))))))))
  refine zD 1 rfl (zq rfl) hS (zD 2 rfl (zc (o := 0) rfl) hS (zD 3 rfl (zl 0 (v := .map (some bm)) rfl rfl rfl) hS (zD 5 rfl (zK) hS (zD 6 rfl (zq rfl) hS (zD 7 rfl (zc (o := 1) rfl) hS (zD 8 rfl (zl 0 (v := .map (some lm)) rfl rfl rfl) hS (zD 10 rfl (zK) hS (zD 11 rfl (zq rfl) hS (zD 12 rfl (zc (o := 2) rfl) hS (zD 13 rfl (zl 0 (v := Vi now) rfl rfl rfl) hS (zD 14 rfl (zK) hS (zD 15 rfl (zq rfl) hS ?_))))))))))))
  refine zD 16 rfl (zc (o := 3) rfl) hS (zD 17 rfl (zl 0 (v := Vn cnt) rfl rfl rfl) hS (zX 4 rfl hw (zQ rfl rfl (fun w' hw => (zFl bm kb w' (hw.give [1] rfl (by decide))).mono ?_))))
  rintro _ w1 ⟨m'1_, rfl, hO⟩
  refine (?_ : CL _ _ _ _ _ _ (Own w S [Res.row b 126 [.map (some bm), .map (some lm), Vi now, Vn cnt], Res.mp yC zk lm kl, Res.mp Value.string yE bm kb, Res.mp Value.string yE m'1_ kb])) w1 (hw.frameL [1] rfl hO)
  refine zE [0] rfl (by decide) (fun w' hw hS => zX 9 rfl hw (zQ rfl rfl (fun w' hw => (zF1 lm kl w' (hw.give [1] rfl (by decide))).mono ?_)))
  rintro _ w1 ⟨m'2_, rfl, hO⟩
  refine (?_ : CL _ _ _ _ _ _ (Own w S [Res.row b 126 [.map (some bm), .map (some lm), Vi now, Vn cnt], Res.mp Value.string yE bm kb, Res.mp Value.string yE m'1_ kb, Res.mp yC zk lm kl, Res.mp yC zk m'2_ kl])) w1 (hw.frameL [1] rfl hO)
  refine zE [0] rfl (by decide) (fun w' hw hS => zD 18 rfl (kw (cs := [.map (some m'1_), .map (some m'2_), Vi now, Vn cnt]) (z := [.map none, .map none, Vi 0, Vn 0]) (pl := [(0, 1), (1, 1), (2, 1), (3, 1)]) (by kernel_rfl) (by kernel_rfl)) hS (zX 19 rfl hw (yj rfl rfl (fun b24 => zE [0] rfl (by decide) (fun w' hw hS => zD 20 rfl (y8) hS (zM ?_))))))
  refine (?_ : C _ _ _ _ _ _ _ (Own w S [Res.row b 126 [.map (some bm), .map (some lm), Vi now, Vn cnt], Res.mp Value.string yE bm kb, Res.mp Value.string yE m'1_ kb, Res.mp yC zk lm kl, Res.mp yC zk m'2_ kl, Res.row b24 126 [.map (some m'1_), .map (some m'2_), Vi now, Vn cnt]])) _ hw
  exact zN (z4 (v := .pointer (some ⟨b24, 0, none⟩)) rfl rfl (fun w' hw => ⟨b24, m'1_, m'2_, rfl, hw.sel [0, 1, 3, 5, 2, 4] rfl (by decide)⟩))
end Go.Proofs.YtcdiehplbmkmeaaGreat
