import Derived.Test.YtcdiehplbmkmeaaFwK
import Derived.Test.YtcdiehplbmkmeaaQuotaW
set_option linter.unusedSectionVars false
set_option linter.unusedSimpArgs false
set_option linter.unusedVariables false
set_option maxRecDepth 10000
namespace Go.Proofs.Ytcdiehplbmkmeaa
open Go Go.Sc Go.Proofs
theorem zFU {S : List Nat} (m : Nat) (kb : List (ByteArray × Int)) (w : World) (hin : Own w S [Res.mp Value.string z6 m kb] w) : Rets Try.prog 64 #[.map (some m)] w fun u_ w' => ∃ (m' : Nat), u_ = .map (some m') ∧ Own w S [Res.mp Value.string z6 m kb, Res.mp Value.string z6 m' kb] w' := by
  refine zh Try.func64 rfl Try.ntmps64 hin ?_
  refine zB (zH rfl (zA (zM (zB (zC rfl (zD7 (by kernel_rfl) rfl rfl rfl (zA (xm rfl (zL (zB (zC rfl (zEF (by kernel_rfl) rfl rfl ?_))))))))))))
  refine zAU 0 (ke := Value.string) (ve := z6) (kv := kb) Try.func83 (by kernel_rfl) (by kernel_rfl) (by kernel_rfl) (by kernel_rfl) rfl rfl rfl (fun m7 => zGg (by kernel_rfl) rfl rfl (zH rfl (zA ?_)))
  exact zR (z3 (v := .map (some m7)) rfl rfl (fun w' hw => ⟨m7, rfl, hw⟩))
theorem zEz {S : List Nat} (m : Nat) (kl : List (Nat × LeaD)) (w : World) (hin : Own w S [Res.mp zz za m kl] w) : Rets Try.prog 65 #[.map (some m)] w fun u_ w' => ∃ (m' : Nat), u_ = .map (some m') ∧ Own w S [Res.mp zz za m kl, Res.mp zz za m' kl] w' := by
  refine zh Try.func65 rfl Try.ntmps65 hin ?_
  refine zB (zH rfl (zA (zM (zB (zC rfl (zD7 (by kernel_rfl) rfl rfl rfl (zA (xm rfl (zL (zB (zC rfl (zEF (by kernel_rfl) rfl rfl ?_))))))))))))
  refine zAU 0 (ke := zz) (ve := za) (kv := kl) Try.func83 (by kernel_rfl) (by kernel_rfl) (by kernel_rfl) (by kernel_rfl) rfl rfl rfl (fun m7 => zGg (by kernel_rfl) rfl rfl (zH rfl (zA ?_)))
  exact zR (z3 (v := .map (some m7)) rfl rfl (fun w' hw => ⟨m7, rfl, hw⟩))
theorem zJT {S : List Nat} (b bm lm : Nat) (now : Int) (cnt : Nat) (kb : List (ByteArray × Int)) (kl : List (Nat × LeaD)) (w : World) (hin : Own w S [Res.row b 71 [.map (some bm), .map (some lm), Vi now, Vn cnt], Res.mp Value.string z6 bm kb, Res.mp zz za lm kl] w) : Rets Try.prog 36 #[.pointer (some ⟨b, 0, none⟩)] w fun u_ w' => ∃ (b' bm' lm' : Nat), u_ = .pointer (some ⟨b', 0, none⟩) ∧ Own w S [Res.row b 71 [.map (some bm), .map (some lm), Vi now, Vn cnt], Res.mp Value.string z6 bm kb, Res.mp zz za lm kl, Res.row b' 71 [.map (some bm'), .map (some lm'), Vi now, Vn cnt], Res.mp Value.string z6 bm' kb, Res.mp zz za lm' kl] w' := by
  refine zh Try.func36 rfl Try.ntmps36 hin ?_
  refine zB (zH rfl (zA (zM (zB (zC rfl (xc (by kernel_rfl) rfl rfl rfl (zA (xm rfl (zL (zM (zX [0] rfl (by decide) (by kernel_rfl) (fun w' hw hS => zE 0 rfl (zJ) hS ?_))))))))))))
  refine zE 1 rfl (zr rfl) hS (zE 2 rfl (zk (o := 0) rfl) hS (zE 3 rfl (zp 0 (v := .map (some bm)) rfl rfl rfl) hS (zE 5 rfl (zJ) hS (zE 6 rfl (zr rfl) hS (zE 7 rfl (zk (o := 1) rfl) hS (zE 8 rfl (zp 0 (v := .map (some lm)) rfl rfl rfl) hS (zE 10 rfl (zJ) hS (zE 11 rfl (zr rfl) hS (zE 12 rfl (zk (o := 2) rfl) hS (zE 13 rfl (zp 0 (v := Vi now) rfl rfl rfl) hS (zE 14 rfl (zJ) hS (zE 15 rfl (zr rfl) hS ?_))))))))))))
  refine zE 16 rfl (zk (o := 3) rfl) hS (zE 17 rfl (zp 0 (v := Vn cnt) rfl rfl rfl) hS (zZ 4 rfl hw (zQ rfl rfl (fun w' hw => (zFU bm kb w' (hw.give [1] rfl (by decide))).mono ?_))))
  rintro _ w1 ⟨m'1_, rfl, hO⟩
  refine (?_ : CL _ _ _ _ _ _ (Own w S [Res.row b 71 [.map (some bm), .map (some lm), Vi now, Vn cnt], Res.mp zz za lm kl, Res.mp Value.string z6 bm kb, Res.mp Value.string z6 m'1_ kb])) w1 (hw.frameL [1] rfl hO)
  refine zF [0] rfl (by decide) (fun w' hw hS => zZ 9 rfl hw (zQ rfl rfl (fun w' hw => (zEz lm kl w' (hw.give [1] rfl (by decide))).mono ?_)))
  rintro _ w1 ⟨m'2_, rfl, hO⟩
  refine (?_ : CL _ _ _ _ _ _ (Own w S [Res.row b 71 [.map (some bm), .map (some lm), Vi now, Vn cnt], Res.mp Value.string z6 bm kb, Res.mp Value.string z6 m'1_ kb, Res.mp zz za lm kl, Res.mp zz za m'2_ kl])) w1 (hw.frameL [1] rfl hO)
  refine zF [0] rfl (by decide) (fun w' hw hS => zE 18 rfl (zEq (cs := [.map (some m'1_), .map (some m'2_), Vi now, Vn cnt]) (z := [.map none, .map none, Vi 0, Vn 0]) (pl := [(0, 1), (1, 1), (2, 1), (3, 1)]) (by kernel_rfl) (by kernel_rfl)) hS (zZ 19 rfl hw (yh rfl rfl (fun b24 => zF [0] rfl (by decide) (fun w' hw hS => zE 20 rfl (xW) hS (zK ?_))))))
  refine (?_ : C _ _ _ _ _ _ _ (Own w S [Res.row b 71 [.map (some bm), .map (some lm), Vi now, Vn cnt], Res.mp Value.string z6 bm kb, Res.mp Value.string z6 m'1_ kb, Res.mp zz za lm kl, Res.mp zz za m'2_ kl, Res.row b24 71 [.map (some m'1_), .map (some m'2_), Vi now, Vn cnt]])) _ hw
  exact zR (z3 (v := .pointer (some ⟨b24, 0, none⟩)) rfl rfl (fun w' hw => ⟨b24, m'1_, m'2_, rfl, hw.sel [0, 1, 3, 5, 2, 4] rfl (by decide)⟩))
end Go.Proofs.Ytcdiehplbmkmeaa
