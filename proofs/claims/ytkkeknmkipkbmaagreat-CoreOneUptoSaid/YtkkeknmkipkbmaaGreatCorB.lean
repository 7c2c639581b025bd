import Derived.Test.YtkkeknmkipkbmaaGreatFwR
import Derived.Test.YtkkeknmkipkbmaaGreatConfB
import Derived.Test.YtkkeknmkipkbmaaGreatFwX
import Derived.Test.YtkkeknmkipkbmaaGreatFwJ
set_option linter.unusedSectionVars false
set_option linter.unusedSimpArgs false
set_option linter.unusedVariables false
set_option maxRecDepth 10000
namespace Go.Proofs.YtkkeknmkipkbmaaGreat
open Go Go.Sc Go.Proofs
theorem zBi (sb : Nat) (v : Value) (l : List EntD) (hl : zT l.length) : zDq Tryz.prog 158 [.pointer (some ⟨sb, 0, none⟩)] (fun x : Int × EntD => Value.int .i64 x.1) (fun x : Int × EntD => Value.agg (EntD.cells x.2).toArray) (fun x : Int × EntD => x.2 ∈ l) (fun _ => True) l.length [Res.row sb 57 [v], Res.vec 81 5 v l.length (l.flatMap EntD.cells), Res.star (l.map EntD.dres)] := by
  intro ly J L0 w Y hJ hin
  refine yc (args := [.func (.yield ly) #[] #[], .pointer (some ⟨sb, 0, none⟩)]) Tryz.func158 rfl Tryz.ntmps158 rfl (show Own w (y1 ([Res.row sb 57 [v], Res.vec 81 5 v l.length (l.flatMap EntD.cells), Res.star (l.map EntD.dres)] ++ L0)) (Res.row sb 57 [v] :: Res.vec 81 5 v l.length (l.flatMap EntD.cells) :: Res.star (l.map EntD.dres) :: L0) w from hin) ?_
  refine zB (zI 0 (v := v) rfl rfl rfl rfl (zk (pV 1 rfl) rfl rfl (xW rfl rfl (zo (by omega)) rfl (zH rfl (zA (zY ?_))))))
  refine xd (fun (k : Nat) (pre : List (Int × EntD)) (Lr : List Res) => [(0, .func (.yield ly) #[] #[]), (1, .pointer (some ⟨sb, 0, none⟩)), (3, Vi (((k : Nat) : Int) - 1))]) (fun (k : Nat) (pre : List (Int × EntD)) (Lr : List Res) => (k ≤ l.length ∧ pre.length + k = l.length) ∧ J pre Lr) (fun (k : Nat) (pre : List (Int × EntD)) (Lr : List Res) => (Res.row sb 57 [v] :: Res.vec 81 5 v l.length (l.flatMap EntD.cells) :: Res.star (l.map EntD.dres) :: Lr)) (fun (k : Nat) (pre : List (Int × EntD)) (Lr : List Res) => k) (fun w' hw => ⟨l.length, [], L0, ⟨rfl, rfl, rfl, trivial⟩, ⟨⟨Nat.le_refl _, by simp⟩, hJ⟩, hw⟩) (fun k pre Lr g hΦ => ?_)
  have hk := hΦ.1
  have hJk := hΦ.2
  refine zQ (zB (zC rfl (xl rfl rfl rfl (zA (zV rfl (fun c1 => ?_) (fun c1 => ?_))))))
  ·
   refine zP (zQ (zY (jr ?_)))
   refine yq rfl (zX) ?_
   refine yq rfl (zX) ?_
   refine yq rfl (zi 0 (v := v) rfl rfl rfl) ?_
   refine yq rfl (zX) ?_
   refine yq rfl (zCo (pV 1 rfl) 5 (k - 1) rfl rfl (by omega) (by omega)) ?_
   refine yq rfl (zES (pV 1 rfl) 5 (k - 1) (off := y4 v + (k - 1) * 5) (fun _ => rfl) rfl rfl (by omega)) ?_
   refine zCD [Res.row sb 57 [v], Res.vec 81 5 v l.length (l.flatMap EntD.cells), Res.star (l.map EntD.dres)] (((k : Nat) : Int) - 1, zU l (k - 1)) Y rfl rfl rfl hJk (zt (by omega)) (by omega) rfl (fun Ly1_ hJLy1_ => ?_)
   refine yq rfl (zCF (b := true) rfl) ?_
   refine zCn ?_
   refine xO rfl (zP (zZ (zC rfl (xW rfl rfl (zo (by omega)) rfl (zH rfl ?_)))))
   exact zl (fun w' hw => ⟨k - 1, pre ++ [(((k : Nat) : Int) - 1, zU l (k - 1))], Ly1_, ⟨rfl, rfl, (by show Value.int .i64 _ = Value.int .i64 _; congr 1; omega), trivial⟩, ⟨⟨by omega, by simp; omega⟩, hJLy1_⟩, hw, (by omega)⟩)
  ·
   exact xQ rfl (yb rfl (fun w' hw => ⟨pre, Lr, trivial, hJk, hw⟩))
theorem zAQ (c : ConfD) (w : World) (hv : c.vs.length ≤ 10000000) (hl : c.ls.length ≤ 10000000) (rd_c : ConfD.rd c w []) : Rets Tryz.prog 68 #[.agg (ConfD.cells c).toArray] w fun u_ w' => ∃ (cv cw : Value), u_ = .agg #[cv, cw] ∧ Own w [] [Res.vec 3 1 cv c.vs.length (c.vs.flatMap I1), Res.vec 3 1 cw c.ls.length (c.ls.flatMap I1)] w' := by
  refine zR Tryz.func68 rfl Tryz.ntmps68 (Own.start w) ?_
  refine zB (zr rfl rfl (fun b1 => z3 (v := .agg #[.slice none 0 0, .slice none 0 0]) (by kernel_rfl) rfl (fun b2 => zA (zQ (zc [0] rfl (by decide) (by kernel_rfl) (fun w' hw hS => zD 0 rfl (zG (o := 0) rfl) hS (zD 1 rfl (zi 0 (v := c.vv) rfl rfl rfl) hS (zD 3 rfl (zG (o := 1) rfl) hS (zD 4 rfl (zi 0 (v := c.lv) rfl rfl rfl) hS (zK 2 rfl hw (zF rfl rfl (fun w' hw => (zBL c.vv c.vs w' (by first | assumption | omega | (simp <;> omega) | (constructor <;> (first | omega | (simp only [zT]; omega) | (simp <;> omega)))) (hw.rd0 rd_c.vv)).mono ?_))))))))))))
  rintro r1_ w1 ⟨_, rfl, hO⟩
  refine (?_ : CL _ _ _ _ _ _ (Own w [] [Res.row b1 35 (ConfD.cells c), Res.row b2 35 [.slice none 0 0, .slice none 0 0], Res.vec 3 1 r1_ c.vs.length (c.vs.flatMap I1)])) w1 (hw.frame0 hO)
  refine zE [0] rfl (by decide) (fun w' hw hS => zK 5 rfl hw (zF rfl rfl (fun w' hw => (zBL c.lv c.ls w' (by first | assumption | omega | (simp <;> omega) | (constructor <;> (first | omega | (simp only [zT]; omega) | (simp <;> omega)))) (hw.rd0 rd_c.lv)).mono ?_)))
  rintro r2_ w1 ⟨_, rfl, hO⟩
  refine (?_ : CL _ _ _ _ _ _ (Own w [] [Res.row b1 35 (ConfD.cells c), Res.row b2 35 [.slice none 0 0, .slice none 0 0], Res.vec 3 1 r1_ c.vs.length (c.vs.flatMap I1), Res.vec 3 1 r2_ c.ls.length (c.ls.flatMap I1)])) w1 (hw.frame0 hO)
  refine zE [0] rfl (by decide) (fun w' hw hS => zK 6 rfl hw ?_)
  refine zd (fun w' hw => Own.cell1Vec (i := 2) rfl hw) (fun hc3_ => ?_)
  refine zd (fun w' hw => Own.cell1Vec (i := 3) rfl hw) (fun hc4_ => ?_)
  refine jo (cs := [r1_, r2_]) (z := [.slice none 0 0, .slice none 0 0]) (pl := [(0, 1), (1, 1)]) (by kernel_rfl) ⟨hc3_, hc4_, trivial⟩ (by kernel_rfl) rfl (zE [0] rfl (by decide) (fun w' hw hS => zK 7 rfl hw (zn 1 rfl rfl rfl (zJ hc3_ (zJ hc4_ zj)) rfl (zE [0] rfl (by decide) (fun w' hw hS => zW ?_)))))
  refine (?_ : C _ _ _ _ _ _ _ (Own w [] [Res.row b1 35 (ConfD.cells c), Res.row b2 35 [r1_, r2_], Res.vec 3 1 r1_ c.vs.length (c.vs.flatMap I1), Res.vec 3 1 r2_ c.ls.length (c.ls.flatMap I1)])) _ hw
  exact zS (xp (cs := [r1_, r2_]) rfl rfl (by kernel_rfl) (Own.rowCells (i := 1) rfl) (fun w' hw => ⟨r1_, r2_, rfl, hw.sel [2, 3] rfl (by decide)⟩))
end Go.Proofs.YtkkeknmkipkbmaaGreat
