import Derived.Test.YtkkeknmkipkbmaaGreatCorE
import Derived.Test.YtkkeknmkipkbmaaGreatIn
set_option linter.unusedSectionVars false
set_option linter.unusedSimpArgs false
set_option linter.unusedVariables false
set_option maxRecDepth 10000
namespace Go.Proofs.YtkkeknmkipkbmaaGreat
open Go Go.Sc Go.Proofs
theorem x4 {S : List Nat} (cb lb term : Nat) (vote now heard due beaten checked gd stamp : Int) (lead : Value) (bs sp bt role who : Int) (commit : Nat) (vv wv dv yv jv : Value) (draw : Nat) (out : Value) (w : World) (hin : Own w S [Res.row cb 101 [Vn term, Vi vote, Vi now, Vi heard, Vi due, Vi beaten, Vi checked, Vi gd, Vi stamp, lead, Vi 1, Vi 0, Vi 0, Vi 0, Vi 0, Vi bs, Vi sp, Vi bt, Vi 0, Vi 0, Vi 0, Vi role, Vi who, Vn commit, Vn 0, Vn 0, vv, wv, dv, .pointer (some ⟨lb, 0, none⟩), yv, jv, Vn draw, out]] w) : Rets Tryz.prog 13 #[.pointer (some ⟨cb, 0, none⟩)] w fun u_ w' => u_ = .tuple #[.agg #[Vn term, Vi vote], Vi role, Vi who, Vn commit] ∧ Own w S [Res.row cb 101 [Vn term, Vi vote, Vi now, Vi heard, Vi due, Vi beaten, Vi checked, Vi gd, Vi stamp, lead, Vi 1, Vi 0, Vi 0, Vi 0, Vi 0, Vi bs, Vi sp, Vi bt, Vi 0, Vi 0, Vi 0, Vi role, Vi who, Vn commit, Vn 0, Vn 0, vv, wv, dv, .pointer (some ⟨lb, 0, none⟩), yv, jv, Vn draw, out]] w' := by
  refine zR Tryz.func13 rfl Tryz.ntmps13 hin ?_
  refine zB (z3 (v := .agg #[Vn 0, Vi 0]) (by kernel_rfl) rfl (fun b2 => zH rfl (zH rfl (zH rfl (zA (zQ (zB (zC rfl (y0 (by kernel_rfl) rfl rfl rfl (zA (xO rfl (zP ?_))))))))))))
  refine zQ (zc [0] rfl (by decide) (by kernel_rfl) (fun w' hw hS => zD 0 rfl (zX) hS (zD 1 rfl (zM rfl) hS (zD 2 rfl (zG (o := 0) rfl) hS (zD 3 rfl (zC9 0 [Vn term, Vi vote] rfl rfl (x1 0 rfl) (by kernel_rfl)) hS (zD 4 rfl (zX) hS (zD 5 rfl (zM rfl) hS (zD 6 rfl (zG (o := 21) rfl) hS (zD 7 rfl (zi 0 (v := Vi role) rfl rfl rfl) hS (zD 8 rfl (zX) hS (zD 9 rfl (zM rfl) hS (zD 10 rfl (zG (o := 22) rfl) hS ?_))))))))))))
  refine zD 11 rfl (zi 0 (v := Vi who) rfl rfl rfl) hS (zD 12 rfl (zX) hS (zD 13 rfl (zM rfl) hS (zD 14 rfl (zG (o := 23) rfl) hS (zD 15 rfl (zi 0 (v := Vn commit) rfl rfl rfl) hS (zK 16 rfl hw (zn 1 rfl rfl rfl (y5 rfl) rfl (zE [0] rfl (by decide) (fun w' hw hS => zD 17 rfl (yU) hS (zD 18 rfl (yU) hS (zD 19 rfl (yU) hS (zW ?_)))))))))))
  refine (?_ : C _ _ _ _ _ _ _ (Own w S [Res.row cb 101 [Vn term, Vi vote, Vi now, Vi heard, Vi due, Vi beaten, Vi checked, Vi gd, Vi stamp, lead, Vi 1, Vi 0, Vi 0, Vi 0, Vi 0, Vi bs, Vi sp, Vi bt, Vi 0, Vi 0, Vi 0, Vi role, Vi who, Vn commit, Vn 0, Vn 0, vv, wv, dv, .pointer (some ⟨lb, 0, none⟩), yv, jv, Vn draw, out], Res.row b2 32 [Vn term, Vi vote]])) _ hw
  exact zS (zFQ (cs := [Vn term, Vi vote]) (v := Vi role) (v2 := Vi who) (v3 := Vn commit) rfl rfl rfl rfl rfl (by kernel_rfl) (Own.rowCells (i := 1) rfl) (fun w' hw => ⟨rfl, hw.sel [0] rfl (by decide)⟩))
theorem zEu (x : ShtD) (w : World) (hv : x.conf.vs.length ≤ 10000000) (hl : x.conf.ls.length ≤ 10000000) (hd : x.data.length ≤ 1000000000) (rd_x : ShtD.rd x w []) : Rets Tryz.prog 30 #[.agg (ShtD.cells x).toArray] w fun u_ w' => ∃ (cv cw r : Value), u_ = .agg #[Vn x.index, Vn x.term, cv, cw, r] ∧ Own w [] [Res.vec 3 1 cv x.conf.vs.length (x.conf.vs.flatMap I1), Res.vec 3 1 cw x.conf.ls.length (x.conf.ls.flatMap I1), Res.vec 5 1 r x.data.length (x.data.map vb)] w' := by
  refine zR Tryz.func30 rfl Tryz.ntmps30 (Own.start w) ?_
  refine zB (zr rfl rfl (fun b1 => z3 (v := .agg #[Vn 0, Vn 0, .slice none 0 0, .slice none 0 0, .slice none 0 0]) (by kernel_rfl) rfl (fun b2 => zA (zB (zL (o := 2) rfl rfl (js 0 (ConfD.cells x.conf) rfl rfl (x1 2 rfl) (by kernel_rfl) rfl (zF rfl rfl (fun w' hw => (zAQ x.conf w' (by first | omega | (simp <;> omega)) (by first | omega | (simp <;> omega)) (rd_x.conf.at0 hw)).mono ?_))))))))
  rintro _ w1 ⟨cv1_, cw2_, rfl, hO⟩
  refine (?_ : CL _ _ _ _ _ _ (Own w [] [Res.row b1 38 (ShtD.cells x), Res.row b2 38 [Vn 0, Vn 0, .slice none 0 0, .slice none 0 0, .slice none 0 0], Res.vec 3 1 cv1_ x.conf.vs.length (x.conf.vs.flatMap I1), Res.vec 3 1 cw2_ x.conf.ls.length (x.conf.ls.flatMap I1)])) w1 (hw.frame0 hO)
  refine zL (o := 2) rfl rfl ?_
  refine zd (fun w' hw => Own.cell1Vec (i := 2) rfl hw) (fun hc1_ => ?_)
  refine zd (fun w' hw => Own.cell1Vec (i := 3) rfl hw) (fun hc2_ => ?_)
  refine zn 0 rfl rfl rfl (zJ hc1_ (zJ hc2_ zj)) rfl (zA (zB (zL (o := 4) rfl rfl (zI 0 (v := x.dv) rfl rfl rfl rfl (zF rfl rfl (fun w' hw => (kB x.dv x.data w' (by first | assumption | omega | (simp <;> omega) | (constructor <;> (first | omega | (simp only [zT]; omega) | (simp <;> omega)))) (hw.rd0 rd_x.dv)).mono ?_))))))
  rintro r3_ w1 ⟨_, rfl, hO⟩
  refine (?_ : CL _ _ _ _ _ _ (Own w [] [Res.row b1 38 [Vn x.index, Vn x.term, cv1_, cw2_, x.dv], Res.row b2 38 [Vn 0, Vn 0, .slice none 0 0, .slice none 0 0, .slice none 0 0], Res.vec 3 1 cv1_ x.conf.vs.length (x.conf.vs.flatMap I1), Res.vec 3 1 cw2_ x.conf.ls.length (x.conf.ls.flatMap I1), Res.vec 5 1 r3_ x.data.length (x.data.map vb)])) w1 (hw.frame0 hO)
  refine zL (o := 4) rfl rfl ?_
  refine zd (fun w' hw => Own.cell1Vec (i := 4) rfl hw) (fun hc3_ => ?_)
  refine zf (cs := [Vn x.index, Vn x.term, cv1_, cw2_, x.dv]) 0 rfl rfl rfl hc3_ rfl (zA (zB (yO (cs := [Vn x.index, Vn x.term, cv1_, cw2_, r3_]) 0 rfl rfl rfl (zn 1 rfl rfl rfl (zJ rfl (zJ rfl (zJ hc1_ (zJ hc2_ (zJ hc3_ zj))))) rfl (zA ?_)))))
  exact zS (xp (cs := [Vn x.index, Vn x.term, cv1_, cw2_, r3_]) rfl rfl (by kernel_rfl) (Own.rowCells (i := 1) rfl) (fun w' hw => ⟨cv1_, cw2_, r3_, rfl, hw.sel [2, 3, 4] rfl (by decide)⟩))
theorem zBo (w : World) : Rets Tryz.prog 31 #[] w fun u_ w' => ∃ (b : Nat), u_ = .pointer (some ⟨b, 0, none⟩) ∧ Own w [] [Res.row b 150 [Vn 0, Vn 0, .slice none 0 0]] w' := by
  refine zR Tryz.func31 rfl Tryz.ntmps31 (Own.start w) ?_
  refine zB (zH rfl (zA (zB (yN (cs := [Vn 0, Vn 0, .slice none 0 0]) (z := [Vn 0, Vn 0, .slice none 0 0]) (pl := [(0, 2), (2, 1)]) (by kernel_rfl) (by kernel_rfl) rfl (zr rfl rfl (fun b2 => zH rfl (zA ?_)))))))
  exact zS (zx (v := .pointer (some ⟨b2, 0, none⟩)) rfl rfl (fun w' hw => ⟨b2, rfl, hw⟩))
end Go.Proofs.YtkkeknmkipkbmaaGreat
