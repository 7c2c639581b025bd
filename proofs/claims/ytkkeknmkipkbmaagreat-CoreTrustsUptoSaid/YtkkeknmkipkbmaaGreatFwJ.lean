import Derived.Test.YtkkeknmkipkbmaaGreatCoA
import Derived.Test.YtkkeknmkipkbmaaGreatFwG
set_option linter.unusedSectionVars false
set_option linter.unusedSimpArgs false
set_option linter.unusedVariables false
set_option maxRecDepth 10000
namespace Go.Proofs.YtkkeknmkipkbmaaGreat
open Go Go.Sc Go.Proofs
def yl (a : StA) (draw : Nat) : Int := a.base + ((draw % (Int.toNat a.spread + 1) : Nat) : Int)
structure StA.ok (a : StA) : Prop where
  id : 1 ≤ a.id ∧ a.id ≤ 16
  rho : 0 ≤ a.rho ∧ a.rho ≤ 500000
  base : 1 ≤ a.base ∧ a.base ≤ 1000000
  spread : 1 ≤ a.spread ∧ a.spread ≤ 1000000
  beat : 1 ≤ a.beat ∧ a.beat ≤ 1000000
theorem kL {a : StA} {draw : Nat} (h : a.ok) : 1 ≤ yl a draw ∧ yl a draw ≤ 2000000 := by
  have h1 := h.base; have h2 := h.spread
  have hm : draw % (Int.toNat a.spread + 1) < Int.toNat a.spread + 1 := Nat.mod_lt _ (by omega)
  unfold yl; omega
theorem x9 {S : List Nat} (cb jb : Nat) (t : TimD) (a : StA) (r : RolD) (b : StB) (lead yv out : Value) (draw : Nat) (w : World) (ha : a.ok) (hd : draw < 18446744073709551616) (hin : Own w S [ze cb t lead a r b yv jb draw out] w) : Rets Tryz.prog 32 #[pt cb] w fun u_ w' => u_ = Vi (yl a draw) ∧ Own w S [ze cb t lead a r b yv jb draw out] w' := by
  have hsp := ha.spread
  have hbs := ha.base
  have hu : u64 (a.spread + 1) = Int.toNat a.spread + 1 := by unfold u64; omega
  have hm : draw % u64 (a.spread + 1) < u64 (a.spread + 1) := Nat.mod_lt draw (by omega)
  have hm2 : draw % u64 (a.spread + 1) ≤ 1073741824 := by omega
  refine zT Tryz.func32 rfl Tryz.ntmps32 hin ?_
  refine zB (zK rfl (zA (yV (by kernel_rfl) (by kernel_rfl) (zL rfl (zU) (zL rfl (zP rfl) (zL rfl (zI (o := 11) rfl) (zL rfl (zI (o := 4) rfl) (zL rfl (zb 0 (v := Vi a.base) rfl rfl rfl) (zL rfl (zU) (zL rfl (zP rfl) (zL rfl (zI (o := 32) rfl) (zL rfl (zb 0 (v := Vn draw) rfl rfl rfl) ?_))))))))))))
  refine zL rfl (zU) (zL rfl (zP rfl) (zL rfl (zI (o := 11) rfl) (zL rfl (zI (o := 5) rfl) (zL rfl (zb 0 (v := Vi a.spread) rfl rfl rfl) (zL rfl (yw rfl rfl (zy (by omega))) (zL rfl (kj (by kernel_rfl) rfl (kM _) (by kernel_rfl)) (zL rfl (zGV (c := ((draw % (u64 (a.spread + 1)) : Nat) : Int)) rfl rfl (by omega) rfl) (zL rfl (kj (by kernel_rfl) rfl (zy (by omega)) (by kernel_rfl)) (zL rfl (yw rfl rfl (zy (by omega))) (zL rfl (ya) (xN ?_)))))))))))
  exact zY (yD (v := Vi (a.base + ((draw % (u64 (a.spread + 1)) : Nat) : Int))) rfl rfl (fun w' hw => ⟨(by rw [hu]; rfl), hw⟩))
theorem zCX {S : List Nat} (cb jb : Nat) (t : TimD) (a : StA) (r : RolD) (b : StB) (lead yv out : Value) (draw : Nat) (now : Int) (draw2 : Nat) (w : World) (hin : Own w S [ze cb t lead a r b yv jb draw out] w) : Rets Tryz.prog 33 #[pt cb, Vi now, Vn draw2] w fun u_ w' => ∃ (ob : Nat), u_ = .tuple #[] ∧ Own w S [ze cb ({ t with now := max t.now now } : TimD) lead a r b yv jb draw2 (pt ob), Res.ou ob outZ] w' := by
  refine zT Tryz.func33 rfl Tryz.ntmps33 hin ?_
  refine zB (zD rfl (zD rfl (zh rfl rfl (zJ (o := 2) rfl rfl (zJ (o := 0) rfl rfl (zM 0 (v := Vi t.now) rfl rfl rfl rfl (zD rfl (zBU (c := max t.now now) rfl rfl (zKK _ _) rfl (zh rfl rfl (zJ (o := 2) rfl rfl (zJ (o := 0) rfl rfl (zo 0 rfl rfl rfl rfl rfl ?_))))))))))))
  refine zA (zB (zD rfl (zD rfl (zh rfl rfl (zJ (o := 32) rfl rfl (zo 0 rfl rfl rfl rfl rfl (zA (zW (zD rfl (yc (cs := [.slice none 0 0, .bool false, .slice none 0 0, .slice none 0 0]) (z := [.slice none 0 0, .bool false, .slice none 0 0, .slice none 0 0]) (pl := [(0, 1), (1, 1), (2, 1), (3, 1)]) (by kernel_rfl) (by kernel_rfl) rfl (z7 rfl rfl (fun b23 => zh rfl rfl ?_))))))))))))
  refine zJ (o := 33) rfl rfl (zo 0 rfl rfl rfl rfl rfl ?_)
  exact zj (yM rfl (fun w' hw => ⟨b23, rfl, ((zt (zt (Own.starNil (zt hw 59 14)) 53 2) 22 1).starShut [1, 2, 3, 4, 5] rfl (by decide))⟩))
theorem zDF {S : List Nat} (cb jb : Nat) (t : TimD) (a : StA) (r : RolD) (b : StB) (lead yv : Value) (draw : Nat) (ob : Nat) (o : OutD) (w : World) (hin : Own w S [ze cb t lead a r b yv jb draw (pt ob), Res.ou ob o] w) : Rets Tryz.prog 38 #[pt cb] w fun u_ w' => u_ = .agg (OutD.cells o).toArray ∧ Own w S [ze cb t lead a r b yv jb draw (.pointer none), vM o.mv o.msgs, sM o.msgs, vR o.rv o.rdys, vU o.xv o.losts] w' := by
  refine zT Tryz.func38 rfl Tryz.ntmps38 hin ?_
  refine zB (yS (v := .agg #[.slice none 0 0, .bool false, .slice none 0 0, .slice none 0 0]) (by kernel_rfl) rfl (fun b2 => zA (zB (zD rfl (zh rfl rfl (zJ (o := 33) rfl rfl (zM 0 (v := pt ob) rfl rfl rfl rfl (zh rfl rfl ?_))))))))
  refine zx [ze cb t lead a r b yv jb draw (pt ob), Res.row b2 44 [.slice none 0 0, .bool false, .slice none 0 0, .slice none 0 0], xo ob o, vM o.mv o.msgs, sM o.msgs, vR o.rv o.rdys, vU o.xv o.losts] (fun w' hw => hw.starOpen 1 rfl) ?_
  refine yY (cs := (OutD.cells o)) 2 rfl rfl rfl (yS (v := .agg #[.slice none 0 0, .bool false, .slice none 0 0, .slice none 0 0]) (by kernel_rfl) rfl (fun b3 => ?_))
  refine zg (fun w' hw => Own.cell1Vec (i := 3) rfl hw) (fun hc1_ => ?_)
  refine zg (fun w' hw => Own.cell1Vec (i := 5) rfl hw) (fun hc2_ => ?_)
  refine zg (fun w' hw => Own.cell1Vec (i := 6) rfl hw) (fun hc3_ => ?_)
  refine yH 7 rfl rfl rfl (zF hc1_ (zF rfl (zF hc2_ (zF hc3_ zw)))) rfl (zA (zB (zD rfl (zh rfl rfl (zJ (o := 33) rfl rfl (zo 0 rfl rfl rfl rfl rfl (zA (zB (yY (cs := (OutD.cells o)) 7 rfl rfl rfl (yH 1 rfl rfl rfl (zF hc1_ (zF rfl (zF hc2_ (zF hc3_ zw)))) rfl (zA ?_)))))))))))
  exact zY (jt (cs := (OutD.cells o)) rfl rfl (by kernel_rfl) (Own.rowCells (i := 1) rfl) (fun w' hw => ⟨rfl, hw.sel [0, 3, 4, 5, 6] rfl (by decide)⟩))
theorem zAL {S : List Nat} (cb jb : Nat) (t : TimD) (a : StA) (r : RolD) (b : StB) (lead yv out : Value) (draw : Nat) (w : World) (hn : 0 ≤ t.now ∧ t.now ≤ 1000000000000000) (hh : 0 ≤ t.heard ∧ t.heard ≤ 1000000000000000) (hin : Own w S [ze cb t lead a r b yv jb draw out] w) : Rets Tryz.prog 84 #[pt cb] w fun u_ w' => u_ = .bool (decide (t.now - t.heard < a.base)) ∧ Own w S [ze cb t lead a r b yv jb draw out] w' := by
  refine zT Tryz.func84 rfl Tryz.ntmps84 hin ?_
  refine zB (zK rfl (zA (yV (by kernel_rfl) (by kernel_rfl) (zL rfl (zU) (zL rfl (zP rfl) (zL rfl (zI (o := 2) rfl) (zL rfl (zI (o := 0) rfl) (zL rfl (zb 0 (v := Vi t.now) rfl rfl rfl) (zL rfl (zU) (zL rfl (zP rfl) (zL rfl (zI (o := 2) rfl) (zL rfl (zI (o := 1) rfl) ?_))))))))))))
  refine zL rfl (zb 0 (v := Vi t.heard) rfl rfl rfl) (zL rfl (xb rfl rfl (zy (by omega))) (zL rfl (zU) (zL rfl (zP rfl) (zL rfl (zI (o := 11) rfl) (zL rfl (zI (o := 4) rfl) (zL rfl (zb 0 (v := Vi a.base) rfl rfl rfl) (zL rfl (zAo rfl rfl) (zL rfl (ya) (xN ?_)))))))))
  exact zY (yD (v := .bool (decide ((t.now - t.heard) < a.base))) rfl rfl (fun w' hw => ⟨rfl, hw⟩))
theorem x2 {S : List Nat} (cb jb : Nat) (t : TimD) (a : StA) (r : RolD) (b : StB) (yv out : Value) (draw : Nat) (wh : Int) (w : World) (hin : Own w S [ze cb t (.pointer none) a r b yv jb draw out] w) : Rets Tryz.prog 70 #[pt cb, Vi wh] w fun u_ w' => u_ = .tuple #[] ∧ Own w S [ze cb t (.pointer none) a ({ role := 1, who := wh, commit := r.commit } : RolD) b (.slice none 0 0) jb draw out] w' := by
  refine zT Tryz.func70 rfl Tryz.ntmps70 hin ?_
  refine zB (zD rfl (zD rfl (zD rfl (zD rfl (zh rfl rfl (zJ (o := 21) rfl rfl (zo 0 rfl rfl rfl rfl rfl (zh rfl rfl (zJ (o := 22) rfl rfl (zo 0 rfl rfl rfl rfl rfl (zh rfl rfl (zJ (o := 30) rfl rfl ?_))))))))))))
  refine zo 0 rfl rfl rfl rfl rfl (zA (zQ (zB (zD rfl (zh rfl rfl (zJ (o := 9) rfl rfl (zM 0 (v := .pointer none) rfl rfl rfl rfl (jw (by kernel_rfl) rfl rfl rfl (zA (x8 rfl (zR (zW ?_))))))))))))
  refine zD rfl (zh rfl rfl (zJ (o := 9) rfl rfl (zo 0 rfl rfl rfl rfl rfl ?_)))
  exact zj (yM rfl (fun w' hw => ⟨rfl, hw⟩))
theorem jz {S : List Nat} (cb jb : Nat) (t : TimD) (a : StA) (r : RolD) (b : StB) (yv : Value) (draw : Nat) (wh : Int) (ld : Nat) (l : LdD) (ob : Nat) (o : OutD) (w : World) (hl : l.looks.length ≤ 1000000) (ho : o.losts.length = 0) (hin : Own w S [ze cb t (pt ld) a r b yv jb draw (pt ob), Res.ld ld l, Res.ou ob o] w) : Rets Tryz.prog 70 #[pt cb, Vi wh] w fun u_ w' => ∃ (xw : Value), u_ = .tuple #[] ∧ Own w S [ze cb t (.pointer none) a ({ role := 1, who := wh, commit := r.commit } : RolD) b (.slice none 0 0) jb draw (pt ob), Res.ou ob ({ o with xv := xw, losts := l.looks.map LookM.id } : OutD)] w' := by
  refine zT Tryz.func70 rfl Tryz.ntmps70 hin ?_
  refine zB (zD rfl (zD rfl (zD rfl (zD rfl (zh rfl rfl (zJ (o := 21) rfl rfl (zo 0 rfl rfl rfl rfl rfl (zh rfl rfl (zJ (o := 22) rfl rfl (zo 0 rfl rfl rfl rfl rfl (zh rfl rfl (zJ (o := 30) rfl rfl ?_))))))))))))
  refine zo 0 rfl rfl rfl rfl rfl (zA (zQ (zB (zD rfl (zh rfl rfl (zJ (o := 9) rfl rfl (zM 0 (v := pt ld) rfl rfl rfl rfl (jw (by kernel_rfl) rfl rfl rfl (zA (zEu rfl (zB (zD rfl ?_))))))))))))
  refine zh rfl rfl (zJ (o := 9) rfl rfl (zM 0 (v := pt ld) rfl rfl rfl rfl (zh rfl rfl (zJ (o := 4) rfl rfl (z6 (v := l.kv) 1 0 4 rfl rfl rfl rfl (by kernel_rfl) rfl (zq (pC 1 5 rfl rfl) rfl rfl (zD rfl (zA (zc ?_)))))))))
  refine y9 (fun (k : Nat) (xv : Value) => [(0, pt cb), (27, l.kv), (28, Vj l.looks.length), (29, Vj k)]) (fun (k : Nat) (xv : Value) => k ≤ l.looks.length) (fun (k : Nat) (xv : Value) => [ze cb t (pt ld) a ({ role := 1, who := wh, commit := r.commit } : RolD) b (.slice none 0 0) jb draw (pt ob), Res.ld ld l, Res.ou ob ({ o with xv := xv, losts := (l.looks.take k).map LookM.id } : OutD)]) (fun (k : Nat) (xv : Value) => l.looks.length - k) (fun w' hw => ⟨0, o.xv, ⟨rfl, rfl, rfl, rfl, trivial⟩, Nat.zero_le _, by rw [List.take_zero, List.map_nil, ← List.eq_nil_of_length_eq_zero ho]; exact hw⟩) (fun k xv g hΦ => ?_)
  refine zB (yJ rfl rfl rfl (zA (zQ (zf rfl (fun c2 => ?_) (fun c2 => ?_)))))
  ·
   refine zR (zQ (zc (zB (zm (pC 1 5 rfl rfl) 3 k rfl rfl rfl (by omega) rfl (kd (pC 1 5 rfl rfl) 3 k (off := xF l.kv + k * 3) (fun _ => rfl) rfl rfl (by omega) rfl (yS (v := .agg #[Vn 0, Vn 0, Vn 0]) (by kernel_rfl) rfl (fun b5 => yH 3 rfl rfl rfl (xx rfl) rfl (zA (zk [0, 1, 3] rfl (by decide) (by kernel_rfl) (fun w' hw hS => zC 0 rfl (zU) hS (zC 1 rfl (zP rfl) hS (zC 2 rfl (zI (o := 33) rfl) hS ?_))))))))))))
   refine zC 3 rfl (zb 0 (v := pt ob) rfl rfl rfl) hS (zC 4 rfl (zU) hS (zC 5 rfl (zP rfl) hS (zC 6 rfl (zI (o := 33) rfl) hS (zC 7 rfl (zb 0 (v := pt ob) rfl rfl rfl) hS (zC 8 rfl (zP rfl) hS (zC 9 rfl (zI (o := 3) rfl) hS (zC 11 rfl (zI (o := 0) rfl) hS (zC 12 rfl (zI (o := 0) rfl) hS (zC 13 rfl (zb 2 (v := Vn ((zG l.looks k).id)) rfl rfl rfl) hS (yA 10 14 ?_ ?_))))))))))
   ·
    refine zr 10 rfl hw (z6 (v := xv) 2 0 3 rfl rfl rfl rfl (by kernel_rfl) rfl (zE [0, 1, 3] rfl (by decide) (fun w' hw hS => zN 14 rfl hw (z4 (e := 22) (sz := 1) (vs := [Vn ((zG l.looks k).id)]) (by kernel_rfl) rfl rfl (by simp [Value.cells]) (by decide) rfl (fun b47 => zE [0, 1, 3] rfl (by decide) (fun w' hw hS => zN 15 rfl hw ?_))))))
    refine zx [ze cb t (pt ld) a ({ role := 1, who := wh, commit := r.commit } : RolD) b (.slice none 0 0) jb draw (pt ob), Res.ld ld l, Res.row b5 116 (LookM.cells (zG l.looks k)), vU (.slice (some ⟨b47, 0, none⟩) 1 1) [(zG l.looks k).id], xo ob ({ o with xv := xv, losts := (l.looks.take k).map LookM.id } : OutD), vM o.mv o.msgs, sM o.msgs, vR o.rv o.rdys, vU xv ((l.looks.take k).map LookM.id)] (fun w' hw => hw.starOpen 2 rfl) ?_
    refine yO (g := U1) (sz := 1) (by' := 8) (fun _ => rfl) (l := (l.looks.take k).map LookM.id) (l' := [(zG l.looks k).id]) (by simp [cell1, U1]) 8 (by kernel_rfl) rfl rfl rfl (fun w' hw' => Vec.sl (Own.holds hw' 3 _ rfl)) (by first | omega | (simp <;> omega)) (by decide) rfl (fun v48 => zE [0, 1, 2] rfl (by decide) (fun w' hw hS => zC 16 rfl (zP rfl) hS (zC 17 rfl (zI (o := 3) rfl) hS (zN 18 rfl hw ?_))))
    refine zg (fun w' hw => Own.cell1Vec (i := 8) rfl hw) (fun hc1_ => ?_)
    refine zo 4 rfl rfl rfl hc1_ rfl (zE [0, 1, 2] rfl (by decide) (fun w' hw hS => zX ?_))
    refine (?_ : C _ _ _ _ _ _ _ (Own w S [ze cb t (pt ld) a ({ role := 1, who := wh, commit := r.commit } : RolD) b (.slice none 0 0) jb draw (pt ob), Res.ld ld l, Res.row b5 116 (LookM.cells (zG l.looks k)), vU (.slice (some ⟨b47, 0, none⟩) 1 1) [(zG l.looks k).id], xo ob ({ o with xv := v48, losts := ((l.looks.take k).map LookM.id) ++ [(zG l.looks k).id] } : OutD), vM o.mv o.msgs, sM o.msgs, vR o.rv o.rdys, vU v48 (((l.looks.take k).map LookM.id) ++ [(zG l.looks k).id])])) _ hw
    refine zW (z3 rfl rfl (zy (by omega)) rfl (zD rfl ?_))
    exact zj (fun w' hw => ⟨k + 1, v48, ⟨rfl, rfl, rfl, rfl, trivial⟩, (by omega), by rw [zu (by omega), List.map_append]; exact (hw.starShut [4, 5, 6, 7, 8] rfl (by decide)).sel [0, 1, 4] rfl (by decide), (by omega)⟩)
   ·
    refine zr 14 rfl hw (z4 (e := 22) (sz := 1) (vs := [Vn ((zG l.looks k).id)]) (by kernel_rfl) rfl rfl (by simp [Value.cells]) (by decide) rfl (fun b47 => zE [0, 1, 3] rfl (by decide) (fun w' hw hS => zN 10 rfl hw (z6 (v := xv) 2 0 3 rfl rfl rfl rfl (by kernel_rfl) rfl (zE [0, 1, 3] rfl (by decide) (fun w' hw hS => zN 15 rfl hw ?_))))))
    refine zx [ze cb t (pt ld) a ({ role := 1, who := wh, commit := r.commit } : RolD) b (.slice none 0 0) jb draw (pt ob), Res.ld ld l, Res.row b5 116 (LookM.cells (zG l.looks k)), vU (.slice (some ⟨b47, 0, none⟩) 1 1) [(zG l.looks k).id], xo ob ({ o with xv := xv, losts := (l.looks.take k).map LookM.id } : OutD), vM o.mv o.msgs, sM o.msgs, vR o.rv o.rdys, vU xv ((l.looks.take k).map LookM.id)] (fun w' hw => hw.starOpen 2 rfl) ?_
    refine yO (g := U1) (sz := 1) (by' := 8) (fun _ => rfl) (l := (l.looks.take k).map LookM.id) (l' := [(zG l.looks k).id]) (by simp [cell1, U1]) 8 (by kernel_rfl) rfl rfl rfl (fun w' hw' => Vec.sl (Own.holds hw' 3 _ rfl)) (by first | omega | (simp <;> omega)) (by decide) rfl (fun v48 => zE [0, 1, 2] rfl (by decide) (fun w' hw hS => zC 16 rfl (zP rfl) hS (zC 17 rfl (zI (o := 3) rfl) hS (zN 18 rfl hw ?_))))
    refine zg (fun w' hw => Own.cell1Vec (i := 8) rfl hw) (fun hc2_ => ?_)
    refine zo 4 rfl rfl rfl hc2_ rfl (zE [0, 1, 2] rfl (by decide) (fun w' hw hS => zX ?_))
    refine (?_ : C _ _ _ _ _ _ _ (Own w S [ze cb t (pt ld) a ({ role := 1, who := wh, commit := r.commit } : RolD) b (.slice none 0 0) jb draw (pt ob), Res.ld ld l, Res.row b5 116 (LookM.cells (zG l.looks k)), vU (.slice (some ⟨b47, 0, none⟩) 1 1) [(zG l.looks k).id], xo ob ({ o with xv := v48, losts := ((l.looks.take k).map LookM.id) ++ [(zG l.looks k).id] } : OutD), vM o.mv o.msgs, sM o.msgs, vR o.rv o.rdys, vU v48 (((l.looks.take k).map LookM.id) ++ [(zG l.looks k).id])])) _ hw
    refine zW (z3 rfl rfl (zy (by omega)) rfl (zD rfl ?_))
    exact zj (fun w' hw => ⟨k + 1, v48, ⟨rfl, rfl, rfl, rfl, trivial⟩, (by omega), by rw [zu (by omega), List.map_append]; exact (hw.starShut [4, 5, 6, 7, 8] rfl (by decide)).sel [0, 1, 4] rfl (by decide), (by omega)⟩)
  ·
   refine yQ rfl (zW (zD rfl (zh rfl rfl (zJ (o := 9) rfl rfl (zo 0 rfl rfl rfl rfl rfl ?_)))))
   exact zj (yM rfl (fun w' hw => ⟨xv, rfl, by rw [List.take_of_length_le (by omega)] at hw; exact hw.sel [0, 2] rfl (by decide)⟩))
end Go.Proofs.YtkkeknmkipkbmaaGreat
set_option linter.unusedVariables false
set_option linter.unusedSectionVars false
namespace Go.Sc
section
variable {P : Program} {n : Nat} {fn : Func} {g : FuncId}
end
def zIa {α : Type} (P : Program) (l : Nat) (e1 e2 : α → Value) (Q : α → Prop) (N : Nat) (J : List α → List Res → Prop) : Prop :=
  ∀ pre x L w, J pre L → Q x → pre.length < N → Own w (y8 L) L w → ∃ fn tmps asg body, (Instr.yield l #[e1 x, e2 x]).run P w = .ok (.round l fn tmps asg body) w ∧
    RoundIn Fence.wide 0 P l fn tmps asg body w fun e w' => e = .returned (.bool true) ∧ ∃ L', J (pre ++ [x]) L' ∧ Own w (y8 L) L' w'
def SeqC2 {α : Type} (P : Program) (g : FuncId) (lb : List Value) (e1 e2 : α → Value) (Q : α → Prop) (Sx : List α → Prop) (N : Nat) (Ls : List Res) : Prop :=
  ∀ (l : Nat) (J : List α → List Res → Prop) (L : List Res) (w : World), zIa P l e1 e2 Q N J → J [] L → Own w (y8 (Ls ++ L)) (Ls ++ L) w →
    Rets P g (.func (.yield l) #[] #[] :: lb).toArray w fun _ w' => ∃ xs L', Sx xs ∧ J xs L' ∧ Own w (y8 (Ls ++ L)) (Ls ++ L') w'
section
variable {P : Program} {n : Nat} {ops : Array Oper} {f : Nat → Value} {A : World → Prop} {rest : List Oper} {d : Nat} {ty : TypeId} {p : String} {af : Array Edge} {N R : K} {X : List (Nat × K)} {ds : List Deferred} {fn : Func} {g : FuncId}
def RC (P : Program) (n l : Nat) (c : Code) (f : Nat → Value) (A B : World → Prop) : Prop := ∀ a w, Rep n f a → A w → c.wpIn (Wd (some l)) 0 P (xf n fun _ w' => B w') a w
theorem zFg {r0 r1 r2 blk c2 : Code} {args : List Value} {w : World} {R : Value → World → Prop} (hf : P.funcs[g]? = some fn) (hb : fn.body = some (.seq r0 (.seq r1 (.seq (.seq r2 blk) c2)))) (hn : fn.ntmps = n) (hl : Nat.ble args.length n = true) (hA : A w)
    (h : C P n r0 (fun f w => W P n r1 (fun f w => W P n r2 (RF P fn n blk c2 R) (fun _ _ => False) [] f w) (fun _ _ => False) [] f w) (fun _ _ => False) [] (ini args) A) : Rets P g args.toArray w R := by
  subst hn
  refine callsIn_wide (n := 0).1 (callsIn_of_wp_marks hf hb trivial ?_)
  have out : ∀ {N : K} {e : Exit} {a : Act} {w : World}, post fn.ntmps N (fun _ _ => False) [] e a w → e = .normal ∧ ∃ f, Rep fn.ntmps f a ∧ N f w := by
    intro N e a w hq
    cases e with
    | normal => exact ⟨rfl, hq⟩
    | ret => obtain ⟨_, _, h⟩ := hq; exact h.elim
    | exit id => obtain ⟨_, _, _, h, _⟩ := hq; cases h
    | _ => exact hq.elim
  refine wpIn_seq (wpIn_mono (wpIn_wide.2 (h w hA _ (zE3 args fn.ntmps (Nat.le_of_ble_eq_true hl)))) ?_)
  intro e a w hq
  obtain ⟨rfl, f, hr, hw⟩ := out hq
  refine wpIn_seq (wpIn_mono (wpIn_wide.2 (hw a hr)) ?_)
  intro e a w hq
  obtain ⟨rfl, f, hr, hw⟩ := out hq
  refine wpIn_seq (wpIn_seq (wpIn_mono (wpIn_wide.2 (hw a hr)) ?_))
  intro e a w hq
  obtain ⟨rfl, f, hr, hw⟩ := out hq
  refine wpIn_mono (hw a hr) ?_
  intro e a w hq
  cases e <;> exact hq
theorem zG9 : ∀ (Q Q' : Exit → Act → World → Prop), (∀ e a w, Q e a w → Q' e a w) → ∀ (l : List Oper) (a : Act) (w : World), wpList P ops Q l a w → wpList P ops Q' l a w := by
  intro Q Q' hq l
  induction l with
  | nil => intro a w h; exact hq _ _ _ h
  | cons o l ih =>
    intro a w h
    unfold wpList at h ⊢
    split
    · rename_i hw
      rw [if_pos hw] at h
      rcases h with h | ⟨h1, a1, w1, h2⟩
      · left
        unfold Oper.wp at *
        generalize (execOp a.eval o).run P w = r at *
        cases r with
        | ok nx w' =>
          cases nx <;> simp only [Oper.upon] at h ⊢ <;>
            first
              | exact ih _ _ h
              | exact Calls.mono h (fun e w'' he => by
                  cases e with
                  | returned v => exact ih _ _ he
                  | panicked c => exact hq _ _ _ he
                  | outgrown => obtain ⟨a2, w2, h2⟩ := he; exact ⟨a2, w2, hq _ _ _ h2⟩)
              | exact Rows.mono h (fun _ _ he => ih _ _ he)
        | halt x w' => cases x <;> simp only [Oper.upon] at h ⊢ <;> exact hq _ _ _ h
      · exact .inr ⟨h1, a1, w1, hq _ _ _ h2⟩
    · rename_i hw
      rw [if_neg hw] at h
      exact ih _ _ h
def wd (a : Act) (ds : List Deferred) : Act := { a with defers := a.defers ++ ds }
theorem zCs {Q : Exit → Act → World → Prop} {ds : List Deferred} (hq : ¬ LetsOut fun e a w => Q e (wd a ds) w) : ∀ (l : List Oper) (a : Act) (w : World), xA l = true → wpList P ops (fun e a w => Q e (wd a ds) w) l a w → wpListIn (Wd none) 0 P ops Q l (wd a ds) w
  | [], a, w, _, h => h
  | o :: l, a, w, hn, h => by
    simp only [xA, List.all_cons, Bool.and_eq_true] at hn
    have ih : ∀ (d : Option Nat) (v : Value) (w : World), wpList P ops (fun e a w => Q e (wd a ds) w) l (a.put d v) w → wpListIn (Wd none) 0 P ops Q l ((wd a ds).put d v) w := fun d v w h => by
      have e : wd (a.put d v) ds = (wd a ds).put d v := by cases d <;> rfl
      have := zCs hq l (a.put d v) w hn.2 h
      rwa [e] at this
    have ihd : ∀ (x : Deferred) (d : Option Nat) (v : Value) (w : World), wpList P ops (fun e a w => Q e (wd a ds) w) l (({ a with defers := x :: a.defers } : Act).put d v) w → wpListIn (Wd none) 0 P ops Q l (({ wd a ds with defers := x :: (wd a ds).defers } : Act).put d v) w := fun x d v w h => by
      have e : wd (({ a with defers := x :: a.defers } : Act).put d v) ds = ({ wd a ds with defers := x :: (wd a ds).defers } : Act).put d v := by cases d <;> rfl
      have := zCs hq l _ w hn.2 h
      rwa [e] at this
    unfold wpList at h
    unfold wpListIn
    split
    · rename_i hw
      have hw : Region.wanted o (yielded ops a.tmps) = true := hw
      rw [if_pos hw] at h
      have h := h.resolve_right fun q => hq q.2
      refine ⟨fun _ _ => trivial, ?_⟩
      rw [Oper.semAt_eq _ _ _ (fun c hc => by rw [hc] at hn; simp at hn)]
      unfold Oper.wp at h
      have ee : (wd a ds).eval = a.eval := rfl
      rw [ee]
      generalize (execOp a.eval o).run P w = r at h ⊢
      cases r with
      | ok nx w' =>
        cases nx <;> simp only [Oper.upon, Oper.uponIn] at h ⊢ <;>
          first
            | exact h.elim
            | exact ih _ _ _ h
            | exact ihd _ _ _ _ h
            | exact ⟨fun q => by simp [Wd, Fence.wide] at q, (jq h).mono fun e w'' he => by
                cases e with
                | returned v => exact ih _ _ _ he
                | panicked c => exact he
                | outgrown => exact absurd he hq⟩
            | exact ⟨fun q => by simp [Wd, Fence.wide] at q, (zAX h).mono fun v w'' he => ih _ _ _ he⟩
      | halt x w' => cases x <;> simp only [Oper.upon, Oper.uponIn] at h ⊢ <;> exact h
    · rename_i hw
      have hw : ¬ Region.wanted o (yielded ops a.tmps) = true := hw
      rw [if_neg hw] at h
      exact ⟨fun _ _ => trivial, ih _ _ _ h⟩
theorem zEH {N : K} {l : List Oper} {a : Act} {w : World} (hn : xA l = true) (h : wpList P ops (xf n N) l { a with defers := [] } w) : wpListIn (Wd none) 0 P ops (zEy n a.defers N) l a w := by
  have hm : wpList P ops (fun e b w => zEy n a.defers N e (wd b a.defers) w) l { a with defers := [] } w := zG9 _ _ (fun e b w q => by
    cases e <;> first | exact q | skip
    obtain ⟨f, hr, hN⟩ := q
    refine ⟨f, ⟨?_, ?_⟩, hN⟩
    · have h2 := hr.defers
      cases b
      simp only at h2; subst h2
      exact hr
    · show b.defers ++ a.defers = a.defers
      rw [hr.defers]; rfl) _ _ _ h
  exact zCs (fun q => by obtain ⟨_, _, q⟩ := q; exact q) l { a with defers := [] } w hn hm
theorem zIK {i4 t4 t5 D : Nat} {T4 T5 : TypeId} {l4 : List Oper} {f : Nat → Value} {w0 w : World} {S : List Nat} {L : List Res} {R : Value → World → Prop} (hr : fn.results = #[.cell t4 T4, .cell t5 T5]) (h5 : one P T5 = true) (hn : xA l4 = true)
    (h : CL P n l4.toArray l4 (fun f' w' => ∃ (L' : List Res) (cs : List Value) (v : Value) (b4 b5 j4 j5 : Nat), (f' t4 = .pointer (some ⟨b4, 0, none⟩) ∧ f' t5 = .pointer (some ⟨b5, 0, none⟩)) ∧ (L'[j4]? = some (Res.row b4 T4 cs) ∧ L'[j5]? = some (Res.row b5 T5 [v])) ∧ kx P T4 = some cs.length
      ∧ Own w0 S (Res.obj D (.deferred (some [])) :: L') w' ∧ ∀ w'', Own w0 S L' w'' → R (.tuple #[.agg cs.toArray, v]) w'') f (Own w0 S (Res.obj D (.deferred (some [])) :: L))) (hw : Own w0 S (Res.obj D (.deferred (some [])) :: L) w) :
    ∀ a, RepD n [{ target := .collected D, args := #[] }] f a → (Code.seq (.region i4 l4.toArray false) .ret).wpIn Fence.wide 0 P (bodyPostM Fence.wide 0 P fn fun e w' => ∃ v, e = .returned v ∧ R v w') a w := by
  intro a ha
  have h1 := zEH (a := a) hn (h w hw _ ha.1)
  rw [ha.2] at h1
  refine wpIn_seq (wpIn_mono (wpIn_region_lit (F := Fence.wide) (n := 0) h1) ?_)
  intro e a w hq
  cases e <;> first | exact hq.elim | skip
  obtain ⟨f', hr', L', cs, v, b4, b5, j4, j5, ⟨e4, e5⟩, ⟨q4, q5⟩, hT, hO, hR⟩ := hq
  refine wpIn_ret ?_
  show LeavesInM Fence.wide 0 P fn a.tmps _ a.defers .returning w
  rw [hr'.2]
  refine ⟨by simp, .inl ⟨D, _, rfl, run_takeDeferred (hO.holds 0 _ rfl), ?_⟩⟩
  have hO2 := (hO.putObj (i := 0) (.deferred none) rfl).tail
  refine ⟨_, ?_, _, rfl, hR _ hO2⟩
  have g : ∀ t, a.tmps.getD t undef = f' t := hr'.1.get
  have r4 := xG (P := P) hT (hO2.rowCells q4)
  have r5 := kF (P := P) h5 (hO2.rowCell q5 (off := 0) (v := v) rfl)
  simp [results, hr, g, e4, e5, asAddr, r4, r5]
end
end Go.Sc
