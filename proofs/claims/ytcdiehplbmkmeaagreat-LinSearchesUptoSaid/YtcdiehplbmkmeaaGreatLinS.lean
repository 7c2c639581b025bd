import Derived.Test.YtcdiehplbmkmeaaGreatLinR
set_option linter.unusedSectionVars false
set_option linter.unusedSimpArgs false
set_option linter.unusedVariables false
set_option maxRecDepth 10000
namespace Go.Proofs.YtcdiehplbmkmeaaGreat
open Go Go.Sc Go.Proofs
section
variable {l : List CallD} {t t' : RL} {dn dn' : List Bool} {k : Nat} {rl : List Int} {found : Bool}
theorem zEV (hd : dn.length = l.length) (hw : ¬ Whole l dn) (hN : ∀ j, j < k → jG l ⟨t, dn⟩ j = none) (hk : k < l.length) (hz : (zy l ⟨t, dn⟩ ⟨(k : Int), 0⟩).1 = 0) (hm : dn' = (zy l ⟨t, dn⟩ ⟨(k : Int), 0⟩).2.done) (ht : t' = (zy l ⟨t, dn⟩ ⟨(k : Int), 0⟩).2.t)
    (h : y0 l ⟨t', dn'⟩ [] rl found) (hf : found = true) : y0 l ⟨t, dn⟩ [] ([(k : Int)] ++ rl) true := by
  subst hm ht
  rcases h with ⟨r, h1, _, h3⟩ | ⟨_, h2, _⟩
  · refine .inl ⟨k :: r, ?_, rfl, by rw [h3]; simp⟩
    rw [kQ hd hw]
    exact zEr hN hk (by rw [zAT hz hd]; exact congrArg (Option.map _) h1)
  · rw [hf] at h2; cases h2
theorem zFr (hd : dn.length = l.length) (hz : (zy l ⟨t, dn⟩ ⟨(k : Int), 0⟩).1 = 0) (hm : dn' = (zy l ⟨t, dn⟩ ⟨(k : Int), 0⟩).2.done) (ht : t' = (zy l ⟨t, dn⟩ ⟨(k : Int), 0⟩).2.t)
    (h : y0 l ⟨t', dn'⟩ [] rl found) (hf : found = false) : jG l ⟨t, dn⟩ k = none := by
  subst hm ht
  rcases h with ⟨_, _, h2, _⟩ | ⟨h1, _, _⟩
  · rw [hf] at h2; cases h2
  · rw [zAT hz hd]; exact congrArg (Option.map _) h1
end
theorem zFA (t : RL) (dn : List Bool) (bv lv rv dv : Value) (w : World) (hL : LOkR t.now t.cnt t.bs t.ls t.rs) (hd : dn.length ≤ 10000000) (hb : Rd w [] (Res.sl bv t.bs.length (t.bs.flatMap BudD.cells))) (hlv : Rd w [] (Res.sl lv t.ls.length (t.ls.flatMap LeaD.cells))) (hr : Rd w [] (Res.sl rv t.rs.length (t.rs.flatMap RepD.cells))) (hdv : Rd w [] (Res.sl dv dn.length (dn.flatMap B1))) : Rets Tryz.prog 21 #[.agg #[Vi t.now, Vn t.cnt, bv, lv, rv, Vn 0, dv]] w fun u_ w' => ∃ (bv' lv' rv' dv' : Value), u_ = .agg #[Vi t.now, Vn t.cnt, bv', lv', rv', Vn 0, dv'] ∧ Own w [] [Res.vec 105 2 bv' t.bs.length (t.bs.flatMap BudD.cells), Res.vec 77 5 lv' t.ls.length (t.ls.flatMap LeaD.cells), Res.vec 50 6 rv' t.rs.length (t.rs.flatMap RepD.cells), Res.vec 4 1 dv' dn.length (dn.flatMap B1)] w' := by
  have hb1 := hL.q.blen
  have hb2 := hL.q.llen
  have hb3 := hL.c.len
  refine zd Tryz.func21 rfl Tryz.ntmps21 (Own.start w) ?_
  refine zB (yg rfl rfl (fun b1 => yG (v := .agg #[Vi 0, Vn 0, .slice none 0 0, .slice none 0 0, .slice none 0 0, Vn 0, .slice none 0 0]) (by kernel_rfl) rfl (fun b2 => zA (zB (yl (e := 4) (sz := 1) (vs := []) (by kernel_rfl) rfl rfl (by simp [Value.cells]) (by decide) rfl (fun b4 => zM (o := 6) rfl rfl (zU 0 (v := dv) rfl rfl rfl rfl (yq (g := B1) (sz := 1) (by' := 1) (fun _ => rfl) (l := []) (l' := dn) (by simp [cell1, B1]) 2 (by kernel_rfl) rfl rfl rfl (fun w' hw' => Own.rd hdv hw') (by first | omega | (simp; omega)) (by decide) rfl (fun v7 => ?_)))))))))
  refine yj (fun w' hw => Own.cell1Vec (i := 2) rfl hw) (fun hc1_ => ?_)
  refine zGJ (cs := [Vi 0, Vn 0, .slice none 0 0, .slice none 0 0, .slice none 0 0, Vn 0, v7]) (z := [Vi 0, Vn 0, .slice none 0 0, .slice none 0 0, .slice none 0 0, Vn 0, .slice none 0 0]) (pl := [(0, 6), (6, 1)]) (by kernel_rfl) ⟨hc1_, trivial⟩ (by kernel_rfl) rfl (yG (v := .agg #[Vi 0, Vn 0, .slice none 0 0, .slice none 0 0, .slice none 0 0, Vn 0, .slice none 0 0]) (by kernel_rfl) rfl (fun b3 => zi 3 rfl rfl rfl (yC rfl (yC rfl (yC rfl (yC rfl (yC rfl (yC rfl (yC hc1_ zAP))))))) rfl (zA ?_)))
  refine (?_ : C _ _ _ _ _ _ _ (Own w [] [Res.row b1 43 [Vi t.now, Vn t.cnt, bv, lv, rv, Vn 0, dv], Res.row b2 43 [Vi 0, Vn 0, .slice none 0 0, .slice none 0 0, .slice none 0 0, Vn 0, .slice none 0 0], Res.vec 4 1 v7 dn.length (dn.flatMap B1), Res.row b3 43 [Vi 0, Vn 0, .slice none 0 0, .slice none 0 0, .slice none 0 0, Vn 0, v7]]))
  refine zB (zM (o := 0) rfl rfl (zM (o := 0) rfl rfl (zM (o := 0) rfl rfl (zU 0 (v := Vi t.now) rfl rfl rfl rfl (zM (o := 0) rfl rfl (zM (o := 0) rfl rfl (zM (o := 0) rfl rfl (y9 3 rfl rfl rfl rfl rfl (zA ?_)))))))))
  refine (?_ : C _ _ _ _ _ _ _ (Own w [] [Res.row b1 43 [Vi t.now, Vn t.cnt, bv, lv, rv, Vn 0, dv], Res.row b2 43 [Vi 0, Vn 0, .slice none 0 0, .slice none 0 0, .slice none 0 0, Vn 0, .slice none 0 0], Res.vec 4 1 v7 dn.length (dn.flatMap B1), Res.row b3 43 [Vi t.now, Vn 0, .slice none 0 0, .slice none 0 0, .slice none 0 0, Vn 0, v7]]))
  refine zB (zM (o := 0) rfl rfl (zM (o := 0) rfl rfl (zM (o := 1) rfl rfl (zU 0 (v := Vn t.cnt) rfl rfl rfl rfl (zM (o := 0) rfl rfl (zM (o := 0) rfl rfl (zM (o := 1) rfl rfl (y9 3 rfl rfl rfl rfl rfl (zA ?_)))))))))
  refine (?_ : C _ _ _ _ _ _ _ (Own w [] [Res.row b1 43 [Vi t.now, Vn t.cnt, bv, lv, rv, Vn 0, dv], Res.row b2 43 [Vi 0, Vn 0, .slice none 0 0, .slice none 0 0, .slice none 0 0, Vn 0, .slice none 0 0], Res.vec 4 1 v7 dn.length (dn.flatMap B1), Res.row b3 43 [Vi t.now, Vn t.cnt, .slice none 0 0, .slice none 0 0, .slice none 0 0, Vn 0, v7]]))
  refine zB (yl (e := 105) (sz := 2) (vs := []) (by kernel_rfl) rfl rfl (by simp [Value.cells, BudD.cells]) (by decide) rfl (fun b23 => zM (o := 0) rfl rfl (zM (o := 0) rfl rfl (zM (o := 2) rfl rfl (zU 0 (v := bv) rfl rfl rfl rfl (yq (g := BudD.cells) (sz := 2) (by' := 24) (fun _ => rfl) (l := []) (l' := t.bs) (by simp [cell1, BudD.cells, vu]) 4 (by kernel_rfl) rfl rfl rfl (fun w' hw' => Own.rd hb hw') (by first | omega | (simp; omega)) (by decide) rfl (fun v28 => zM (o := 0) rfl rfl (zM (o := 0) rfl rfl (zM (o := 2) rfl rfl ?_)))))))))
  refine yj (fun w' hw => Own.cell1Vec (i := 4) rfl hw) (fun hc2_ => ?_)
  refine y9 3 rfl rfl rfl hc2_ rfl (zA ?_)
  refine (?_ : C _ _ _ _ _ _ _ (Own w [] [Res.row b1 43 [Vi t.now, Vn t.cnt, bv, lv, rv, Vn 0, dv], Res.row b2 43 [Vi 0, Vn 0, .slice none 0 0, .slice none 0 0, .slice none 0 0, Vn 0, .slice none 0 0], Res.vec 4 1 v7 dn.length (dn.flatMap B1), Res.row b3 43 [Vi t.now, Vn t.cnt, v28, .slice none 0 0, .slice none 0 0, Vn 0, v7], Res.vec 105 2 v28 t.bs.length (t.bs.flatMap BudD.cells)]))
  refine zB (yl (e := 77) (sz := 5) (vs := []) (by kernel_rfl) rfl rfl (by simp [Value.cells, LeaD.cells]) (by decide) rfl (fun b32 => zM (o := 0) rfl rfl (zM (o := 0) rfl rfl (zM (o := 3) rfl rfl (zU 0 (v := lv) rfl rfl rfl rfl (yq (g := LeaD.cells) (sz := 5) (by' := 48) (fun _ => rfl) (l := []) (l' := t.ls) (by simp [cell1, LeaD.cells, vu]) 5 (by kernel_rfl) rfl rfl rfl (fun w' hw' => Own.rd hlv hw') (by first | omega | (simp; omega)) (by decide) rfl (fun v37 => zM (o := 0) rfl rfl (zM (o := 0) rfl rfl (zM (o := 3) rfl rfl ?_)))))))))
  refine yj (fun w' hw => Own.cell1Vec (i := 5) rfl hw) (fun hc3_ => ?_)
  refine y9 3 rfl rfl rfl hc3_ rfl (zA ?_)
  refine (?_ : C _ _ _ _ _ _ _ (Own w [] [Res.row b1 43 [Vi t.now, Vn t.cnt, bv, lv, rv, Vn 0, dv], Res.row b2 43 [Vi 0, Vn 0, .slice none 0 0, .slice none 0 0, .slice none 0 0, Vn 0, .slice none 0 0], Res.vec 4 1 v7 dn.length (dn.flatMap B1), Res.row b3 43 [Vi t.now, Vn t.cnt, v28, v37, .slice none 0 0, Vn 0, v7], Res.vec 105 2 v28 t.bs.length (t.bs.flatMap BudD.cells), Res.vec 77 5 v37 t.ls.length (t.ls.flatMap LeaD.cells)]))
  refine zB (yl (e := 50) (sz := 6) (vs := []) (by kernel_rfl) rfl rfl (by simp [Value.cells, RepD.cells]) (by decide) rfl (fun b41 => zM (o := 0) rfl rfl (zM (o := 4) rfl rfl (zM (o := 0) rfl rfl (zU 0 (v := rv) rfl rfl rfl rfl (yq (g := RepD.cells) (sz := 6) (by' := 48) (fun _ => rfl) (l := []) (l' := t.rs) (by simp [cell1, RepD.cells, vu]) 6 (by kernel_rfl) rfl rfl rfl (fun w' hw' => Own.rd hr hw') (by first | omega | (simp; omega)) (by decide) rfl (fun v46 => zM (o := 0) rfl rfl (zM (o := 4) rfl rfl (zM (o := 0) rfl rfl ?_)))))))))
  refine yj (fun w' hw => Own.cell1Vec (i := 6) rfl hw) (fun hc4_ => ?_)
  refine y9 (cs := [Vi t.now, Vn t.cnt, v28, v37, .slice none 0 0, Vn 0, v7]) 3 rfl rfl rfl hc4_ rfl (zA ?_)
  refine (?_ : C _ _ _ _ _ _ _ (Own w [] [Res.row b1 43 [Vi t.now, Vn t.cnt, bv, lv, rv, Vn 0, dv], Res.row b2 43 [Vi 0, Vn 0, .slice none 0 0, .slice none 0 0, .slice none 0 0, Vn 0, .slice none 0 0], Res.vec 4 1 v7 dn.length (dn.flatMap B1), Res.row b3 43 [Vi t.now, Vn t.cnt, v28, v37, v46, Vn 0, v7], Res.vec 105 2 v28 t.bs.length (t.bs.flatMap BudD.cells), Res.vec 77 5 v37 t.ls.length (t.ls.flatMap LeaD.cells), Res.vec 50 6 v46 t.rs.length (t.rs.flatMap RepD.cells)]))
  refine zB (yP (cs := [Vi t.now, Vn t.cnt, v28, v37, v46, Vn 0, v7]) 3 rfl rfl rfl (zi 1 rfl rfl rfl (yC rfl (yC rfl (yC hc2_ (yC hc3_ (yC hc4_ (yC rfl (yC hc1_ zAP))))))) rfl (zA ?_)))
  exact zN (zBy (cs := [Vi t.now, Vn t.cnt, v28, v37, v46, Vn 0, v7]) rfl rfl (by kernel_rfl) (Own.rowCells (i := 1) rfl) (fun w' hw => ⟨v28, v37, v46, v7, rfl, hw.sel [4, 5, 6, 2] rfl (by decide)⟩))
def zDs (n : Nat) : Prop := ∀ (v bv lv rv dv : Value) (l : List CallD) (t : RL) (dn : List Bool) (w : World) (hn : yc dn < n) (hL : LOkR t.now t.cnt t.bs t.ls t.rs) (hcw : ∀ c ∈ l, c.wf) (hc : t.cnt + yc dn ≤ 100000000) (hl : l.length ≤ 10000000) (hd : dn.length = l.length) (hv : Rd w [] (Res.sl v l.length (l.flatMap CallD.cells))) (hb : Rd w [] (Res.sl bv t.bs.length (t.bs.flatMap BudD.cells))) (hlv : Rd w [] (Res.sl lv t.ls.length (t.ls.flatMap LeaD.cells))) (hr : Rd w [] (Res.sl rv t.rs.length (t.rs.flatMap RepD.cells))) (hdv : Rd w [] (Res.sl dv dn.length (dn.flatMap B1))), Rets Tryz.prog 10 #[v, .agg #[Vi t.now, Vn t.cnt, bv, lv, rv, Vn 0, dv]] w fun u_ w' => ∃ (ov : Value) (rl : List Int) (found : Bool), u_ = .tuple #[ov, .bool found] ∧ y0 l ⟨t, dn⟩ [] rl found ∧ rl.length ≤ yc dn ∧ Own w [] [Res.vec 3 1 ov rl.length (rl.flatMap I1)] w'
theorem zEC (n : Nat) (ih : zDs n) (v bv lv rv dv : Value) (l : List CallD) (t : RL) (dn : List Bool) (w : World) (hn : yc dn < n + 1) (hL : LOkR t.now t.cnt t.bs t.ls t.rs) (hcw : ∀ c ∈ l, c.wf) (hc : t.cnt + yc dn ≤ 100000000) (hl : l.length ≤ 10000000) (hd : dn.length = l.length) (hv : Rd w [] (Res.sl v l.length (l.flatMap CallD.cells))) (hb : Rd w [] (Res.sl bv t.bs.length (t.bs.flatMap BudD.cells))) (hlv : Rd w [] (Res.sl lv t.ls.length (t.ls.flatMap LeaD.cells))) (hr : Rd w [] (Res.sl rv t.rs.length (t.rs.flatMap RepD.cells))) (hdv : Rd w [] (Res.sl dv dn.length (dn.flatMap B1))) : Rets Tryz.prog 10 #[v, .agg #[Vi t.now, Vn t.cnt, bv, lv, rv, Vn 0, dv]] w fun u_ w' => ∃ (ov : Value) (rl : List Int) (found : Bool), u_ = .tuple #[ov, .bool found] ∧ y0 l ⟨t, dn⟩ [] rl found ∧ rl.length ≤ yc dn ∧ Own w [] [Res.vec 3 1 ov rl.length (rl.flatMap I1)] w' := by
  refine zd Tryz.func10 rfl Tryz.ntmps10 (Own.start w) ?_
  refine zB (yg rfl rfl (fun b3 => zE rfl (zE rfl (zA (zK (zB (zC rfl (zP rfl rfl (fun w' hw => (zGU b3 t.cnt 0 t.now bv lv rv dv v dn l w' (by first | omega | (simp <;> omega)) (by first | omega | (simp <;> omega)) (hw.give [0] rfl (by decide)) (hw.rdTo hv [0] rfl) (hw.rdTo hdv [0] rfl)).mono ?_)))))))))
  rintro _ w1 ⟨rfl, hO⟩
  refine (?_ : CL _ _ _ _ _ _ (Own w [] [Res.row b3 43 [Vi t.now, Vn t.cnt, bv, lv, rv, Vn 0, dv]])) w1 (hw.frameL [0] rfl hO)
  refine zA (zT rfl (fun c1 => ?_) (fun c1 => ?_))
  ·
   refine zB (zE rfl (zE rfl (zA ?_)))
   exact zN (ye (v := .slice none 0 0) (v' := .bool true) rfl rfl rfl (fun w' hw => ⟨.slice none 0 0, [], true, rfl, .inl ⟨[], zAW _ c1, rfl, rfl⟩, Nat.zero_le _, (yW hw 3 1).sel [1] rfl (by decide)⟩))
  ·
   refine zI (zK (zB (zE rfl (zA (zX ?_)))))
   refine yu (fun (k : Nat) => [(0, v), (3, .pointer (some ⟨b3, 0, none⟩)), (6, Vj k)]) (fun (k : Nat) => k ≤ l.length ∧ ∀ j, j < k → jG l ⟨t, dn⟩ j = none) (fun (k : Nat) => [Res.row b3 43 [Vi t.now, Vn t.cnt, bv, lv, rv, Vn 0, dv]]) (fun (k : Nat) => l.length - k) (fun w' hw => ⟨0, ⟨rfl, rfl, rfl, trivial⟩, ⟨Nat.zero_le _, fun j hj => absurd hj (Nat.not_lt_zero j)⟩, hw⟩) (fun k g hΦ => ?_)
   have hk := hΦ.1
   have hN := hΦ.2
   refine zK (zB (zC rfl (zC rfl (yM (pR hv) rfl rfl (yA rfl rfl rfl (zA (zT rfl (fun c2 => ?_) (fun c2 => ?_))))))))
   ·
    have hkl : k < l.length := by omega
    refine zI (zK (zX (zB (yP (cs := [Vi t.now, Vn t.cnt, bv, lv, rv, Vn 0, dv]) 0 rfl rfl rfl (zP rfl rfl (fun w' hw => (zFA t dn bv lv rv dv w' hL (by omega) (hw.rd0 hb) (hw.rd0 hlv) (hw.rd0 hr) (hw.rd0 hdv)).mono ?_))))))
    rintro _ w1 ⟨bv'1_, lv'2_, rv'3_, dv'4_, rfl, hO⟩
    refine (?_ : CL _ _ _ _ _ _ (Own w [] [Res.row b3 43 [Vi t.now, Vn t.cnt, bv, lv, rv, Vn 0, dv], Res.vec 105 2 bv'1_ t.bs.length (t.bs.flatMap BudD.cells), Res.vec 77 5 lv'2_ t.ls.length (t.ls.flatMap LeaD.cells), Res.vec 50 6 rv'3_ t.rs.length (t.rs.flatMap RepD.cells), Res.vec 4 1 dv'4_ dn.length (dn.flatMap B1)])) w1 (hw.frame0 hO)
    refine yG (v := .agg #[Vi 0, Vn 0, .slice none 0 0, .slice none 0 0, .slice none 0 0, Vn 0, .slice none 0 0]) (by kernel_rfl) rfl (fun b7 => ?_)
    refine yj (fun w' hw => Own.cell1Vec (i := 1) rfl hw) (fun hc1_ => ?_)
    refine yj (fun w' hw => Own.cell1Vec (i := 2) rfl hw) (fun hc2_ => ?_)
    refine yj (fun w' hw => Own.cell1Vec (i := 3) rfl hw) (fun hc3_ => ?_)
    refine yj (fun w' hw => Own.cell1Vec (i := 4) rfl hw) (fun hc4_ => ?_)
    refine zi 5 rfl rfl rfl (yC rfl (yC rfl (yC hc1_ (yC hc2_ (yC hc3_ (yC rfl (yC hc4_ zAP))))))) rfl (zA (zK (zB (zC rfl (zC rfl (yB (cs := [Vj k, Vi 0]) (z := [Vi 0, Vi 0]) (pl := [(0, 1), (1, 1)]) (by kernel_rfl) (by kernel_rfl) rfl (zP rfl rfl (fun w' hw => (zIk b7 bv'1_ lv'2_ rv'3_ dv'4_ v t dn l ({ call := ((k : Nat) : Int), delta := 0 } : MovD) w' hL hcw (by omega) (by first | omega | (simp <;> omega)) hd (show y6 0 by unfold y6; decide) (hw.give [5, 1, 2, 3, 4] rfl (by decide)) (hw.rdTo hv [5, 1, 2, 3, 4] rfl)).mono ?_))))))))
    rintro _ w1 ⟨bv'5_, lv'6_, rv'7_, t'8_, dn'9_, rfl, hf7_3, hO⟩
    refine (?_ : CL _ _ _ _ _ _ (Own w [] [Res.row b3 43 [Vi t.now, Vn t.cnt, bv, lv, rv, Vn 0, dv], Res.row b7 43 [Vi t'8_.now, Vn t'8_.cnt, bv'5_, lv'6_, rv'7_, Vn 0, dv'4_], Res.vec 105 2 bv'5_ t'8_.bs.length (t'8_.bs.flatMap BudD.cells), Res.vec 77 5 lv'6_ t'8_.ls.length (t'8_.ls.flatMap LeaD.cells), Res.vec 50 6 rv'7_ t'8_.rs.length (t'8_.rs.flatMap RepD.cells), Res.vec 4 1 dv'4_ dn'9_.length (dn'9_.flatMap B1)])) w1 (hw.frameL [5, 1, 2, 3, 4] rfl hO)
    refine kP rfl rfl rfl (zA (zT rfl (fun c3 => ?_) (fun c3 => ?_)))
    ·
     refine z8 rfl (zb (zC rfl (zt rfl rfl (zq (by omega)) rfl (zE rfl ?_))))
     exact ze (fun w' hw => ⟨k + 1, ⟨rfl, rfl, rfl, trivial⟩, ⟨hkl, kq hN (zEk c3)⟩, hw.sel [0] rfl (by decide), (by omega)⟩)
    ·
     have hz := Decidable.not_not.1 c3
     have hm := hf7_3 hz
     have hsub := zBu (s := ⟨t, dn⟩) hz hd
     have hcm := zC2 l ⟨t, dn⟩ ⟨(k : Int), 0⟩
     dsimp only at hsub hcm
     refine zI (zB (zC rfl (yP 1 rfl rfl rfl (zP rfl rfl (fun w' hw => (ih v bv'5_ lv'6_ rv'7_ dv'4_ l t'8_ dn'9_ w' (by rw [hm.1]; omega) hm.2.2 hcw (by rw [hm.1, hm.2.1]; omega) (by first | omega | (simp <;> omega)) (by rw [hm.1, zAn]; exact hd) (hw.rd0 hv) (hw.rdVec0 2 rfl) (hw.rdVec0 3 rfl) (hw.rdVec0 4 rfl) (hw.rdVec0 5 rfl)).mono ?_)))))
     rintro _ w1 ⟨ov10_, rl11_, found12_, rfl, hf8_2, hf8_2_1, hO⟩
     have hrl := hf8_2_1
     rw [hm.1] at hrl
     refine (?_ : CL _ _ _ _ _ _ (Own w [] [Res.row b3 43 [Vi t.now, Vn t.cnt, bv, lv, rv, Vn 0, dv], Res.row b7 43 [Vi t'8_.now, Vn t'8_.cnt, bv'5_, lv'6_, rv'7_, Vn 0, dv'4_], Res.vec 105 2 bv'5_ t'8_.bs.length (t'8_.bs.flatMap BudD.cells), Res.vec 77 5 lv'6_ t'8_.ls.length (t'8_.ls.flatMap LeaD.cells), Res.vec 50 6 rv'7_ t'8_.rs.length (t'8_.rs.flatMap RepD.cells), Res.vec 4 1 dv'4_ dn'9_.length (dn'9_.flatMap B1), Res.vec 3 1 ov10_ rl11_.length (rl11_.flatMap I1)])) w1 (hw.frame0 hO)
     refine zC rfl (zr (vs := [ov10_, .bool found12_]) rfl rfl rfl (zr (vs := [ov10_, .bool found12_]) rfl rfl rfl (zE rfl (zE rfl (zA (zB (zC rfl (zA (kp rfl (fun c4 => ?_) (fun c4 => ?_))))))))))
     ·
      refine zB (zC rfl (yl (e := 3) (sz := 1) (vs := [Vj k]) (by kernel_rfl) rfl rfl (by simp [Value.cells]) (by decide) rfl (fun b33 => zC rfl (yq (g := I1) (sz := 1) (by' := 8) (fun _ => rfl) (l := [((k : Nat) : Int)]) (l' := rl11_) (by simp [cell1, I1]) 7 (by kernel_rfl) rfl rfl rfl (fun w' hw' => Vec.sl (Own.holds hw' 6 _ rfl)) (by first | omega | (simp; omega)) (by decide) rfl (fun v35 => zE rfl (zE rfl (zA ?_)))))))
      exact zN (ye (v := v35) (v' := .bool true) rfl rfl rfl (fun w' hw => ⟨v35, [((k : Nat) : Int)] ++ rl11_, true, rfl, zEV hd c1 hN hkl hz hm.1 hm.2.1 hf8_2 c4, (by rw [List.length_append]; show 1 + _ ≤ _; omega), hw.sel [7] rfl (by decide)⟩))
     ·
      refine zI (zb (zC rfl (zt rfl rfl (zq (by omega)) rfl (zE rfl ?_))))
      exact ze (fun w' hw => ⟨k + 1, ⟨rfl, rfl, rfl, trivial⟩, ⟨hkl, kq hN (zFr hd hz hm.1 hm.2.1 hf8_2 c4)⟩, hw.sel [0] rfl (by decide), (by omega)⟩)
   ·
    refine z8 rfl (zB (zE rfl (zE rfl (zA ?_))))
    exact zN (ye (v := .slice none 0 0) (v' := .bool false) rfl rfl rfl (fun w' hw => ⟨.slice none 0 0, [], false, rfl, .inr ⟨by rw [kQ hd c1]; exact zCl fun j hj => hN j (by omega), rfl, rfl⟩, Nat.zero_le _, (yW hw 3 1).sel [1] rfl (by decide)⟩))
theorem zDk : ∀ n : Nat, zDs n
  | 0 => fun v bv lv rv dv l t dn w hn => absurd hn (Nat.not_lt_zero _)
  | n + 1 => fun v bv lv rv dv l t dn w hn hL hcw hc hl hd hv hb hlv hr hdv => zEC n (zDk n) v bv lv rv dv l t dn w hn hL hcw hc hl hd hv hb hlv hr hdv
theorem zFK (v bv lv rv dv : Value) (l : List CallD) (t : RL) (dn : List Bool) (w : World) (hL : LOkR t.now t.cnt t.bs t.ls t.rs) (hcw : ∀ c ∈ l, c.wf) (hc : t.cnt + yc dn ≤ 100000000) (hl : l.length ≤ 10000000) (hd : dn.length = l.length) (hv : Rd w [] (Res.sl v l.length (l.flatMap CallD.cells))) (hb : Rd w [] (Res.sl bv t.bs.length (t.bs.flatMap BudD.cells))) (hlv : Rd w [] (Res.sl lv t.ls.length (t.ls.flatMap LeaD.cells))) (hr : Rd w [] (Res.sl rv t.rs.length (t.rs.flatMap RepD.cells))) (hdv : Rd w [] (Res.sl dv dn.length (dn.flatMap B1))) : Rets Tryz.prog 10 #[v, .agg #[Vi t.now, Vn t.cnt, bv, lv, rv, Vn 0, dv]] w fun u_ w' => ∃ (ov : Value) (rl : List Int) (found : Bool), u_ = .tuple #[ov, .bool found] ∧ y0 l ⟨t, dn⟩ [] rl found ∧ rl.length ≤ yc dn ∧ Own w [] [Res.vec 3 1 ov rl.length (rl.flatMap I1)] w' := by
  exact zDk (yc dn + 1) v bv lv rv dv l t dn w (Nat.lt_succ_self _) hL hcw hc hl hd hv hb hlv hr hdv
end Go.Proofs.YtcdiehplbmkmeaaGreat
