import Derived.Test.YtkkeknmkipkbmaaGreatCoQ
set_option linter.unusedSectionVars false
set_option linter.unusedSimpArgs false
set_option linter.unusedVariables false
set_option maxRecDepth 10000
namespace Go.Proofs.YtkkeknmkipkbmaaGreat
open Go Go.Sc Go.Proofs
theorem zFq (cb jb : Nat) (t : TimD) (a : StA) (r : RolD) (b : StB) (yv : Value) (draw : Nat) (lv : Value) (es : List EntD) (ob : Nat) (o : OutD) (y : Option (Nat × LdD)) (yes : List Int) (m : MsgD) (w : World) (hg : (LG 0 0 es).good) (hl : es.length ≤ 100000) (hvl : b.vs.length ≤ 12) (hcm : 1 ≤ ((za b.vs (es.map EntD.toEntA)).vs ++ (za b.vs (es.map EntD.toEntA)).ls).length ∧ ((za b.vs (es.map EntD.toEntA)).vs ++ (za b.vs (es.map EntD.toEntA)).ls).length ≤ 12) (htm : (r.role = 3 → 1 ≤ t.term) ∧ t.term ≤ 4611686018427387904) (hen : (LG 0 0 es).end_ ≤ t.term) (hn : 0 ≤ t.now ∧ t.now ≤ 1000000000000000) (hh : 0 ≤ t.heard ∧ t.heard ≤ 1000000000000000) (ho : o.msgs.length ≤ 1000) (hrd : o.rdys.length ≤ 1000) (ha : a.ok) (hd : draw < 18446744073709551616) (hm : m.wf) (hro : r.role = 4 ↔ y.isSome = true) (hld : ∀ q, y = some q → q.2.bd) (hy : yes.length ≤ 1000) (hk : m.kind ≠ 7 ∧ m.kind ≠ 8) (hlo : o.losts.length = 0) (hmt : m.term ≤ 4611686018427387904) (hin : Own w (y8 [ze cb t (yf y) a r b yv jb draw (pt ob), Res.nl b lv es, Res.lo y, vI yv yes, Res.ou ob o]) [ze cb t (yf y) a r b yv jb draw (pt ob), Res.nl b lv es, Res.lo y, vI yv yes, Res.ou ob o] w) (rd_m : MsgD.rd m w (y8 [ze cb t (yf y) a r b yv jb draw (pt ob), Res.nl b lv es, Res.lo y, vI yv yes, Res.ou ob o])) : Rets Tryz.prog 48 #[pt cb, .agg (MsgD.cells m).toArray] w fun u_ w' => ∃ (n : NdD) (o' : OutD) (x : OutA), u_ = .tuple #[] ∧ (n.a, x) = xn a b.vs draw m.a { t := t, r := r, E := es.map EntD.toEntA, ld := y.map fun q => q.2.er, yes := yes } ∧ o'.msgs.map MsgD.a = o.msgs.map MsgD.a ++ x.ms ∧ o'.rdys = o.rdys ++ x.rdys ∧ o'.losts = x.losts ∧ Own w (y8 [ze cb t (yf y) a r b yv jb draw (pt ob), Res.nl b lv es, Res.lo y, vI yv yes, Res.ou ob o]) [ze cb n.t (yf n.y) a n.r b n.yv jb draw (pt ob), Res.nl b n.lv n.es, Res.lo n.y, vI n.yv n.yes, Res.ou ob o'] w' := by
  by_cases k1 : m.kind = 1
  · exact zH1 cb jb t a r b yv draw lv es ob o y yes m w hg hl hvl hcm htm hen hn hh ho hrd ha hd hm hro hld hy k1 hlo hmt hin rd_m
  · exact zJc cb jb t a r b yv draw lv es ob o y yes m w hg hl hvl hcm htm hen hn hh ho hrd ha hd hm hro hld hy ⟨k1, hk.1, hk.2⟩ hlo hmt hin rd_m
def atF (now : Int) (n : NodA) : NodA := { n with t := { n.t with now := max n.t.now now } }
def zEk (a : StA) (m : MsgA) : Prop := m.ok ∧ m.dst = a.id ∧ m.src ≠ a.id ∧ max (max m.term m.index) m.logTerm ≤ 4611686018427387904
instance (a : StA) (m : MsgA) : Decidable (zEk a m) := inferInstanceAs (Decidable (_ ∧ _))
def jU (a : StA) (vs0 : List Int) (now : Int) (draw : Nat) (m : MsgA) (n : NodA) : NodA × OutA := if zEk a m then xn a vs0 draw m (atF now n) else (n, ⟨[], [], []⟩)
theorem zJM {S : List Nat} (cb jb : Nat) (t : TimD) (a : StA) (r : RolD) (b : StB) (yv : Value) (draw : Nat) (lv : Value) (es : List EntD) (y : Option (Nat × LdD)) (yes : List Int) (m : MsgD) (now : Int) (dr : Nat) (w : World) (hg : (LG 0 0 es).good) (hl : es.length ≤ 100000) (hvl : b.vs.length ≤ 12) (hcm : 1 ≤ ((za b.vs (es.map EntD.toEntA)).vs ++ (za b.vs (es.map EntD.toEntA)).ls).length ∧ ((za b.vs (es.map EntD.toEntA)).vs ++ (za b.vs (es.map EntD.toEntA)).ls).length ≤ 12) (hH : HandOk t r y yes (LG 0 0 es).end_) (ha : a.ok) (hnw : 0 ≤ now ∧ now ≤ 1000000000000000) (hm : m.wf) (hd : dr < 18446744073709551616) (hk : m.kind ≠ 7 ∧ m.kind ≠ 8) (hin : Own w S [ze cb t (yf y) a r b yv jb draw (.pointer none), Res.nl b lv es, Res.lo y, vI yv yes] w) (rd_m : MsgD.rd m w S) : Rets Tryz.prog 16 #[pt cb, .agg (MsgD.cells m).toArray, Vi now, Vn dr] w fun u_ w' => ∃ (n : NdD) (draw' : Nat) (o : OutD) (x : OutA), u_ = .agg (OutD.cells o).toArray ∧ (n.a, x) = jU a b.vs now dr m.a { t := t, r := r, E := es.map EntD.toEntA, ld := y.map fun q => q.2.er, yes := yes } ∧ o.msgs.map MsgD.a = x.ms ∧ o.rdys = x.rdys ∧ o.losts = x.losts ∧ Own w S [ze cb n.t (yf n.y) a n.r b n.yv jb draw' (.pointer none), Res.nl b n.lv n.es, Res.lo n.y, vI n.yv n.yes, vM o.mv o.msgs, sM o.msgs, vR o.rv o.rdys, vU o.xv o.losts] w' := by
  have hHt := hH.htm
  have hHn := hH.hn
  refine zT Tryz.func16 rfl Tryz.ntmps16 hin ?_
  refine zB (z7 rfl rfl (fun b5 => yS (v := .agg #[.slice none 0 0, .bool false, .slice none 0 0, .slice none 0 0]) (by kernel_rfl) rfl (fun b8 => zA (zQ (zB (zD rfl (xy (by kernel_rfl) rfl rfl rfl (zA (x8 rfl (zR (zQ (zB ?_))))))))))))
  refine yY (cs := (MsgD.cells m)) 4 rfl rfl rfl (zH rfl rfl (fun w' hw => (zGT m w' ‹_› (rd_m.at0 hw)).mono ?_))
  rintro _ w1 ⟨r1_, rfl, hO⟩
  refine (?_ : CL _ _ _ _ _ _ (Own w S [ze cb t (yf y) a r b yv jb draw (.pointer none), Res.nl b lv es, Res.lo y, vI yv yes, Res.row b5 59 (MsgD.cells m), Res.row b8 44 [.slice none 0 0, .bool false, .slice none 0 0, .slice none 0 0], vY r1_ (if m.a.ok then m.a.enc else [])])) w1 (hw.frame0 hO)
  refine zD rfl (yE (vs := [r1_, Vi (yC m.a.ok)]) rfl rfl rfl (yE (vs := [r1_, Vi (yC m.a.ok)]) rfl rfl rfl (zK rfl (zK rfl (zA (yV (by kernel_rfl) (by kernel_rfl) (zL rfl (zU) (zL rfl (zFv rfl rfl) (zL rfl (zU) (zEj (q := (yC m.a.ok) ≠ 0) 7 2 [28, 27, 26, 25, 24, 23, 22] (m.dst ≠ a.id) rfl rfl rfl rfl rfl rfl trivial rfl (fun h4_2 => ?_) (fun g4_10 => ?_)))))))))))
  ·
   refine ym rfl (gF h4_2) (zL rfl (zI (o := 2) rfl) (ym rfl (gF h4_2) (zL rfl (zb 4 (v := Vi m.dst) rfl rfl rfl) (ym rfl (gF h4_2) (zL rfl (zU) (ym rfl (gF h4_2) (zL rfl (zP rfl) (ym rfl (gF h4_2) (zL rfl (zI (o := 10) rfl) (ym rfl (gF h4_2) (zL rfl (zb 0 (v := Vi a.id) rfl rfl rfl) (ym rfl (gF h4_2) ?_))))))))))))
   refine zL rfl (zFv rfl rfl) ?_
   exact zCM rfl
  refine zL rfl (zU) (zEj (q := ((yC m.a.ok) ≠ 0) ∨ (m.dst ≠ a.id)) 7 11 [37, 36, 35, 34, 33, 32, 31] (m.src = a.id) rfl rfl rfl rfl rfl rfl trivial rfl (fun h4_11 => ?_) (fun g4_19 => ?_))
  ·
   refine ym rfl (gF h4_11) (zL rfl (zI (o := 1) rfl) (ym rfl (gF h4_11) (zL rfl (zb 4 (v := Vi m.src) rfl rfl rfl) (ym rfl (gF h4_11) (zL rfl (zU) (ym rfl (gF h4_11) (zL rfl (zP rfl) (ym rfl (gF h4_11) (zL rfl (zI (o := 10) rfl) (ym rfl (gF h4_11) (zL rfl (zb 0 (v := Vi a.id) rfl rfl rfl) (ym rfl (gF h4_11) ?_))))))))))))
   refine zL rfl (zAw rfl rfl) ?_
   exact zCM rfl
  refine zL rfl (zU) (zEj (q := (((yC m.a.ok) ≠ 0) ∨ (m.dst ≠ a.id)) ∨ (m.src = a.id)) 8 20 [47, 46, 45, 44, 43, 42, 41, 40] (((4611686018427387904 : Nat) : Int) < ((max (max m.term m.index) m.logTerm : Nat) : Int)) rfl rfl rfl rfl rfl rfl trivial rfl (fun h4_20 => ?_) (fun g4_29 => ?_))
  ·
   refine ym rfl (gF h4_20) (zL rfl (zI (o := 3) rfl) (ym rfl (gF h4_20) (zL rfl (zb 4 (v := Vn m.term) rfl rfl rfl) (ym rfl (gF h4_20) (zL rfl (zI (o := 4) rfl) (ym rfl (gF h4_20) (zL rfl (zb 4 (v := Vn m.index) rfl rfl rfl) (ym rfl (gF h4_20) (zL rfl (zI (o := 5) rfl) (ym rfl (gF h4_20) (zL rfl (zb 4 (v := Vn m.logTerm) rfl rfl rfl) (ym rfl (gF h4_20) ?_))))))))))))
   refine zL rfl (zHN (c := ((max (max m.term m.index) m.logTerm : Nat) : Int)) rfl rfl rfl (zKz _ _ _)) (ym rfl (gF h4_20) (zL rfl (zBQ rfl rfl) ?_))
   exact zCM rfl
  refine xN (zf rfl (fun c2 => ?_) (fun c2 => ?_))
  ·
   have hP : ¬ zEk a m.a := fun q => by rcases c2 with ((h | h) | h) | h; (exact h (by unfold yC; rw [if_pos q.1])); (exact h q.2.1); (exact q.2.2.1 h); (have h2 : max (max m.term m.index) m.logTerm ≤ 4611686018427387904 := q.2.2.2; omega)
   refine zB (yc (cs := [.slice none 0 0, .bool false, .slice none 0 0, .slice none 0 0]) (z := [.slice none 0 0, .bool false, .slice none 0 0, .slice none 0 0]) (pl := [(0, 1), (1, 1), (2, 1), (3, 1)]) (by kernel_rfl) (by kernel_rfl) rfl (yH 5 rfl rfl rfl (xx rfl) rfl (zA ?_)))
   exact zY (jt (cs := [.slice none 0 0, .bool false, .slice none 0 0, .slice none 0 0]) rfl rfl (by kernel_rfl) (Own.rowCells (i := 5) rfl) (fun w' hw => ⟨({ t := t, r := r, lv := lv, es := es, y := y, yv := yv, yes := yes } : NdD), draw, outZ, ⟨[], [], []⟩, rfl, (by unfold jU; rw [if_neg hP]; rfl), rfl, rfl, rfl, (zt (zt (Own.starNil (zt hw 59 14)) 53 2) 22 1).sel [0, 1, 2, 3, 7, 8, 9, 10] rfl (by decide)⟩))
  ·
   have h4 : max (max m.term m.index) m.logTerm ≤ 4611686018427387904 := by have h5 := fun q => c2 (.inr q); omega
   have hP : zEk a m.a := ⟨Decidable.byContradiction fun q => c2 (.inl (.inl (.inl (by unfold yC; rw [if_neg q]; decide)))), Decidable.byContradiction fun q => c2 (.inl (.inl (.inr q))), fun q => c2 (.inl (.inr q)), h4⟩
   refine zR (zB (zD rfl (zD rfl (zD rfl (zH rfl rfl (fun w' hw => (zCX cb jb t a r b (yf y) yv (.pointer none) draw now dr w' (hw.give [0] rfl (by decide))).mono ?_))))))
   rintro _ w1 ⟨ob2_, rfl, hO⟩
   refine (?_ : CL _ _ _ _ _ _ (Own w S [Res.nl b lv es, Res.lo y, vI yv yes, Res.row b5 59 (MsgD.cells m), Res.row b8 44 [.slice none 0 0, .bool false, .slice none 0 0, .slice none 0 0], vY r1_ (if m.a.ok then m.a.enc else []), ze cb ({ t with now := max t.now now } : TimD) (yf y) a r b yv jb dr (pt ob2_), Res.ou ob2_ outZ])) w1 (hw.frameL [0] rfl hO)
   refine zA (zB (zD rfl (yY (cs := (MsgD.cells m)) 3 rfl rfl rfl (zH rfl rfl (fun w' hw => (zFq cb jb ({ t with now := max t.now now } : TimD) a r b yv dr _ _ ob2_ outZ _ yes m w' ‹_› (by first | omega | (simp <;> omega)) (by first | omega | (simp <;> omega)) (by first | omega | (simp <;> omega) | (constructor <;> (first | omega | (simp <;> omega)))) hH.htm hH.hen (by show 0 ≤ max t.now now ∧ max t.now now ≤ _; omega) hH.hh (Nat.zero_le _) (Nat.zero_le _) ‹_› hd hm hH.hro hH.hld hH.hy hk rfl (by omega) (hw.give [6, 0, 1, 2, 7] rfl (by decide)) (rd_m.at hw [6, 0, 1, 2, 7] rfl)).mono ?_)))))
   rintro _ w1 ⟨n3_, o'4_, x5_, rfl, hf7_2, hf7_2_1, hf7_2_2, hf7_2_3, hO⟩
   refine (?_ : CL _ _ _ _ _ _ (Own w S [Res.row b5 59 (MsgD.cells m), Res.row b8 44 [.slice none 0 0, .bool false, .slice none 0 0, .slice none 0 0], vY r1_ (if m.a.ok then m.a.enc else []), ze cb n3_.t (yf n3_.y) a n3_.r b n3_.yv jb dr (pt ob2_), Res.nl b n3_.lv n3_.es, Res.lo n3_.y, vI n3_.yv n3_.yes, Res.ou ob2_ o'4_])) w1 (hw.frameL [6, 0, 1, 2, 7] rfl hO)
   refine zA (zB (zD rfl (zH rfl rfl (fun w' hw => (zDF cb jb n3_.t a n3_.r b (yf n3_.y) n3_.yv dr ob2_ o'4_ w' (hw.give [3, 7] rfl (by decide))).mono ?_))))
   rintro _ w1 ⟨rfl, hO⟩
   refine (?_ : CL _ _ _ _ _ _ (Own w S [Res.row b5 59 (MsgD.cells m), Res.row b8 44 [.slice none 0 0, .bool false, .slice none 0 0, .slice none 0 0], vY r1_ (if m.a.ok then m.a.enc else []), Res.nl b n3_.lv n3_.es, Res.lo n3_.y, vI n3_.yv n3_.yes, ze cb n3_.t (yf n3_.y) a n3_.r b n3_.yv jb dr (.pointer none), vM o'4_.mv o'4_.msgs, sM o'4_.msgs, vR o'4_.rv o'4_.rdys, vU o'4_.xv o'4_.losts])) w1 (hw.frameL [3, 7] rfl hO)
   refine zg (fun w' hw => Own.cell1Vec (i := 7) rfl hw) (fun hc1_ => ?_)
   refine zg (fun w' hw => Own.cell1Vec (i := 9) rfl hw) (fun hc2_ => ?_)
   refine zg (fun w' hw => Own.cell1Vec (i := 10) rfl hw) (fun hc3_ => ?_)
   refine yH 1 rfl rfl rfl (zF hc1_ (zF rfl (zF hc2_ (zF hc3_ zw)))) rfl (zA ?_)
   exact zY (jt (cs := (OutD.cells o'4_)) rfl rfl (by kernel_rfl) (Own.rowCells (i := 1) rfl) (fun w' hw => ⟨n3_, dr, o'4_, x5_, rfl, (by unfold jU; rw [if_pos hP]; exact hf7_2), (hf7_2_1.trans (List.nil_append _)), (hf7_2_2.trans (List.nil_append _)), hf7_2_3, hw.sel [6, 3, 4, 5, 7, 8, 9, 10] rfl (by decide)⟩))
end Go.Proofs.YtkkeknmkipkbmaaGreat
