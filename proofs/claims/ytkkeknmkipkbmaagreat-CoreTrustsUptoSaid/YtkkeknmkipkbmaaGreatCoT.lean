import Derived.Test.YtkkeknmkipkbmaaGreatCoR
set_option linter.unusedSectionVars false
set_option linter.unusedSimpArgs false
set_option linter.unusedVariables false
set_option maxRecDepth 10000
namespace Go.Proofs.YtkkeknmkipkbmaaGreat
open Go Go.Sc Go.Proofs
def zEZ (a : StA) (vs0 : List Int) (n : NodA) (l : LdD) : NodA × List MsgA :=
  ({ n with t := { n.t with beaten := n.t.now }, ld := some { l with peers := l.peers.map (fun q => (q.1, z5 n.E q.2)), rounds := l.rounds ++ [n.t.now], sure := if (za vs0 n.E).quorum [a.id] then l.rounds.length + 1 else l.sure } }, zAH (ju a n.t.term n.r.commit (l.rounds.length + 1) n.E) l.peers)
def zDW (a : StA) (vs0 : List Int) (n : NodA) (l : LdD) : NodA × OutA :=
  let l1 := if n.t.gd ≤ n.t.now then { l with give := 0 } else l
  if n.t.beaten + a.beat ≤ n.t.now then zBs (zEZ a vs0 n l1) else ({ n with ld := some l1 }, ⟨[], [], []⟩)
def ka (a : StA) (vs0 : List Int) (draw : Nat) (n : NodA) (l : LdD) : NodA × OutA :=
  let t1 := if (za vs0 n.E).quorum [a.id] then { n.t with heard := n.t.now } else n.t
  if n.t.checked + a.base ≤ n.t.now then
    if ¬ (za vs0 n.E).quorum (l.answered ++ [a.id]) then ({ n with t := { t1 with due := n.t.now + yl a draw }, r := ⟨1, 0, n.r.commit⟩, ld := none, yes := [] }, ⟨[], [], l.looks.map LookM.id⟩)
    else zDW a vs0 { n with t := { t1 with checked := n.t.now } } { l with answered := [] }
  else zDW a vs0 { n with t := t1 } l
theorem zE0 {a : StA} {vs0 : List Int} {t2 : TimD} {r : RolD} {lv yv rv : Value} {es : List EntD} {ld : Nat} {l3 : LdD} {yes : List Int} {x : Option LdD} : ((({ t := { t2 with beaten := t2.now }, r := r, lv := lv, es := es, y := some (ld, { l3 with peers := l3.peers.map fun q => (q.1, z5 (es.map EntD.toEntA) q.2), rv := rv, rounds := l3.rounds ++ [t2.now], sure := if (za vs0 (es.map EntD.toEntA)).quorum [a.id] then l3.rounds.length + 1 else l3.sure }), yv := yv, yes := yes } : NdD).a, zAH (ju a t2.term r.commit (l3.rounds.length + 1) (es.map EntD.toEntA)) l3.peers) : NodA × List MsgA) = zEZ a vs0 { t := t2, r := r, E := es.map EntD.toEntA, ld := x, yes := yes } l3.er := by
  unfold zEZ NdD.a LdD.er
  dsimp only
  rw [zEh, Option.map_some, zG3]
theorem zHD {S : List Nat} (cb jb : Nat) (t : TimD) (a : StA) (r : RolD) (b : StB) (yv : Value) (draw : Nat) (lv : Value) (es : List EntD) (ob : Nat) (o : OutD) (ld : Nat) (l : LdD) (yes : List Int) (w : World) (hg : (LG 0 0 es).good) (hl : es.length ≤ 100000) (hvl : b.vs.length ≤ 12) (hn : 0 ≤ t.now ∧ t.now ≤ 1000000000000000) (hbt : 0 ≤ t.beaten ∧ t.beaten ≤ 1000000000000000) (hck : 0 ≤ t.checked ∧ t.checked ≤ 1000000000000000) (ho : o.msgs.length ≤ 1000) (hlo : o.losts.length = 0) (ha : a.ok) (hd : draw < 18446744073709551616) (hb : l.bd) (hin : Own w S [ze cb t (pt ld) a r b yv jb draw (pt ob), Res.nl b lv es, Res.ld ld l, Res.ou ob o, vI yv yes] w) : Rets Tryz.prog 34 #[pt cb] w fun u_ w' => ∃ (n : NdD) (o' : OutD) (x : OutA), u_ = .tuple #[] ∧ (n.a, x) = ka a b.vs draw { t := t, r := r, E := es.map EntD.toEntA, ld := some l.er, yes := yes } l.er ∧ o'.msgs.map MsgD.a = o.msgs.map MsgD.a ++ x.ms ∧ o'.rdys = o.rdys ++ x.rdys ∧ o'.losts = x.losts ∧ Own w S [ze cb n.t (yf n.y) a n.r b n.yv jb draw (pt ob), Res.nl b n.lv n.es, Res.lo n.y, vI n.yv n.yes, Res.ou ob o'] w' := by
  have hbp := hb.peers
  have hba := hb.answered
  have hbr := hb.rounds
  have hbk := hb.looks
  have hw1 := kL (draw := draw) ha
  have hbs := ha.base
  have hbe := ha.beat
  have hlb := (LG.le hg).1
  refine zT Tryz.func34 rfl Tryz.ntmps34 hin ?_
  refine xD (fun (t1 : TimD) => [(0, pt cb)]) (fun (t1 : TimD) => t1 = if (za b.vs (es.map EntD.toEntA)).quorum [a.id] then { t with heard := t.now } else t) (fun (t1 : TimD) => [ze cb t1 (pt ld) a r b yv jb draw (pt ob), Res.nl b lv es, Res.ld ld l, Res.ou ob o, vI yv yes]) ?_ (fun t1 g hΦ => ?_)
  ·
   refine zB (zD rfl (zH rfl rfl (fun w' hw => (j8 cb jb t a r b (pt ld) yv (pt ob) draw _ _ w' ‹_› (by first | omega | (simp <;> omega)) (by first | omega | (simp <;> omega)) (hw.give [0, 1] rfl (by decide))).mono ?_)))
   rintro _ w1 ⟨rfl, hO⟩
   refine (?_ : CL _ _ _ _ _ _ (Own w S [Res.ld ld l, Res.ou ob o, vI yv yes, ze cb t (pt ld) a r b yv jb draw (pt ob), Res.nl b lv es])) w1 (hw.frameL [0, 1] rfl hO)
   refine zA (zf rfl (fun c1 => ?_) (fun c1 => ?_))
   ·
    refine zW (zD rfl (zD rfl (zh rfl rfl (zJ (o := 2) rfl rfl (zJ (o := 0) rfl rfl (zM 3 (v := Vi t.now) rfl rfl rfl rfl (zh rfl rfl (zJ (o := 2) rfl rfl (zJ (o := 1) rfl rfl (zo 3 rfl rfl rfl rfl rfl ?_))))))))))
    exact zj (fun w' hw => ⟨({ t with heard := t.now } : TimD), ⟨rfl, trivial⟩, (if_pos c1).symm, hw.sel [3, 4, 0, 1, 2] rfl (by decide)⟩)
   ·
    exact yk (fun w' hw => ⟨t, ⟨rfl, trivial⟩, (if_neg c1).symm, hw.sel [3, 4, 0, 1, 2] rfl (by decide)⟩)
  have ht1 := hΦ
  have e1 : (t1.now = t.now ∧ t1.checked = t.checked) ∧ t1.beaten = t.beaten := by rw [ht1]; split <;> exact ⟨⟨rfl, rfl⟩, rfl⟩
  refine zCj (fun (t2 : TimD) (l2 : LdD) => [(0, pt cb)]) (fun (t2 : TimD) (l2 : LdD) => ka a b.vs draw { t := t, r := r, E := es.map EntD.toEntA, ld := some l.er, yes := yes } l.er = zDW a b.vs { t := t2, r := r, E := es.map EntD.toEntA, ld := some l.er, yes := yes } l2.er ∧ (t2.now = t.now ∧ t2.beaten = t.beaten) ∧ l2.bd) (fun (t2 : TimD) (l2 : LdD) => [ze cb t2 (pt ld) a r b yv jb draw (pt ob), Res.nl b lv es, Res.ld ld l2, Res.ou ob o, vI yv yes]) ?_ (fun t2 l2 g hΦ => ?_)
  ·
   refine yV (by kernel_rfl) (by kernel_rfl) (zL rfl (zU) (zL rfl (zP rfl) (zL rfl (zI (o := 2) rfl) (zL rfl (zI (o := 0) rfl) (zL rfl (zb 0 (v := Vi t1.now) rfl rfl rfl) (zL rfl (zU) (zL rfl (zP rfl) (zL rfl (zI (o := 2) rfl) (zL rfl (zI (o := 4) rfl) (zL rfl (zb 0 (v := Vi t1.checked) rfl rfl rfl) (zL rfl (zU) (zL rfl (zP rfl) ?_))))))))))))
   refine zL rfl (zI (o := 11) rfl) (zL rfl (zI (o := 4) rfl) (zL rfl (zb 0 (v := Vi a.base) rfl rfl rfl) (zL rfl (yw rfl rfl (zy (by omega))) (zL rfl (zEg rfl rfl) (xN (zf rfl (fun c2 => ?_) (fun c2 => ?_)))))))
   ·
    have hc2 : t.checked + a.base ≤ t.now := by omega
    refine zQ (xD (fun (zz : Bool) => [(0, pt cb), (46, .bool zz)]) (fun (zz : Bool) => zz = true ↔ ¬ (za b.vs (es.map EntD.toEntA)).quorum (l.answered ++ [a.id])) (fun (zz : Bool) => [ze cb t1 (pt ld) a r b yv jb draw (pt ob), Res.nl b lv es, Res.ld ld l, Res.ou ob o, vI yv yes]) ?_ (fun zz g hΦ => ?_))
    ·
     refine zk [0, 1, 3, 4] rfl (by decide) (by kernel_rfl) (fun w' hw hS => zC 0 rfl (zU) hS (zC 2 rfl (zU) hS (zC 3 rfl (zP rfl) hS (zC 4 rfl (zI (o := 9) rfl) hS (zC 5 rfl (zb 0 (v := pt ld) rfl rfl rfl) hS (zC 6 rfl (zP rfl) hS (zC 7 rfl (zI (o := 1) rfl) hS (zC 9 rfl (zU) hS (zC 10 rfl (zP rfl) hS (zC 11 rfl (zI (o := 10) rfl) hS (zC 12 rfl (zb 0 (v := Vi a.id) rfl rfl rfl) hS (zId (i := 1) (j := 8) (k := 13) (by kernel_rfl) ?_ ?_ ?_))))))))))))
     ·
      refine zr 1 rfl hw (zH rfl rfl (fun w' hw => (xW cb jb t1 a r b (pt ld) yv (pt ob) draw _ _ w' ‹_› (by first | omega | (simp <;> omega)) (by first | omega | (simp <;> omega)) (hw.give [0, 1] rfl (by decide))).mono ?_))
      rintro _ w1 ⟨cv1_, cw2_, F3_, rfl, hf3_1, hO⟩
      have hFl : F3_.vs.length ≤ 1000 ∧ F3_.ls.length ≤ 1000 := by rw [hf3_1]; exact yi (by omega)
      refine (?_ : CL _ _ _ _ _ _ (Own w S [Res.ld ld l, Res.ou ob o, vI yv yes, ze cb t1 (pt ld) a r b yv jb draw (pt ob), Res.nl b lv es, vI cv1_ F3_.vs, vI cw2_ F3_.ls])) w1 (hw.frameL [0, 1] rfl hO)
      refine zE [3, 4, 1, 2] rfl (by decide) (fun w' hw hS => yA 8 13 ?_ ?_)
      ·
       refine zr 8 rfl hw (z6 (v := l.av) 0 0 1 rfl rfl rfl rfl (by kernel_rfl) rfl (zE [3, 4, 1, 2] rfl (by decide) (fun w' hw hS => zN 13 rfl hw (z4 (e := 3) (sz := 1) (vs := [Vi a.id]) (by kernel_rfl) rfl rfl (by simp [Value.cells]) (by decide) rfl (fun b43 => zE [3, 4, 1, 2] rfl (by decide) (fun w' hw hS => zN 14 rfl hw ?_))))))
       refine zx [Res.ou ob o, vI yv yes, ze cb t1 (pt ld) a r b yv jb draw (pt ob), Res.nl b lv es, vI cv1_ F3_.vs, vI cw2_ F3_.ls, vI (.slice (some ⟨b43, 0, none⟩) 1 1) [a.id], yB ld l, vP l.pv l.peers, sP l.peers, vI l.av l.answered, vT l.rv l.rounds, vL l.kv l.looks] (fun w' hw => hw.starOpen 0 rfl) ?_
       refine jW (g := I1) (sz := 1) (by' := 8) (fun _ => rfl) (l := l.answered) (l' := [a.id]) (by simp [cell1, I1]) 10 (by kernel_rfl) rfl rfl rfl (fun w' hw' => Vec.sl (Own.holds hw' 6 _ rfl)) (by first | omega | (simp <;> omega)) (by decide) (by simp) rfl (fun v44 hb44_ hk44_ => ?_) (fun v44 => ?_)
       ·
        refine zE [2, 3, 0, 1] rfl (by decide) (fun w' hw hS => zN 15 rfl hw (zH rfl rfl (fun w' hw => (yu ({ vv := cv1_, vs := F3_.vs, lv := cw2_, ls := F3_.ls } : ConfD) v44 (l.answered ++ [a.id]) w' (by first | assumption | omega | (simp <;> omega) | (constructor <;> (first | omega | (simp only [zd]; omega) | (simp <;> omega)))) (by first | assumption | omega | (simp <;> omega) | (constructor <;> (first | omega | (simp only [zd]; omega) | (simp <;> omega)))) (hw.rdVec0 10 rfl) ⟨(hw.rdVec0 4 rfl), (hw.rdVec0 5 rfl)⟩).mono ?_)))
        rintro _ w1 ⟨rfl, hO⟩
        refine (?_ : CL _ _ _ _ _ _ (Own w S [Res.ou ob o, vI yv yes, ze cb t1 (pt ld) a r b yv jb draw (pt ob), Res.nl b lv es, vI cv1_ F3_.vs, vI cw2_ F3_.ls, vI (.slice (some ⟨b43, 0, none⟩) 1 1) [a.id], yB ld l, vP l.pv l.peers, sP l.peers, vI v44 (l.answered ++ [a.id]), vT l.rv l.rounds, vL l.kv l.looks])) w1 (hw.frame0 hO)
        refine zE [2, 3, 0, 1] rfl (by decide) (fun w' hw hS => zC 16 rfl (xX (q := ({ vv := cv1_, vs := F3_.vs, lv := cw2_, ls := F3_.ls } : ConfD).quorum (l.answered ++ [a.id])) rfl) hS (zX ?_))
        exact ⟨decide (¬ (za b.vs (es.map EntD.toEntA)).quorum (l.answered ++ [a.id])), ⟨rfl, (congrArg Value.bool (decide_eq_decide.2 (by rw [← hf3_1]; exact Iff.rfl))), trivial⟩, decide_eq_true_iff, ((Own.vecBack 10 hb44_ hk44_ rfl hw).starShut [7, 8, 9, 10, 11, 12] rfl (by decide)).sel [2, 3, 7, 0, 1] rfl (by decide)⟩
       ·
        refine zE [2, 3, 0, 1] rfl (by decide) (fun w' hw hS => zN 15 rfl hw (zH rfl rfl (fun w' hw => (yu ({ vv := cv1_, vs := F3_.vs, lv := cw2_, ls := F3_.ls } : ConfD) v44 (l.answered ++ [a.id]) w' (by first | assumption | omega | (simp <;> omega) | (constructor <;> (first | omega | (simp only [zd]; omega) | (simp <;> omega)))) (by first | assumption | omega | (simp <;> omega) | (constructor <;> (first | omega | (simp only [zd]; omega) | (simp <;> omega)))) (hw.rdVec0 13 rfl) ⟨(hw.rdVec0 4 rfl), (hw.rdVec0 5 rfl)⟩).mono ?_)))
        rintro _ w1 ⟨rfl, hO⟩
        refine (?_ : CL _ _ _ _ _ _ (Own w S [Res.ou ob o, vI yv yes, ze cb t1 (pt ld) a r b yv jb draw (pt ob), Res.nl b lv es, vI cv1_ F3_.vs, vI cw2_ F3_.ls, vI (.slice (some ⟨b43, 0, none⟩) 1 1) [a.id], yB ld l, vP l.pv l.peers, sP l.peers, vI l.av l.answered, vT l.rv l.rounds, vL l.kv l.looks, vI v44 (l.answered ++ [a.id])])) w1 (hw.frame0 hO)
        refine zE [2, 3, 0, 1] rfl (by decide) (fun w' hw hS => zC 16 rfl (xX (q := ({ vv := cv1_, vs := F3_.vs, lv := cw2_, ls := F3_.ls } : ConfD).quorum (l.answered ++ [a.id])) rfl) hS (zX ?_))
        exact ⟨decide (¬ (za b.vs (es.map EntD.toEntA)).quorum (l.answered ++ [a.id])), ⟨rfl, (congrArg Value.bool (decide_eq_decide.2 (by rw [← hf3_1]; exact Iff.rfl))), trivial⟩, decide_eq_true_iff, (hw.starShut [7, 8, 9, 10, 11, 12] rfl (by decide)).sel [2, 3, 8, 0, 1] rfl (by decide)⟩
      ·
       refine zr 13 rfl hw (z4 (e := 3) (sz := 1) (vs := [Vi a.id]) (by kernel_rfl) rfl rfl (by simp [Value.cells]) (by decide) rfl (fun b43 => zE [3, 4, 1, 2] rfl (by decide) (fun w' hw hS => zN 8 rfl hw (z6 (v := l.av) 0 0 1 rfl rfl rfl rfl (by kernel_rfl) rfl (zE [3, 4, 1, 2] rfl (by decide) (fun w' hw hS => zN 14 rfl hw ?_))))))
       refine zx [Res.ou ob o, vI yv yes, ze cb t1 (pt ld) a r b yv jb draw (pt ob), Res.nl b lv es, vI cv1_ F3_.vs, vI cw2_ F3_.ls, vI (.slice (some ⟨b43, 0, none⟩) 1 1) [a.id], yB ld l, vP l.pv l.peers, sP l.peers, vI l.av l.answered, vT l.rv l.rounds, vL l.kv l.looks] (fun w' hw => hw.starOpen 0 rfl) ?_
       refine jW (g := I1) (sz := 1) (by' := 8) (fun _ => rfl) (l := l.answered) (l' := [a.id]) (by simp [cell1, I1]) 10 (by kernel_rfl) rfl rfl rfl (fun w' hw' => Vec.sl (Own.holds hw' 6 _ rfl)) (by first | omega | (simp <;> omega)) (by decide) (by simp) rfl (fun v44 hb44_ hk44_ => ?_) (fun v44 => ?_)
       ·
        refine zE [2, 3, 0, 1] rfl (by decide) (fun w' hw hS => zN 15 rfl hw (zH rfl rfl (fun w' hw => (yu ({ vv := cv1_, vs := F3_.vs, lv := cw2_, ls := F3_.ls } : ConfD) v44 (l.answered ++ [a.id]) w' (by first | assumption | omega | (simp <;> omega) | (constructor <;> (first | omega | (simp only [zd]; omega) | (simp <;> omega)))) (by first | assumption | omega | (simp <;> omega) | (constructor <;> (first | omega | (simp only [zd]; omega) | (simp <;> omega)))) (hw.rdVec0 10 rfl) ⟨(hw.rdVec0 4 rfl), (hw.rdVec0 5 rfl)⟩).mono ?_)))
        rintro _ w1 ⟨rfl, hO⟩
        refine (?_ : CL _ _ _ _ _ _ (Own w S [Res.ou ob o, vI yv yes, ze cb t1 (pt ld) a r b yv jb draw (pt ob), Res.nl b lv es, vI cv1_ F3_.vs, vI cw2_ F3_.ls, vI (.slice (some ⟨b43, 0, none⟩) 1 1) [a.id], yB ld l, vP l.pv l.peers, sP l.peers, vI v44 (l.answered ++ [a.id]), vT l.rv l.rounds, vL l.kv l.looks])) w1 (hw.frame0 hO)
        refine zE [2, 3, 0, 1] rfl (by decide) (fun w' hw hS => zC 16 rfl (xX (q := ({ vv := cv1_, vs := F3_.vs, lv := cw2_, ls := F3_.ls } : ConfD).quorum (l.answered ++ [a.id])) rfl) hS (zX ?_))
        exact ⟨decide (¬ (za b.vs (es.map EntD.toEntA)).quorum (l.answered ++ [a.id])), ⟨rfl, (congrArg Value.bool (decide_eq_decide.2 (by rw [← hf3_1]; exact Iff.rfl))), trivial⟩, decide_eq_true_iff, ((Own.vecBack 10 hb44_ hk44_ rfl hw).starShut [7, 8, 9, 10, 11, 12] rfl (by decide)).sel [2, 3, 7, 0, 1] rfl (by decide)⟩
       ·
        refine zE [2, 3, 0, 1] rfl (by decide) (fun w' hw hS => zN 15 rfl hw (zH rfl rfl (fun w' hw => (yu ({ vv := cv1_, vs := F3_.vs, lv := cw2_, ls := F3_.ls } : ConfD) v44 (l.answered ++ [a.id]) w' (by first | assumption | omega | (simp <;> omega) | (constructor <;> (first | omega | (simp only [zd]; omega) | (simp <;> omega)))) (by first | assumption | omega | (simp <;> omega) | (constructor <;> (first | omega | (simp only [zd]; omega) | (simp <;> omega)))) (hw.rdVec0 13 rfl) ⟨(hw.rdVec0 4 rfl), (hw.rdVec0 5 rfl)⟩).mono ?_)))
        rintro _ w1 ⟨rfl, hO⟩
        refine (?_ : CL _ _ _ _ _ _ (Own w S [Res.ou ob o, vI yv yes, ze cb t1 (pt ld) a r b yv jb draw (pt ob), Res.nl b lv es, vI cv1_ F3_.vs, vI cw2_ F3_.ls, vI (.slice (some ⟨b43, 0, none⟩) 1 1) [a.id], yB ld l, vP l.pv l.peers, sP l.peers, vI l.av l.answered, vT l.rv l.rounds, vL l.kv l.looks, vI v44 (l.answered ++ [a.id])])) w1 (hw.frame0 hO)
        refine zE [2, 3, 0, 1] rfl (by decide) (fun w' hw hS => zC 16 rfl (xX (q := ({ vv := cv1_, vs := F3_.vs, lv := cw2_, ls := F3_.ls } : ConfD).quorum (l.answered ++ [a.id])) rfl) hS (zX ?_))
        exact ⟨decide (¬ (za b.vs (es.map EntD.toEntA)).quorum (l.answered ++ [a.id])), ⟨rfl, (congrArg Value.bool (decide_eq_decide.2 (by rw [← hf3_1]; exact Iff.rfl))), trivial⟩, decide_eq_true_iff, (hw.starShut [7, 8, 9, 10, 11, 12] rfl (by decide)).sel [2, 3, 8, 0, 1] rfl (by decide)⟩
     ·
      refine zr 8 rfl hw (z6 (v := l.av) 2 0 1 rfl rfl rfl rfl (by kernel_rfl) rfl (zE [0, 1, 3, 4] rfl (by decide) (fun w' hw hS => yA 1 13 ?_ ?_)))
      ·
       refine zr 1 rfl hw (zH rfl rfl (fun w' hw => (xW cb jb t1 a r b (pt ld) yv (pt ob) draw _ _ w' ‹_› (by first | omega | (simp <;> omega)) (by first | omega | (simp <;> omega)) (hw.give [0, 1] rfl (by decide))).mono ?_))
       rintro _ w1 ⟨cv4_, cw5_, F6_, rfl, hf3_1, hO⟩
       have hFl : F6_.vs.length ≤ 1000 ∧ F6_.ls.length ≤ 1000 := by rw [hf3_1]; exact yi (by omega)
       refine (?_ : CL _ _ _ _ _ _ (Own w S [Res.ld ld l, Res.ou ob o, vI yv yes, ze cb t1 (pt ld) a r b yv jb draw (pt ob), Res.nl b lv es, vI cv4_ F6_.vs, vI cw5_ F6_.ls])) w1 (hw.frameL [0, 1] rfl hO)
       refine zE [3, 4, 1, 2] rfl (by decide) (fun w' hw hS => zN 13 rfl hw (z4 (e := 3) (sz := 1) (vs := [Vi a.id]) (by kernel_rfl) rfl rfl (by simp [Value.cells]) (by decide) rfl (fun b43 => zE [3, 4, 1, 2] rfl (by decide) (fun w' hw hS => zN 14 rfl hw ?_))))
       refine zx [Res.ou ob o, vI yv yes, ze cb t1 (pt ld) a r b yv jb draw (pt ob), Res.nl b lv es, vI cv4_ F6_.vs, vI cw5_ F6_.ls, vI (.slice (some ⟨b43, 0, none⟩) 1 1) [a.id], yB ld l, vP l.pv l.peers, sP l.peers, vI l.av l.answered, vT l.rv l.rounds, vL l.kv l.looks] (fun w' hw => hw.starOpen 0 rfl) ?_
       refine jW (g := I1) (sz := 1) (by' := 8) (fun _ => rfl) (l := l.answered) (l' := [a.id]) (by simp [cell1, I1]) 10 (by kernel_rfl) rfl rfl rfl (fun w' hw' => Vec.sl (Own.holds hw' 6 _ rfl)) (by first | omega | (simp <;> omega)) (by decide) (by simp) rfl (fun v44 hb44_ hk44_ => ?_) (fun v44 => ?_)
       ·
        refine zE [2, 3, 0, 1] rfl (by decide) (fun w' hw hS => zN 15 rfl hw (zH rfl rfl (fun w' hw => (yu ({ vv := cv4_, vs := F6_.vs, lv := cw5_, ls := F6_.ls } : ConfD) v44 (l.answered ++ [a.id]) w' (by first | assumption | omega | (simp <;> omega) | (constructor <;> (first | omega | (simp only [zd]; omega) | (simp <;> omega)))) (by first | assumption | omega | (simp <;> omega) | (constructor <;> (first | omega | (simp only [zd]; omega) | (simp <;> omega)))) (hw.rdVec0 10 rfl) ⟨(hw.rdVec0 4 rfl), (hw.rdVec0 5 rfl)⟩).mono ?_)))
        rintro _ w1 ⟨rfl, hO⟩
        refine (?_ : CL _ _ _ _ _ _ (Own w S [Res.ou ob o, vI yv yes, ze cb t1 (pt ld) a r b yv jb draw (pt ob), Res.nl b lv es, vI cv4_ F6_.vs, vI cw5_ F6_.ls, vI (.slice (some ⟨b43, 0, none⟩) 1 1) [a.id], yB ld l, vP l.pv l.peers, sP l.peers, vI v44 (l.answered ++ [a.id]), vT l.rv l.rounds, vL l.kv l.looks])) w1 (hw.frame0 hO)
        refine zE [2, 3, 0, 1] rfl (by decide) (fun w' hw hS => zC 16 rfl (xX (q := ({ vv := cv4_, vs := F6_.vs, lv := cw5_, ls := F6_.ls } : ConfD).quorum (l.answered ++ [a.id])) rfl) hS (zX ?_))
        exact ⟨decide (¬ (za b.vs (es.map EntD.toEntA)).quorum (l.answered ++ [a.id])), ⟨rfl, (congrArg Value.bool (decide_eq_decide.2 (by rw [← hf3_1]; exact Iff.rfl))), trivial⟩, decide_eq_true_iff, ((Own.vecBack 10 hb44_ hk44_ rfl hw).starShut [7, 8, 9, 10, 11, 12] rfl (by decide)).sel [2, 3, 7, 0, 1] rfl (by decide)⟩
       ·
        refine zE [2, 3, 0, 1] rfl (by decide) (fun w' hw hS => zN 15 rfl hw (zH rfl rfl (fun w' hw => (yu ({ vv := cv4_, vs := F6_.vs, lv := cw5_, ls := F6_.ls } : ConfD) v44 (l.answered ++ [a.id]) w' (by first | assumption | omega | (simp <;> omega) | (constructor <;> (first | omega | (simp only [zd]; omega) | (simp <;> omega)))) (by first | assumption | omega | (simp <;> omega) | (constructor <;> (first | omega | (simp only [zd]; omega) | (simp <;> omega)))) (hw.rdVec0 13 rfl) ⟨(hw.rdVec0 4 rfl), (hw.rdVec0 5 rfl)⟩).mono ?_)))
        rintro _ w1 ⟨rfl, hO⟩
        refine (?_ : CL _ _ _ _ _ _ (Own w S [Res.ou ob o, vI yv yes, ze cb t1 (pt ld) a r b yv jb draw (pt ob), Res.nl b lv es, vI cv4_ F6_.vs, vI cw5_ F6_.ls, vI (.slice (some ⟨b43, 0, none⟩) 1 1) [a.id], yB ld l, vP l.pv l.peers, sP l.peers, vI l.av l.answered, vT l.rv l.rounds, vL l.kv l.looks, vI v44 (l.answered ++ [a.id])])) w1 (hw.frame0 hO)
        refine zE [2, 3, 0, 1] rfl (by decide) (fun w' hw hS => zC 16 rfl (xX (q := ({ vv := cv4_, vs := F6_.vs, lv := cw5_, ls := F6_.ls } : ConfD).quorum (l.answered ++ [a.id])) rfl) hS (zX ?_))
        exact ⟨decide (¬ (za b.vs (es.map EntD.toEntA)).quorum (l.answered ++ [a.id])), ⟨rfl, (congrArg Value.bool (decide_eq_decide.2 (by rw [← hf3_1]; exact Iff.rfl))), trivial⟩, decide_eq_true_iff, (hw.starShut [7, 8, 9, 10, 11, 12] rfl (by decide)).sel [2, 3, 8, 0, 1] rfl (by decide)⟩
      ·
       refine zr 13 rfl hw (z4 (e := 3) (sz := 1) (vs := [Vi a.id]) (by kernel_rfl) rfl rfl (by simp [Value.cells]) (by decide) rfl (fun b43 => zE [0, 1, 3, 4] rfl (by decide) (fun w' hw hS => zN 1 rfl hw (zH rfl rfl (fun w' hw => (xW cb jb t1 a r b (pt ld) yv (pt ob) draw _ _ w' ‹_› (by first | omega | (simp <;> omega)) (by first | omega | (simp <;> omega)) (hw.give [0, 1] rfl (by decide))).mono ?_)))))
       rintro _ w1 ⟨cv7_, cw8_, F9_, rfl, hf3_1, hO⟩
       have hFl : F9_.vs.length ≤ 1000 ∧ F9_.ls.length ≤ 1000 := by rw [hf3_1]; exact yi (by omega)
       refine (?_ : CL _ _ _ _ _ _ (Own w S [Res.ld ld l, Res.ou ob o, vI yv yes, vI (.slice (some ⟨b43, 0, none⟩) 1 1) [a.id], ze cb t1 (pt ld) a r b yv jb draw (pt ob), Res.nl b lv es, vI cv7_ F9_.vs, vI cw8_ F9_.ls])) w1 (hw.frameL [0, 1] rfl hO)
       refine zE [4, 5, 1, 2] rfl (by decide) (fun w' hw hS => zN 14 rfl hw ?_)
       refine zx [Res.ou ob o, vI yv yes, vI (.slice (some ⟨b43, 0, none⟩) 1 1) [a.id], ze cb t1 (pt ld) a r b yv jb draw (pt ob), Res.nl b lv es, vI cv7_ F9_.vs, vI cw8_ F9_.ls, yB ld l, vP l.pv l.peers, sP l.peers, vI l.av l.answered, vT l.rv l.rounds, vL l.kv l.looks] (fun w' hw => hw.starOpen 0 rfl) ?_
       refine jW (g := I1) (sz := 1) (by' := 8) (fun _ => rfl) (l := l.answered) (l' := [a.id]) (by simp [cell1, I1]) 10 (by kernel_rfl) rfl rfl rfl (fun w' hw' => Vec.sl (Own.holds hw' 2 _ rfl)) (by first | omega | (simp <;> omega)) (by decide) (by simp) rfl (fun v44 hb44_ hk44_ => ?_) (fun v44 => ?_)
       ·
        refine zE [3, 4, 0, 1] rfl (by decide) (fun w' hw hS => zN 15 rfl hw (zH rfl rfl (fun w' hw => (yu ({ vv := cv7_, vs := F9_.vs, lv := cw8_, ls := F9_.ls } : ConfD) v44 (l.answered ++ [a.id]) w' (by first | assumption | omega | (simp <;> omega) | (constructor <;> (first | omega | (simp only [zd]; omega) | (simp <;> omega)))) (by first | assumption | omega | (simp <;> omega) | (constructor <;> (first | omega | (simp only [zd]; omega) | (simp <;> omega)))) (hw.rdVec0 10 rfl) ⟨(hw.rdVec0 5 rfl), (hw.rdVec0 6 rfl)⟩).mono ?_)))
        rintro _ w1 ⟨rfl, hO⟩
        refine (?_ : CL _ _ _ _ _ _ (Own w S [Res.ou ob o, vI yv yes, vI (.slice (some ⟨b43, 0, none⟩) 1 1) [a.id], ze cb t1 (pt ld) a r b yv jb draw (pt ob), Res.nl b lv es, vI cv7_ F9_.vs, vI cw8_ F9_.ls, yB ld l, vP l.pv l.peers, sP l.peers, vI v44 (l.answered ++ [a.id]), vT l.rv l.rounds, vL l.kv l.looks])) w1 (hw.frame0 hO)
        refine zE [3, 4, 0, 1] rfl (by decide) (fun w' hw hS => zC 16 rfl (xX (q := ({ vv := cv7_, vs := F9_.vs, lv := cw8_, ls := F9_.ls } : ConfD).quorum (l.answered ++ [a.id])) rfl) hS (zX ?_))
        exact ⟨decide (¬ (za b.vs (es.map EntD.toEntA)).quorum (l.answered ++ [a.id])), ⟨rfl, (congrArg Value.bool (decide_eq_decide.2 (by rw [← hf3_1]; exact Iff.rfl))), trivial⟩, decide_eq_true_iff, ((Own.vecBack 10 hb44_ hk44_ rfl hw).starShut [7, 8, 9, 10, 11, 12] rfl (by decide)).sel [3, 4, 7, 0, 1] rfl (by decide)⟩
       ·
        refine zE [3, 4, 0, 1] rfl (by decide) (fun w' hw hS => zN 15 rfl hw (zH rfl rfl (fun w' hw => (yu ({ vv := cv7_, vs := F9_.vs, lv := cw8_, ls := F9_.ls } : ConfD) v44 (l.answered ++ [a.id]) w' (by first | assumption | omega | (simp <;> omega) | (constructor <;> (first | omega | (simp only [zd]; omega) | (simp <;> omega)))) (by first | assumption | omega | (simp <;> omega) | (constructor <;> (first | omega | (simp only [zd]; omega) | (simp <;> omega)))) (hw.rdVec0 13 rfl) ⟨(hw.rdVec0 5 rfl), (hw.rdVec0 6 rfl)⟩).mono ?_)))
        rintro _ w1 ⟨rfl, hO⟩
        refine (?_ : CL _ _ _ _ _ _ (Own w S [Res.ou ob o, vI yv yes, vI (.slice (some ⟨b43, 0, none⟩) 1 1) [a.id], ze cb t1 (pt ld) a r b yv jb draw (pt ob), Res.nl b lv es, vI cv7_ F9_.vs, vI cw8_ F9_.ls, yB ld l, vP l.pv l.peers, sP l.peers, vI l.av l.answered, vT l.rv l.rounds, vL l.kv l.looks, vI v44 (l.answered ++ [a.id])])) w1 (hw.frame0 hO)
        refine zE [3, 4, 0, 1] rfl (by decide) (fun w' hw hS => zC 16 rfl (xX (q := ({ vv := cv7_, vs := F9_.vs, lv := cw8_, ls := F9_.ls } : ConfD).quorum (l.answered ++ [a.id])) rfl) hS (zX ?_))
        exact ⟨decide (¬ (za b.vs (es.map EntD.toEntA)).quorum (l.answered ++ [a.id])), ⟨rfl, (congrArg Value.bool (decide_eq_decide.2 (by rw [← hf3_1]; exact Iff.rfl))), trivial⟩, decide_eq_true_iff, (hw.starShut [7, 8, 9, 10, 11, 12] rfl (by decide)).sel [3, 4, 8, 0, 1] rfl (by decide)⟩
     ·
      refine zr 13 rfl hw (z4 (e := 3) (sz := 1) (vs := [Vi a.id]) (by kernel_rfl) rfl rfl (by simp [Value.cells]) (by decide) rfl (fun b43 => zE [0, 1, 3, 4] rfl (by decide) (fun w' hw hS => yA 1 8 ?_ ?_)))
      ·
       refine zr 1 rfl hw (zH rfl rfl (fun w' hw => (xW cb jb t1 a r b (pt ld) yv (pt ob) draw _ _ w' ‹_› (by first | omega | (simp <;> omega)) (by first | omega | (simp <;> omega)) (hw.give [0, 1] rfl (by decide))).mono ?_))
       rintro _ w1 ⟨cv10_, cw11_, F12_, rfl, hf3_1, hO⟩
       have hFl : F12_.vs.length ≤ 1000 ∧ F12_.ls.length ≤ 1000 := by rw [hf3_1]; exact yi (by omega)
       refine (?_ : CL _ _ _ _ _ _ (Own w S [Res.ld ld l, Res.ou ob o, vI yv yes, vI (.slice (some ⟨b43, 0, none⟩) 1 1) [a.id], ze cb t1 (pt ld) a r b yv jb draw (pt ob), Res.nl b lv es, vI cv10_ F12_.vs, vI cw11_ F12_.ls])) w1 (hw.frameL [0, 1] rfl hO)
       refine zE [4, 5, 1, 2] rfl (by decide) (fun w' hw hS => zN 8 rfl hw (z6 (v := l.av) 0 0 1 rfl rfl rfl rfl (by kernel_rfl) rfl (zE [4, 5, 1, 2] rfl (by decide) (fun w' hw hS => zN 14 rfl hw ?_))))
       refine zx [Res.ou ob o, vI yv yes, vI (.slice (some ⟨b43, 0, none⟩) 1 1) [a.id], ze cb t1 (pt ld) a r b yv jb draw (pt ob), Res.nl b lv es, vI cv10_ F12_.vs, vI cw11_ F12_.ls, yB ld l, vP l.pv l.peers, sP l.peers, vI l.av l.answered, vT l.rv l.rounds, vL l.kv l.looks] (fun w' hw => hw.starOpen 0 rfl) ?_
       refine jW (g := I1) (sz := 1) (by' := 8) (fun _ => rfl) (l := l.answered) (l' := [a.id]) (by simp [cell1, I1]) 10 (by kernel_rfl) rfl rfl rfl (fun w' hw' => Vec.sl (Own.holds hw' 2 _ rfl)) (by first | omega | (simp <;> omega)) (by decide) (by simp) rfl (fun v44 hb44_ hk44_ => ?_) (fun v44 => ?_)
       ·
        refine zE [3, 4, 0, 1] rfl (by decide) (fun w' hw hS => zN 15 rfl hw (zH rfl rfl (fun w' hw => (yu ({ vv := cv10_, vs := F12_.vs, lv := cw11_, ls := F12_.ls } : ConfD) v44 (l.answered ++ [a.id]) w' (by first | assumption | omega | (simp <;> omega) | (constructor <;> (first | omega | (simp only [zd]; omega) | (simp <;> omega)))) (by first | assumption | omega | (simp <;> omega) | (constructor <;> (first | omega | (simp only [zd]; omega) | (simp <;> omega)))) (hw.rdVec0 10 rfl) ⟨(hw.rdVec0 5 rfl), (hw.rdVec0 6 rfl)⟩).mono ?_)))
        rintro _ w1 ⟨rfl, hO⟩
        refine (?_ : CL _ _ _ _ _ _ (Own w S [Res.ou ob o, vI yv yes, vI (.slice (some ⟨b43, 0, none⟩) 1 1) [a.id], ze cb t1 (pt ld) a r b yv jb draw (pt ob), Res.nl b lv es, vI cv10_ F12_.vs, vI cw11_ F12_.ls, yB ld l, vP l.pv l.peers, sP l.peers, vI v44 (l.answered ++ [a.id]), vT l.rv l.rounds, vL l.kv l.looks])) w1 (hw.frame0 hO)
        refine zE [3, 4, 0, 1] rfl (by decide) (fun w' hw hS => zC 16 rfl (xX (q := ({ vv := cv10_, vs := F12_.vs, lv := cw11_, ls := F12_.ls } : ConfD).quorum (l.answered ++ [a.id])) rfl) hS (zX ?_))
        exact ⟨decide (¬ (za b.vs (es.map EntD.toEntA)).quorum (l.answered ++ [a.id])), ⟨rfl, (congrArg Value.bool (decide_eq_decide.2 (by rw [← hf3_1]; exact Iff.rfl))), trivial⟩, decide_eq_true_iff, ((Own.vecBack 10 hb44_ hk44_ rfl hw).starShut [7, 8, 9, 10, 11, 12] rfl (by decide)).sel [3, 4, 7, 0, 1] rfl (by decide)⟩
       ·
        refine zE [3, 4, 0, 1] rfl (by decide) (fun w' hw hS => zN 15 rfl hw (zH rfl rfl (fun w' hw => (yu ({ vv := cv10_, vs := F12_.vs, lv := cw11_, ls := F12_.ls } : ConfD) v44 (l.answered ++ [a.id]) w' (by first | assumption | omega | (simp <;> omega) | (constructor <;> (first | omega | (simp only [zd]; omega) | (simp <;> omega)))) (by first | assumption | omega | (simp <;> omega) | (constructor <;> (first | omega | (simp only [zd]; omega) | (simp <;> omega)))) (hw.rdVec0 13 rfl) ⟨(hw.rdVec0 5 rfl), (hw.rdVec0 6 rfl)⟩).mono ?_)))
        rintro _ w1 ⟨rfl, hO⟩
        refine (?_ : CL _ _ _ _ _ _ (Own w S [Res.ou ob o, vI yv yes, vI (.slice (some ⟨b43, 0, none⟩) 1 1) [a.id], ze cb t1 (pt ld) a r b yv jb draw (pt ob), Res.nl b lv es, vI cv10_ F12_.vs, vI cw11_ F12_.ls, yB ld l, vP l.pv l.peers, sP l.peers, vI l.av l.answered, vT l.rv l.rounds, vL l.kv l.looks, vI v44 (l.answered ++ [a.id])])) w1 (hw.frame0 hO)
        refine zE [3, 4, 0, 1] rfl (by decide) (fun w' hw hS => zC 16 rfl (xX (q := ({ vv := cv10_, vs := F12_.vs, lv := cw11_, ls := F12_.ls } : ConfD).quorum (l.answered ++ [a.id])) rfl) hS (zX ?_))
        exact ⟨decide (¬ (za b.vs (es.map EntD.toEntA)).quorum (l.answered ++ [a.id])), ⟨rfl, (congrArg Value.bool (decide_eq_decide.2 (by rw [← hf3_1]; exact Iff.rfl))), trivial⟩, decide_eq_true_iff, (hw.starShut [7, 8, 9, 10, 11, 12] rfl (by decide)).sel [3, 4, 8, 0, 1] rfl (by decide)⟩
      ·
       refine zr 8 rfl hw (z6 (v := l.av) 2 0 1 rfl rfl rfl rfl (by kernel_rfl) rfl (zE [0, 1, 3, 4] rfl (by decide) (fun w' hw hS => zN 1 rfl hw (zH rfl rfl (fun w' hw => (xW cb jb t1 a r b (pt ld) yv (pt ob) draw _ _ w' ‹_› (by first | omega | (simp <;> omega)) (by first | omega | (simp <;> omega)) (hw.give [0, 1] rfl (by decide))).mono ?_)))))
       rintro _ w1 ⟨cv13_, cw14_, F15_, rfl, hf3_1, hO⟩
       have hFl : F15_.vs.length ≤ 1000 ∧ F15_.ls.length ≤ 1000 := by rw [hf3_1]; exact yi (by omega)
       refine (?_ : CL _ _ _ _ _ _ (Own w S [Res.ld ld l, Res.ou ob o, vI yv yes, vI (.slice (some ⟨b43, 0, none⟩) 1 1) [a.id], ze cb t1 (pt ld) a r b yv jb draw (pt ob), Res.nl b lv es, vI cv13_ F15_.vs, vI cw14_ F15_.ls])) w1 (hw.frameL [0, 1] rfl hO)
       refine zE [4, 5, 1, 2] rfl (by decide) (fun w' hw hS => zN 14 rfl hw ?_)
       refine zx [Res.ou ob o, vI yv yes, vI (.slice (some ⟨b43, 0, none⟩) 1 1) [a.id], ze cb t1 (pt ld) a r b yv jb draw (pt ob), Res.nl b lv es, vI cv13_ F15_.vs, vI cw14_ F15_.ls, yB ld l, vP l.pv l.peers, sP l.peers, vI l.av l.answered, vT l.rv l.rounds, vL l.kv l.looks] (fun w' hw => hw.starOpen 0 rfl) ?_
       refine jW (g := I1) (sz := 1) (by' := 8) (fun _ => rfl) (l := l.answered) (l' := [a.id]) (by simp [cell1, I1]) 10 (by kernel_rfl) rfl rfl rfl (fun w' hw' => Vec.sl (Own.holds hw' 2 _ rfl)) (by first | omega | (simp <;> omega)) (by decide) (by simp) rfl (fun v44 hb44_ hk44_ => ?_) (fun v44 => ?_)
       ·
        refine zE [3, 4, 0, 1] rfl (by decide) (fun w' hw hS => zN 15 rfl hw (zH rfl rfl (fun w' hw => (yu ({ vv := cv13_, vs := F15_.vs, lv := cw14_, ls := F15_.ls } : ConfD) v44 (l.answered ++ [a.id]) w' (by first | assumption | omega | (simp <;> omega) | (constructor <;> (first | omega | (simp only [zd]; omega) | (simp <;> omega)))) (by first | assumption | omega | (simp <;> omega) | (constructor <;> (first | omega | (simp only [zd]; omega) | (simp <;> omega)))) (hw.rdVec0 10 rfl) ⟨(hw.rdVec0 5 rfl), (hw.rdVec0 6 rfl)⟩).mono ?_)))
        rintro _ w1 ⟨rfl, hO⟩
        refine (?_ : CL _ _ _ _ _ _ (Own w S [Res.ou ob o, vI yv yes, vI (.slice (some ⟨b43, 0, none⟩) 1 1) [a.id], ze cb t1 (pt ld) a r b yv jb draw (pt ob), Res.nl b lv es, vI cv13_ F15_.vs, vI cw14_ F15_.ls, yB ld l, vP l.pv l.peers, sP l.peers, vI v44 (l.answered ++ [a.id]), vT l.rv l.rounds, vL l.kv l.looks])) w1 (hw.frame0 hO)
        refine zE [3, 4, 0, 1] rfl (by decide) (fun w' hw hS => zC 16 rfl (xX (q := ({ vv := cv13_, vs := F15_.vs, lv := cw14_, ls := F15_.ls } : ConfD).quorum (l.answered ++ [a.id])) rfl) hS (zX ?_))
        exact ⟨decide (¬ (za b.vs (es.map EntD.toEntA)).quorum (l.answered ++ [a.id])), ⟨rfl, (congrArg Value.bool (decide_eq_decide.2 (by rw [← hf3_1]; exact Iff.rfl))), trivial⟩, decide_eq_true_iff, ((Own.vecBack 10 hb44_ hk44_ rfl hw).starShut [7, 8, 9, 10, 11, 12] rfl (by decide)).sel [3, 4, 7, 0, 1] rfl (by decide)⟩
       ·
        refine zE [3, 4, 0, 1] rfl (by decide) (fun w' hw hS => zN 15 rfl hw (zH rfl rfl (fun w' hw => (yu ({ vv := cv13_, vs := F15_.vs, lv := cw14_, ls := F15_.ls } : ConfD) v44 (l.answered ++ [a.id]) w' (by first | assumption | omega | (simp <;> omega) | (constructor <;> (first | omega | (simp only [zd]; omega) | (simp <;> omega)))) (by first | assumption | omega | (simp <;> omega) | (constructor <;> (first | omega | (simp only [zd]; omega) | (simp <;> omega)))) (hw.rdVec0 13 rfl) ⟨(hw.rdVec0 5 rfl), (hw.rdVec0 6 rfl)⟩).mono ?_)))
        rintro _ w1 ⟨rfl, hO⟩
        refine (?_ : CL _ _ _ _ _ _ (Own w S [Res.ou ob o, vI yv yes, vI (.slice (some ⟨b43, 0, none⟩) 1 1) [a.id], ze cb t1 (pt ld) a r b yv jb draw (pt ob), Res.nl b lv es, vI cv13_ F15_.vs, vI cw14_ F15_.ls, yB ld l, vP l.pv l.peers, sP l.peers, vI l.av l.answered, vT l.rv l.rounds, vL l.kv l.looks, vI v44 (l.answered ++ [a.id])])) w1 (hw.frame0 hO)
        refine zE [3, 4, 0, 1] rfl (by decide) (fun w' hw hS => zC 16 rfl (xX (q := ({ vv := cv13_, vs := F15_.vs, lv := cw14_, ls := F15_.ls } : ConfD).quorum (l.answered ++ [a.id])) rfl) hS (zX ?_))
        exact ⟨decide (¬ (za b.vs (es.map EntD.toEntA)).quorum (l.answered ++ [a.id])), ⟨rfl, (congrArg Value.bool (decide_eq_decide.2 (by rw [← hf3_1]; exact Iff.rfl))), trivial⟩, decide_eq_true_iff, (hw.starShut [7, 8, 9, 10, 11, 12] rfl (by decide)).sel [3, 4, 8, 0, 1] rfl (by decide)⟩
    have hz := hΦ
    refine ja rfl (fun c3 => ?_) (fun c3 => ?_)
    ·
     have hq := hz.1 c3
     refine zB (zD rfl (zH rfl rfl (fun w' hw => (jz cb jb t1 a r b yv draw 0 ld _ ob _ w' (by first | omega | (simp <;> omega)) (by first | omega | (simp <;> omega)) (hw.give [0, 2, 3] rfl (by decide))).mono ?_)))
     rintro _ w1 ⟨xw16_, rfl, hO⟩
     refine (?_ : CL _ _ _ _ _ _ (Own w S [Res.nl b lv es, vI yv yes, ze cb t1 (.pointer none) a ({ role := 1, who := 0, commit := r.commit } : RolD) b (.slice none 0 0) jb draw (pt ob), Res.ou ob ({ o with xv := xw16_, losts := l.looks.map LookM.id } : OutD)])) w1 (hw.frameL [0, 2, 3] rfl hO)
     refine zA (zQ (zk [0, 1, 3] rfl (by decide) (by kernel_rfl) (fun w' hw hS => zC 0 rfl (zU) hS (zC 1 rfl (zU) hS (zC 2 rfl (zP rfl) hS (zC 3 rfl (zI (o := 2) rfl) hS (zC 4 rfl (zI (o := 0) rfl) hS (zC 6 rfl (zU) hS (yA 5 7 ?_ ?_)))))))))
     ·
      refine zr 5 rfl hw (zM 2 (v := Vi t1.now) rfl rfl rfl rfl (zE [0, 1, 3] rfl (by decide) (fun w' hw hS => zN 7 rfl hw (zH rfl rfl (fun w' hw => (x9 cb jb t1 a ({ role := 1, who := 0, commit := r.commit } : RolD) b (.pointer none) (.slice none 0 0) (pt ob) draw w' ‹_› (by first | omega | (simp <;> omega)) (hw.give [2] rfl (by decide))).mono ?_)))))
      rintro _ w1 ⟨rfl, hO⟩
      refine (?_ : CL _ _ _ _ _ _ (Own w S [Res.nl b lv es, vI yv yes, Res.ou ob ({ o with xv := xw16_, losts := l.looks.map LookM.id } : OutD), ze cb t1 (.pointer none) a ({ role := 1, who := 0, commit := r.commit } : RolD) b (.slice none 0 0) jb draw (pt ob)])) w1 (hw.frameL [2] rfl hO)
      refine zE [0, 1, 2] rfl (by decide) (fun w' hw hS => zC 8 rfl (yw rfl rfl (zy (by omega))) hS (zC 9 rfl (zP rfl) hS (zC 10 rfl (zI (o := 2) rfl) hS (zC 11 rfl (zI (o := 2) rfl) hS (zN 12 rfl hw (zo 3 rfl rfl rfl rfl rfl (zE [0, 1, 2] rfl (by decide) (fun w' hw hS => zX ?_))))))))
      refine (?_ : C _ _ _ _ _ _ _ (Own w S [Res.nl b lv es, vI yv yes, Res.ou ob ({ o with xv := xw16_, losts := l.looks.map LookM.id } : OutD), ze cb ({ t1 with due := t1.now + (yl a draw) } : TimD) (.pointer none) a ({ role := 1, who := 0, commit := r.commit } : RolD) b (.slice none 0 0) jb draw (pt ob)])) _ hw
      exact zY (yM rfl (fun w' hw => ⟨({ t := { t1 with due := t1.now + yl a draw }, r := ⟨1, 0, r.commit⟩, lv := lv, es := es, y := none, yv := .slice none 0 0, yes := [] } : NdD), ({ o with xv := xw16_, losts := l.looks.map LookM.id } : OutD), ⟨[], [], l.looks.map LookM.id⟩, rfl, (by unfold ka; dsimp only; rw [← ht1, if_pos hc2, if_pos (show ¬ (za b.vs (es.map EntD.toEntA)).quorum (l.er.answered ++ [a.id]) from hq), ← e1.1.1]; rfl), (List.append_nil _).symm, (List.append_nil _).symm, rfl, (zt (Own.starNil hw) 3 1).sel [3, 0, 4, 5, 2] rfl (by decide)⟩))
     ·
      refine zr 7 rfl hw (zH rfl rfl (fun w' hw => (x9 cb jb t1 a ({ role := 1, who := 0, commit := r.commit } : RolD) b (.pointer none) (.slice none 0 0) (pt ob) draw w' ‹_› (by first | omega | (simp <;> omega)) (hw.give [2] rfl (by decide))).mono ?_))
      rintro _ w1 ⟨rfl, hO⟩
      refine (?_ : CL _ _ _ _ _ _ (Own w S [Res.nl b lv es, vI yv yes, Res.ou ob ({ o with xv := xw16_, losts := l.looks.map LookM.id } : OutD), ze cb t1 (.pointer none) a ({ role := 1, who := 0, commit := r.commit } : RolD) b (.slice none 0 0) jb draw (pt ob)])) w1 (hw.frameL [2] rfl hO)
      refine zE [0, 1, 2] rfl (by decide) (fun w' hw hS => zN 5 rfl hw (zM 3 (v := Vi t1.now) rfl rfl rfl rfl (zE [0, 1, 2] rfl (by decide) (fun w' hw hS => zC 8 rfl (yw rfl rfl (zy (by omega))) hS (zC 9 rfl (zP rfl) hS (zC 10 rfl (zI (o := 2) rfl) hS (zC 11 rfl (zI (o := 2) rfl) hS (zN 12 rfl hw (zo 3 rfl rfl rfl rfl rfl (zE [0, 1, 2] rfl (by decide) (fun w' hw hS => zX ?_)))))))))))
      refine (?_ : C _ _ _ _ _ _ _ (Own w S [Res.nl b lv es, vI yv yes, Res.ou ob ({ o with xv := xw16_, losts := l.looks.map LookM.id } : OutD), ze cb ({ t1 with due := t1.now + (yl a draw) } : TimD) (.pointer none) a ({ role := 1, who := 0, commit := r.commit } : RolD) b (.slice none 0 0) jb draw (pt ob)])) _ hw
      exact zY (yM rfl (fun w' hw => ⟨({ t := { t1 with due := t1.now + yl a draw }, r := ⟨1, 0, r.commit⟩, lv := lv, es := es, y := none, yv := .slice none 0 0, yes := [] } : NdD), ({ o with xv := xw16_, losts := l.looks.map LookM.id } : OutD), ⟨[], [], l.looks.map LookM.id⟩, rfl, (by unfold ka; dsimp only; rw [← ht1, if_pos hc2, if_pos (show ¬ (za b.vs (es.map EntD.toEntA)).quorum (l.er.answered ++ [a.id]) from hq), ← e1.1.1]; rfl), (List.append_nil _).symm, (List.append_nil _).symm, rfl, (zt (Own.starNil hw) 3 1).sel [3, 0, 4, 5, 2] rfl (by decide)⟩))
    ·
     have hq : ¬ ¬ (za b.vs (es.map EntD.toEntA)).quorum (l.answered ++ [a.id]) := fun q => by rw [hz.2 q] at c3; cases c3
     refine zR (zk [1, 3, 4] rfl (by decide) (by kernel_rfl) (fun w' hw hS => zC 0 rfl (zU) hS (zC 1 rfl (zU) hS (zC 2 rfl (zP rfl) hS (zC 3 rfl (zI (o := 9) rfl) hS (zC 5 rfl (zU) hS (zC 6 rfl (zP rfl) hS (zC 7 rfl (zI (o := 2) rfl) hS (zC 8 rfl (zI (o := 0) rfl) hS (yA 4 9 ?_ ?_))))))))))
     ·
      refine zr 4 rfl hw (zM 0 (v := pt ld) rfl rfl rfl rfl (zE [1, 3, 4] rfl (by decide) (fun w' hw hS => zN 9 rfl hw (zM 0 (v := Vi t1.now) rfl rfl rfl rfl (zE [1, 3, 4] rfl (by decide) (fun w' hw hS => zC 10 rfl (zP rfl) hS (zC 11 rfl (zI (o := 2) rfl) hS (zC 12 rfl (zI (o := 4) rfl) hS (zN 13 rfl hw (zo 0 rfl rfl rfl rfl rfl (zE [1, 3, 4] rfl (by decide) (fun w' hw hS => zC 14 rfl (zP rfl) hS ?_))))))))))))
      refine zC 15 rfl (zI (o := 1) rfl) hS (zN 16 rfl hw ?_)
      refine zx [ze cb ({ t1 with checked := t1.now } : TimD) (pt ld) a r b yv jb draw (pt ob), Res.nl b lv es, Res.ou ob o, vI yv yes, yB ld l, vP l.pv l.peers, sP l.peers, vI l.av l.answered, vT l.rv l.rounds, vL l.kv l.looks] (fun w' hw => hw.starOpen 2 rfl) ?_
      refine zo (cs := (LdD.cells l)) 4 rfl rfl rfl rfl rfl (zE [1, 2, 3] rfl (by decide) (fun w' hw hS => zX ?_))
      exact ⟨({ t1 with checked := t1.now } : TimD), ({ l with av := .slice none 0 0, answered := [] } : LdD), ⟨rfl, trivial⟩, ⟨by unfold ka; dsimp only; rw [← ht1, if_pos hc2, if_neg (show ¬ ¬ (za b.vs (es.map EntD.toEntA)).quorum (l.er.answered ++ [a.id]) from hq), ← e1.1.1]; rfl, ⟨e1.1.1, e1.2⟩, ⟨hb.peers, hb.each, hb.round, hb.rounds, hb.looks, Nat.zero_le _⟩⟩, ((zt hw 3 1).starShut [4, 5, 6, 10, 8, 9] rfl (by decide)).sel [0, 1, 5, 2, 3] rfl (by decide)⟩
     ·
      refine zr 9 rfl hw (zM 0 (v := Vi t1.now) rfl rfl rfl rfl (zE [1, 3, 4] rfl (by decide) (fun w' hw hS => zN 4 rfl hw (zM 0 (v := pt ld) rfl rfl rfl rfl (zE [1, 3, 4] rfl (by decide) (fun w' hw hS => zC 10 rfl (zP rfl) hS (zC 11 rfl (zI (o := 2) rfl) hS (zC 12 rfl (zI (o := 4) rfl) hS (zN 13 rfl hw (zo 0 rfl rfl rfl rfl rfl (zE [1, 3, 4] rfl (by decide) (fun w' hw hS => zC 14 rfl (zP rfl) hS ?_))))))))))))
      refine zC 15 rfl (zI (o := 1) rfl) hS (zN 16 rfl hw ?_)
      refine zx [ze cb ({ t1 with checked := t1.now } : TimD) (pt ld) a r b yv jb draw (pt ob), Res.nl b lv es, Res.ou ob o, vI yv yes, yB ld l, vP l.pv l.peers, sP l.peers, vI l.av l.answered, vT l.rv l.rounds, vL l.kv l.looks] (fun w' hw => hw.starOpen 2 rfl) ?_
      refine zo (cs := (LdD.cells l)) 4 rfl rfl rfl rfl rfl (zE [1, 2, 3] rfl (by decide) (fun w' hw hS => zX ?_))
      exact ⟨({ t1 with checked := t1.now } : TimD), ({ l with av := .slice none 0 0, answered := [] } : LdD), ⟨rfl, trivial⟩, ⟨by unfold ka; dsimp only; rw [← ht1, if_pos hc2, if_neg (show ¬ ¬ (za b.vs (es.map EntD.toEntA)).quorum (l.er.answered ++ [a.id]) from hq), ← e1.1.1]; rfl, ⟨e1.1.1, e1.2⟩, ⟨hb.peers, hb.each, hb.round, hb.rounds, hb.looks, Nat.zero_le _⟩⟩, ((zt hw 3 1).starShut [4, 5, 6, 10, 8, 9] rfl (by decide)).sel [0, 1, 5, 2, 3] rfl (by decide)⟩
   ·
    have hc2 : ¬ t.checked + a.base ≤ t.now := by omega
    exact yk (fun w' hw => ⟨t1, l, ⟨rfl, trivial⟩, ⟨by unfold ka; dsimp only; rw [← ht1, if_neg hc2], ⟨e1.1.1, e1.2⟩, hb⟩, hw⟩)
  obtain ⟨h7, e7, hb2⟩ := hΦ
  have hb2p := hb2.peers
  have hb2r := hb2.rounds
  refine xD (fun (l3 : LdD) => [(0, pt cb)]) (fun (l3 : LdD) => l3 = if t2.gd ≤ t2.now then { l2 with give := 0 } else l2) (fun (l3 : LdD) => [ze cb t2 (pt ld) a r b yv jb draw (pt ob), Res.nl b lv es, Res.ld ld l3, Res.ou ob o, vI yv yes]) ?_ (fun l3 g hΦ => ?_)
  ·
   refine yV (by kernel_rfl) (by kernel_rfl) (zL rfl (zU) (zL rfl (zP rfl) (zL rfl (zI (o := 2) rfl) (zL rfl (zI (o := 0) rfl) (zL rfl (zb 0 (v := Vi t2.now) rfl rfl rfl) (zL rfl (zU) (zL rfl (zP rfl) (zL rfl (zI (o := 2) rfl) (zL rfl (zI (o := 5) rfl) (zL rfl (zb 0 (v := Vi t2.gd) rfl rfl rfl) (zL rfl (zEg rfl rfl) (xN ?_))))))))))))
   refine zf rfl (fun c4 => ?_) (fun c4 => ?_)
   ·
    refine zW (zD rfl (zh rfl rfl (zJ (o := 9) rfl rfl (zM 0 (v := pt ld) rfl rfl rfl rfl (zh rfl rfl (zJ (o := 5) rfl rfl ?_))))))
    refine zx [ze cb t2 (pt ld) a r b yv jb draw (pt ob), Res.nl b lv es, Res.ou ob o, vI yv yes, yB ld l2, vP l2.pv l2.peers, sP l2.peers, vI l2.av l2.answered, vT l2.rv l2.rounds, vL l2.kv l2.looks] (fun w' hw => hw.starOpen 2 rfl) ?_
    refine zo (cs := (LdD.cells l2)) 4 rfl rfl rfl rfl rfl ?_
    exact zj (fun w' hw => ⟨({ l2 with give := 0 } : LdD), ⟨rfl, trivial⟩, (if_pos c4).symm, (hw.starShut [4, 5, 6, 7, 8, 9] rfl (by decide)).sel [0, 1, 4, 2, 3] rfl (by decide)⟩)
   ·
    exact yk (fun w' hw => ⟨l2, ⟨rfl, trivial⟩, (if_neg c4).symm, hw⟩)
  have h3 := hΦ
  have hb3 : l3.bd := by rw [h3]; split; exact ⟨hb2.peers, hb2.each, hb2.round, hb2.rounds, hb2.looks, hb2.answered⟩; exact hb2
  have hb3p := hb3.peers
  have hb3r := hb3.rounds
  have h3e : (if t2.gd ≤ t2.now then { l2.er with give := 0 } else l2.er) = l3.er := by rw [h3]; split <;> rfl
  refine yV (by kernel_rfl) (by kernel_rfl) (zL rfl (zU) (zL rfl (zP rfl) (zL rfl (zI (o := 2) rfl) (zL rfl (zI (o := 0) rfl) (zL rfl (zb 0 (v := Vi t2.now) rfl rfl rfl) (zL rfl (zU) (zL rfl (zP rfl) (zL rfl (zI (o := 2) rfl) (zL rfl (zI (o := 3) rfl) (zL rfl (zb 0 (v := Vi t2.beaten) rfl rfl rfl) (zL rfl (zU) (zL rfl (zP rfl) ?_))))))))))))
  refine zL rfl (zI (o := 11) rfl) (zL rfl (zI (o := 6) rfl) (zL rfl (zb 0 (v := Vi a.beat) rfl rfl rfl) (zL rfl (yw rfl rfl (zy (by omega))) (zL rfl (zEg rfl rfl) (xN (zf rfl (fun c5 => ?_) (fun c5 => ?_)))))))
  ·
   refine zW (zD rfl (zH rfl rfl (fun w' hw => (zDq cb jb t2 a r b yv draw _ _ ld l3 ob _ w' ‹_› (by first | omega | (simp <;> omega)) (by first | omega | (simp <;> omega)) hb3p (by first | omega | (simp <;> omega)) hb3.each hb3r (hw.give [0, 1, 2, 3] rfl (by decide))).mono ?_)))
   rintro _ w1 ⟨mv'17_, rv'18_, ms19_, rfl, hf10_1, hO⟩
   refine (?_ : CL _ _ _ _ _ _ (Own w S [vI yv yes, ze cb ({ t2 with beaten := t2.now } : TimD) (pt ld) a r b yv jb draw (pt ob), Res.nl b lv es, Res.ld ld ({ l3 with peers := l3.peers.map fun q => (q.1, z5 (es.map EntD.toEntA) q.2), rv := rv'18_, rounds := l3.rounds ++ [t2.now], sure := if (za b.vs (es.map EntD.toEntA)).quorum [a.id] then l3.rounds.length + 1 else l3.sure } : LdD), Res.ou ob ({ o with mv := mv'17_, msgs := o.msgs ++ ms19_ } : OutD)])) w1 (hw.frameL [0, 1, 2, 3] rfl hO)
   exact zj (yM rfl (fun w' hw => ⟨({ t := { t2 with beaten := t2.now }, r := r, lv := lv, es := es, y := some (ld, ({ l3 with peers := l3.peers.map fun q => (q.1, z5 (es.map EntD.toEntA) q.2), rv := rv'18_, rounds := l3.rounds ++ [t2.now], sure := if (za b.vs (es.map EntD.toEntA)).quorum [a.id] then l3.rounds.length + 1 else l3.sure } : LdD)), yv := yv, yes := yes } : NdD), ({ o with mv := mv'17_, msgs := o.msgs ++ ms19_ } : OutD), ⟨ms19_.map MsgD.a, [], []⟩, rfl, (by rw [h7]; unfold zDW; dsimp only; rw [h3e, if_pos c5, hf10_1]; exact kz zE0), List.map_append, (List.append_nil _).symm, (List.eq_nil_of_length_eq_zero hlo), hw.sel [1, 2, 3, 0, 4] rfl (by decide)⟩))
  ·
   exact yk (yM rfl (fun w' hw => ⟨({ t := t2, r := r, lv := lv, es := es, y := some (ld, l3), yv := yv, yes := yes } : NdD), o, ⟨[], [], []⟩, rfl, (by rw [h7]; unfold zDW; dsimp only; rw [h3e, if_neg c5]; rfl), (List.append_nil _).symm, (List.append_nil _).symm, (List.eq_nil_of_length_eq_zero hlo), hw.sel [0, 1, 2, 4, 3] rfl (by decide)⟩))
def xQ (a : StA) (vs0 : List Int) (now : Int) (draw : Nat) (n0 : NodA) : NodA × OutA :=
  let n := atF now n0
  if n.r.role = 4 then match n.ld with
    | some l => ka a vs0 draw n l
    | none => (n, ⟨[], [], []⟩)
  else if n.t.due ≤ n.t.now then
    let n1 := { n with t := { n.t with due := n.t.now + yl a draw } }
    if ((za vs0 n.E).ok ∧ a.id ∈ (za vs0 n.E).vs) ∧ n.t.term < 4611686018427387904 then zBs (zHw a vs0 draw n1) else (n1, ⟨[], [], []⟩)
  else (n, ⟨[], [], []⟩)
theorem zCI {S : List Nat} (cb jb : Nat) (t : TimD) (a : StA) (r : RolD) (b : StB) (yv : Value) (draw : Nat) (lv : Value) (es : List EntD) (y : Option (Nat × LdD)) (yes : List Int) (now : Int) (dr : Nat) (w : World) (hg : (LG 0 0 es).good) (hl : es.length ≤ 100000) (hvl : b.vs.length ≤ 12) (hcm : 1 ≤ ((za b.vs (es.map EntD.toEntA)).vs ++ (za b.vs (es.map EntD.toEntA)).ls).length ∧ ((za b.vs (es.map EntD.toEntA)).vs ++ (za b.vs (es.map EntD.toEntA)).ls).length ≤ 12) (hH : HandOk t r y yes (LG 0 0 es).end_) (ha : a.ok) (hnw : 0 ≤ now ∧ now ≤ 1000000000000000) (hd : dr < 18446744073709551616) (hbt : 0 ≤ t.beaten ∧ t.beaten ≤ 1000000000000000) (hck : 0 ≤ t.checked ∧ t.checked ≤ 1000000000000000) (hin : Own w S [ze cb t (yf y) a r b yv jb draw (.pointer none), Res.nl b lv es, Res.lo y, vI yv yes] w) : Rets Tryz.prog 12 #[pt cb, Vi now, Vn dr] w fun u_ w' => ∃ (n : NdD) (o : OutD) (x : OutA), u_ = .agg (OutD.cells o).toArray ∧ (n.a, x) = xQ a b.vs now dr { t := t, r := r, E := es.map EntD.toEntA, ld := y.map fun q => q.2.er, yes := yes } ∧ o.msgs.map MsgD.a = x.ms ∧ o.rdys = x.rdys ∧ o.losts = x.losts ∧ Own w S [ze cb n.t (yf n.y) a n.r b n.yv jb dr (.pointer none), Res.nl b n.lv n.es, Res.lo n.y, vI n.yv n.yes, vM o.mv o.msgs, sM o.msgs, vR o.rv o.rdys, vU o.xv o.losts] w' := by
  have hHt := hH.htm
  have hHn := hH.hn
  have hw1 := kL (draw := dr) ha
  have hlb := (LG.le hg).1
  refine zT Tryz.func12 rfl Tryz.ntmps12 hin ?_
  refine zB (yS (v := .agg #[.slice none 0 0, .bool false, .slice none 0 0, .slice none 0 0]) (by kernel_rfl) rfl (fun b6 => zA (zQ (zB (zD rfl (xy (by kernel_rfl) rfl rfl rfl (zA (x8 rfl (zR (zB (zD rfl (zD rfl ?_))))))))))))
  refine zD rfl (zH rfl rfl (fun w' hw => (zCX cb jb t a r b (yf y) yv (.pointer none) draw now dr w' (hw.give [0] rfl (by decide))).mono ?_))
  rintro _ w1 ⟨ob1_, rfl, hO⟩
  refine (?_ : CL _ _ _ _ _ _ (Own w S [Res.nl b lv es, Res.lo y, vI yv yes, Res.row b6 44 [.slice none 0 0, .bool false, .slice none 0 0, .slice none 0 0], ze cb ({ t with now := max t.now now } : TimD) (yf y) a r b yv jb dr (pt ob1_), Res.ou ob1_ outZ])) w1 (hw.frameL [0] rfl hO)
  refine zA (zD9 (fun (n : NdD) (o' : OutD) (x : OutA) => [(0, pt cb), (6, pt b6)]) (fun (n : NdD) (o' : OutD) (x : OutA) => (n.a, x) = xQ a b.vs now dr { t := t, r := r, E := es.map EntD.toEntA, ld := y.map fun q => q.2.er, yes := yes } ∧ (o'.msgs.map MsgD.a = x.ms ∧ o'.rdys = x.rdys) ∧ o'.losts = x.losts) (fun (n : NdD) (o' : OutD) (x : OutA) => [ze cb n.t (yf n.y) a n.r b n.yv jb dr (pt ob1_), Res.nl b n.lv n.es, Res.lo n.y, vI n.yv n.yes, Res.ou ob1_ o', Res.row b6 44 [.slice none 0 0, .bool false, .slice none 0 0, .slice none 0 0]]) ?_ (fun n o' x g hΦ => ?_))
  ·
   refine zB (zD rfl (zh rfl rfl (zJ (o := 21) rfl rfl (zM 4 (v := Vi r.role) rfl rfl rfl rfl (yZ rfl rfl rfl (zA (zf rfl (fun c2 => ?_) (fun c2 => ?_))))))))
   ·
    obtain ⟨⟨ld, l⟩, rfl⟩ := Option.isSome_iff_exists.1 (hH.hro.1 c2)
    have hb := hH.hld _ rfl
    refine zW (zD rfl (zH rfl rfl (fun w' hw => (zHD cb jb ({ t with now := max t.now now } : TimD) a r b yv dr _ _ ob1_ outZ ld _ yes w' ‹_› (by first | omega | (simp <;> omega)) (by first | omega | (simp <;> omega)) (by show 0 ≤ max t.now now ∧ max t.now now ≤ _; omega) hbt hck (Nat.zero_le _) rfl ‹_› (by first | omega | (simp <;> omega)) hb (hw.give [4, 0, 1, 5, 2] rfl (by decide))).mono ?_)))
    rintro _ w1 ⟨n2_, o'3_, x4_, rfl, hf5_1, hf5_1_1, hf5_1_2, hf5_1_3, hO⟩
    refine (?_ : CL _ _ _ _ _ _ (Own w S [Res.row b6 44 [.slice none 0 0, .bool false, .slice none 0 0, .slice none 0 0], ze cb n2_.t (yf n2_.y) a n2_.r b n2_.yv jb dr (pt ob1_), Res.nl b n2_.lv n2_.es, Res.lo n2_.y, vI n2_.yv n2_.yes, Res.ou ob1_ o'3_])) w1 (hw.frameL [4, 0, 1, 5, 2] rfl hO)
    exact zj (fun w' hw => ⟨n2_, o'3_, x4_, ⟨rfl, rfl, trivial⟩, ⟨by unfold xQ; dsimp only [atF]; rw [if_pos c2]; exact hf5_1, ⟨hf5_1_1.trans (List.nil_append _), hf5_1_2.trans (List.nil_append _)⟩, hf5_1_3⟩, hw.sel [1, 2, 3, 4, 5, 0] rfl (by decide)⟩)
   ·
    obtain rfl := zBy hH.hro c2
    refine yV (by kernel_rfl) (by kernel_rfl) (zL rfl (zU) (zL rfl (zP rfl) (zL rfl (zI (o := 2) rfl) (zL rfl (zI (o := 0) rfl) (zL rfl (zb 4 (v := Vi (max t.now now)) rfl rfl rfl) (zL rfl (zU) (zL rfl (zP rfl) (zL rfl (zI (o := 2) rfl) (zL rfl (zI (o := 2) rfl) (zL rfl (zb 4 (v := Vi t.due) rfl rfl rfl) (zL rfl (zEg rfl rfl) (xN ?_))))))))))))
    refine zf rfl (fun c3 => ?_) (fun c3 => ?_)
    ·
     refine zAW ([(0, pt cb), (6, pt b6)]) (True) ([ze cb ({ t with now := max t.now now, due := max t.now now + yl a dr } : TimD) (.pointer none) a r b yv jb dr (pt ob1_), Res.nl b lv es, Res.lo none, vI yv yes, Res.ou ob1_ outZ, Res.row b6 44 [.slice none 0 0, .bool false, .slice none 0 0, .slice none 0 0]]) ?_ (fun g hΦ => ?_)
     ·
      refine zk [0, 1, 2, 3, 5] rfl (by decide) (by kernel_rfl) (fun w' hw hS => zC 0 rfl (zU) hS (zC 1 rfl (zU) hS (zC 2 rfl (zP rfl) hS (zC 3 rfl (zI (o := 2) rfl) hS (zC 4 rfl (zI (o := 0) rfl) hS (zC 6 rfl (zU) hS (yA 5 7 ?_ ?_)))))))
      ·
       refine zr 5 rfl hw (zM 4 (v := Vi (max t.now now)) rfl rfl rfl rfl (zE [0, 1, 2, 3, 5] rfl (by decide) (fun w' hw hS => zN 7 rfl hw (zH rfl rfl (fun w' hw => (x9 cb jb ({ t with now := max t.now now } : TimD) a r b (.pointer none) yv (pt ob1_) dr w' ‹_› (by first | omega | (simp <;> omega)) (hw.give [4] rfl (by decide))).mono ?_)))))
       rintro _ w1 ⟨rfl, hO⟩
       refine (?_ : CL _ _ _ _ _ _ (Own w S [Res.nl b lv es, Res.lo none, vI yv yes, Res.row b6 44 [.slice none 0 0, .bool false, .slice none 0 0, .slice none 0 0], Res.ou ob1_ outZ, ze cb ({ t with now := max t.now now } : TimD) (.pointer none) a r b yv jb dr (pt ob1_)])) w1 (hw.frameL [4] rfl hO)
       refine zE [0, 1, 2, 3, 4] rfl (by decide) (fun w' hw hS => zC 8 rfl (yw rfl rfl (zy (by omega))) hS (zC 9 rfl (zP rfl) hS (zC 10 rfl (zI (o := 2) rfl) hS (zC 11 rfl (zI (o := 2) rfl) hS (zN 12 rfl hw (zo 5 rfl rfl rfl rfl rfl (zE [0, 1, 2, 3, 4] rfl (by decide) (fun w' hw hS => zX ?_))))))))
       exact ⟨⟨rfl, rfl, trivial⟩, trivial, hw.sel [5, 0, 1, 2, 4, 3] rfl (by decide)⟩
      ·
       refine zr 7 rfl hw (zH rfl rfl (fun w' hw => (x9 cb jb ({ t with now := max t.now now } : TimD) a r b (.pointer none) yv (pt ob1_) dr w' ‹_› (by first | omega | (simp <;> omega)) (hw.give [4] rfl (by decide))).mono ?_))
       rintro _ w1 ⟨rfl, hO⟩
       refine (?_ : CL _ _ _ _ _ _ (Own w S [Res.nl b lv es, Res.lo none, vI yv yes, Res.row b6 44 [.slice none 0 0, .bool false, .slice none 0 0, .slice none 0 0], Res.ou ob1_ outZ, ze cb ({ t with now := max t.now now } : TimD) (.pointer none) a r b yv jb dr (pt ob1_)])) w1 (hw.frameL [4] rfl hO)
       refine zE [0, 1, 2, 3, 4] rfl (by decide) (fun w' hw hS => zN 5 rfl hw (zM 5 (v := Vi (max t.now now)) rfl rfl rfl rfl (zE [0, 1, 2, 3, 4] rfl (by decide) (fun w' hw hS => zC 8 rfl (yw rfl rfl (zy (by omega))) hS (zC 9 rfl (zP rfl) hS (zC 10 rfl (zI (o := 2) rfl) hS (zC 11 rfl (zI (o := 2) rfl) hS (zN 12 rfl hw (zo 5 rfl rfl rfl rfl rfl (zE [0, 1, 2, 3, 4] rfl (by decide) (fun w' hw hS => zX ?_)))))))))))
       exact ⟨⟨rfl, rfl, trivial⟩, trivial, hw.sel [5, 0, 1, 2, 4, 3] rfl (by decide)⟩
     refine zQ (zk [0, 1, 2, 3, 4, 5] rfl (by decide) (by kernel_rfl) (fun w' hw hS => zC 0 rfl (zU) hS (zC 2 rfl (zU) hS (zC 3 rfl (zP rfl) hS (zC 4 rfl (zI (o := 10) rfl) hS (zC 5 rfl (zb 0 (v := Vi a.id) rfl rfl rfl) hS (zN 1 rfl hw (zH rfl rfl (fun w' hw => (xW cb jb ({ t with now := max t.now now, due := max t.now now + yl a dr } : TimD) a r b (.pointer none) yv (pt ob1_) dr _ _ w' ‹_› (by first | omega | (simp <;> omega)) (by first | omega | (simp <;> omega)) (hw.give [0, 1] rfl (by decide))).mono ?_)))))))))
     rintro _ w1 ⟨cv5_, cw6_, F7_, rfl, hf8_1, hO⟩
     have hFl : F7_.vs.length ≤ 1000 ∧ F7_.ls.length ≤ 1000 := by rw [hf8_1]; exact yi (by omega)
     refine (?_ : CL _ _ _ _ _ _ (Own w S [Res.lo none, vI yv yes, Res.ou ob1_ outZ, Res.row b6 44 [.slice none 0 0, .bool false, .slice none 0 0, .slice none 0 0], ze cb ({ t with now := max t.now now, due := max t.now now + yl a dr } : TimD) (.pointer none) a r b yv jb dr (pt ob1_), Res.nl b lv es, vI cv5_ F7_.vs, vI cw6_ F7_.ls])) w1 (hw.frameL [0, 1] rfl hO)
     refine zE [4, 5, 0, 1, 2, 3] rfl (by decide) (fun w' hw hS => zN 6 rfl hw (zH rfl rfl (fun w' hw => (zCZ ({ vv := cv5_, vs := F7_.vs, lv := cw6_, ls := F7_.ls } : ConfD) a.id w' (by first | assumption | omega | (simp <;> omega) | (constructor <;> (first | omega | (simp only [zd]; omega) | (simp <;> omega)))) ⟨(hw.rdVec0 6 rfl), (hw.rdVec0 7 rfl)⟩).mono ?_)))
     rintro _ w1 ⟨rfl, hO⟩
     refine (?_ : CL _ _ _ _ _ _ (Own w S [Res.lo none, vI yv yes, Res.ou ob1_ outZ, Res.row b6 44 [.slice none 0 0, .bool false, .slice none 0 0, .slice none 0 0], ze cb ({ t with now := max t.now now, due := max t.now now + yl a dr } : TimD) (.pointer none) a r b yv jb dr (pt ob1_), Res.nl b lv es, vI cv5_ F7_.vs, vI cw6_ F7_.ls])) w1 (hw.frame0 hO)
     refine zE [4, 5, 0, 1, 2, 3] rfl (by decide) (fun w' hw hS => zC 7 rfl (zU) hS ?_)
     by_cases g8_7 : ({ vv := cv5_, vs := F7_.vs, lv := cw6_, ls := F7_.ls } : ConfD).ok ∧ a.id ∈ ({ vv := cv5_, vs := F7_.vs, lv := cw6_, ls := F7_.ls } : ConfD).vs
     ·
      refine zZ 8 rfl rfl (gT g8_7) (zU) hS (zZ 9 rfl rfl (gT g8_7) (zP rfl) hS (zZ 10 rfl rfl (gT g8_7) (zI (o := 0) rfl) hS (zZ 11 rfl rfl (gT g8_7) (zI (o := 0) rfl) hS (zZ 12 rfl rfl (gT g8_7) (zb 0 (v := Vn t.term) rfl rfl rfl) hS (zZ 13 rfl rfl (gT g8_7) (zAo rfl rfl) hS (zC 14 rfl (yb (gT g8_7)) hS (zX ?_)))))))
      refine (?_ : C _ _ _ _ _ _ _ (Own w S [Res.lo none, vI yv yes, Res.ou ob1_ outZ, Res.row b6 44 [.slice none 0 0, .bool false, .slice none 0 0, .slice none 0 0], ze cb ({ t with now := max t.now now, due := max t.now now + yl a dr } : TimD) (.pointer none) a r b yv jb dr (pt ob1_), Res.nl b lv es, vI cv5_ F7_.vs, vI cw6_ F7_.ls])) _ hw
      refine zf rfl (fun c4 => ?_) (fun c4 => ?_)
      ·
       have hq : (za b.vs (es.map EntD.toEntA)).ok ∧ a.id ∈ (za b.vs (es.map EntD.toEntA)).vs := by rw [← hf8_1]; exact g8_7
       refine zW (zD rfl (zH rfl rfl (fun w' hw => (zJ6 cb jb ({ t with now := max t.now now, due := max t.now now + yl a dr } : TimD) a r b yv dr _ _ ob1_ outZ yes w' ‹_› (by first | omega | (simp <;> omega)) (by first | omega | (simp <;> omega)) (by first | omega | (simp <;> omega) | (constructor <;> (first | omega | (simp <;> omega)))) (by first | assumption | omega | (simp <;> omega) | (constructor <;> (first | omega | (simp only [zd]; omega) | (simp <;> omega)))) hH.hen (by show 0 ≤ max t.now now ∧ max t.now now ≤ _; omega) (Nat.zero_le _) ‹_› (by first | omega | (simp <;> omega)) (hw.give [4, 5, 2] rfl (by decide))).mono ?_)))
       rintro _ w1 ⟨n8_, mv'9_, ms10_, rfl, hf9_1, hO⟩
       refine (?_ : CL _ _ _ _ _ _ (Own w S [Res.lo none, vI yv yes, Res.row b6 44 [.slice none 0 0, .bool false, .slice none 0 0, .slice none 0 0], vI cv5_ F7_.vs, vI cw6_ F7_.ls, ze cb n8_.t (yf n8_.y) a n8_.r b n8_.yv jb dr (pt ob1_), Res.nl b n8_.lv n8_.es, Res.lo n8_.y, vI n8_.yv n8_.yes, Res.ou ob1_ ({ outZ with mv := mv'9_, msgs := outZ.msgs ++ ms10_ } : OutD)])) w1 (hw.frameL [4, 5, 2] rfl hO)
       exact zj (fun w' hw => ⟨n8_, ({ outZ with mv := mv'9_, msgs := outZ.msgs ++ ms10_ } : OutD), ⟨ms10_.map MsgD.a, [], []⟩, ⟨rfl, rfl, trivial⟩, ⟨by unfold xQ; dsimp only [atF]; rw [if_neg c2, if_pos c3, if_pos ⟨hq, by omega⟩]; exact kz hf9_1, ⟨rfl, rfl⟩, rfl⟩, hw.sel [5, 6, 7, 8, 9, 2] rfl (by decide)⟩)
      ·
       exact yk (fun w' hw => ⟨({ t := ({ t with now := max t.now now, due := max t.now now + yl a dr } : TimD), r := r, lv := lv, es := es, y := none, yv := yv, yes := yes } : NdD), outZ, ⟨[], [], []⟩, ⟨rfl, rfl, trivial⟩, ⟨by unfold xQ; dsimp only [atF]; rw [if_neg c2, if_pos c3, if_neg (fun q => c4 (by have h := q.2; omega))]; rfl, ⟨rfl, rfl⟩, rfl⟩, hw.sel [4, 5, 0, 1, 2, 3] rfl (by decide)⟩)
     ·
      refine zS 8 rfl rfl (gF g8_7) rfl hS (zS 9 rfl rfl (gF g8_7) rfl hS (zS 10 rfl rfl (gF g8_7) rfl hS (zS 11 rfl rfl (gF g8_7) rfl hS (zS 12 rfl rfl (gF g8_7) rfl hS (zS 13 rfl rfl (gF g8_7) rfl hS (zC 14 rfl (yG (gF g8_7)) hS (zX ?_)))))))
      refine (?_ : C _ _ _ _ _ _ _ (Own w S [Res.lo none, vI yv yes, Res.ou ob1_ outZ, Res.row b6 44 [.slice none 0 0, .bool false, .slice none 0 0, .slice none 0 0], ze cb ({ t with now := max t.now now, due := max t.now now + yl a dr } : TimD) (.pointer none) a r b yv jb dr (pt ob1_), Res.nl b lv es, vI cv5_ F7_.vs, vI cw6_ F7_.ls])) _ hw
      refine x8 rfl ?_
      exact yk (fun w' hw => ⟨({ t := ({ t with now := max t.now now, due := max t.now now + yl a dr } : TimD), r := r, lv := lv, es := es, y := none, yv := yv, yes := yes } : NdD), outZ, ⟨[], [], []⟩, ⟨rfl, rfl, trivial⟩, ⟨by unfold xQ; dsimp only [atF]; rw [if_neg c2, if_pos c3, if_neg (fun q => g8_7 (by have h := q.1; rw [← hf8_1] at h; exact h))]; rfl, ⟨rfl, rfl⟩, rfl⟩, hw.sel [4, 5, 0, 1, 2, 3] rfl (by decide)⟩)
    ·
     exact yk (fun w' hw => ⟨({ t := ({ t with now := max t.now now } : TimD), r := r, lv := lv, es := es, y := none, yv := yv, yes := yes } : NdD), outZ, ⟨[], [], []⟩, ⟨rfl, rfl, trivial⟩, ⟨by unfold xQ; dsimp only [atF]; rw [if_neg c2, if_neg c3]; rfl, ⟨rfl, rfl⟩, rfl⟩, hw.sel [4, 0, 1, 2, 5, 3] rfl (by decide)⟩)
  have hI := hΦ
  refine zB (zD rfl (zH rfl rfl (fun w' hw => (zDF cb jb n.t a n.r b (yf n.y) n.yv dr ob1_ o' w' (hw.give [0, 4] rfl (by decide))).mono ?_)))
  rintro _ w1 ⟨rfl, hO⟩
  refine (?_ : CL _ _ _ _ _ _ (Own w S [Res.nl b n.lv n.es, Res.lo n.y, vI n.yv n.yes, Res.row b6 44 [.slice none 0 0, .bool false, .slice none 0 0, .slice none 0 0], ze cb n.t (yf n.y) a n.r b n.yv jb dr (.pointer none), vM o'.mv o'.msgs, sM o'.msgs, vR o'.rv o'.rdys, vU o'.xv o'.losts])) w1 (hw.frameL [0, 4] rfl hO)
  refine zg (fun w' hw => Own.cell1Vec (i := 5) rfl hw) (fun hc1_ => ?_)
  refine zg (fun w' hw => Own.cell1Vec (i := 7) rfl hw) (fun hc2_ => ?_)
  refine zg (fun w' hw => Own.cell1Vec (i := 8) rfl hw) (fun hc3_ => ?_)
  refine yH 3 rfl rfl rfl (zF hc1_ (zF rfl (zF hc2_ (zF hc3_ zw)))) rfl (zA ?_)
  exact zY (jt (cs := (OutD.cells o')) rfl rfl (by kernel_rfl) (Own.rowCells (i := 3) rfl) (fun w' hw => ⟨n, o', x, rfl, hI.1, hI.2.1.1, hI.2.1.2, hI.2.2, hw.sel [4, 0, 1, 2, 5, 6, 7, 8] rfl (by decide)⟩))
end Go.Proofs.YtkkeknmkipkbmaaGreat
