import Derived.Test.YtkkeknmkipkbmaaGreatCoN
set_option linter.unusedSectionVars false
set_option linter.unusedSimpArgs false
set_option linter.unusedVariables false
set_option maxRecDepth 10000
namespace Go.Proofs.YtkkeknmkipkbmaaGreat
open Go Go.Sc Go.Proofs
def zCV (a : StA) (term : Nat) (m : MsgA) (kind : Int) (idx lt : Nat) (flag : Bool) : MsgA := ⟨kind, a.id, m.src, term, idx, lt, 0, m.round, flag, [], ⟨[], []⟩, 0, []⟩
theorem zCq {a : StA} {term : Nat} {m : MsgD} {kind : Int} {idx lt : Nat} {flag : Bool} (h : kind ≠ 1 ∧ kind ≠ 2) : [z8 a term (yP kind 0 m.src 0 idx lt 0 m.round flag (.slice none 0 0) [])].map MsgD.a = [zCV a term m.a kind idx lt flag] := by
  rw [zBc h]; rfl
def jG (a : StA) (m : MsgA) (n : NodA) : NodA × List MsgA :=
  if m.index < n.r.commit then (n, [zCV a n.t.term m 6 n.r.commit 0 true])
  else if ∃ e ∈ m.ents, n.t.term < e.term then (n, [])
  else if ((LogA.mk 0 0 n.E).ans m.index m.logTerm m.ents).2.2 = 0 then ({ n with E := ((LogA.mk 0 0 n.E).append m.index m.logTerm m.ents).l, r := { n.r with commit := max n.r.commit (min m.commit ((LogA.mk 0 0 n.E).ans m.index m.logTerm m.ents).1) } }, [zCV a n.t.term m 6 ((LogA.mk 0 0 n.E).ans m.index m.logTerm m.ents).1 0 true])
  else if ((LogA.mk 0 0 n.E).ans m.index m.logTerm m.ents).2.2 = 12 then (n, [zCV a n.t.term m 6 ((LogA.mk 0 0 n.E).hint m.index m.logTerm).1 ((LogA.mk 0 0 n.E).hint m.index m.logTerm).2 false])
  else (n, [])
theorem zFw {x : LogA} {i t : Nat} {m : List EntA} (h : ¬ (x.ans i t m).2.2 = 0) : (x.append i t m).l = x.l := by
  unfold LogA.append
  unfold LogA.ans at h
  split
  · rename_i q; rw [if_pos q.1, if_pos q.2] at h; exact absurd rfl h
  · rfl
theorem zGX {S : List Nat} (cb jb : Nat) (t : TimD) (a : StA) (r : RolD) (b : StB) (draw : Nat) (lv : Value) (es : List EntD) (ob : Nat) (o : OutD) (m : MsgD) (w : World) (hg : (LG 0 0 es).good) (hl : es.length ≤ 100000) (hm : m.wf) (ho : o.msgs.length ≤ 1000) (hin : Own w S [ze cb t (.pointer none) a r b (.slice none 0 0) jb draw (pt ob), Res.nl b lv es, Res.ou ob o] w) (rd_m : MsgD.rd m w S) : Rets Tryz.prog 134 #[pt cb, .agg (MsgD.cells m).toArray] w fun u_ w' => ∃ (n : NdD) (mv' : Value) (ms : List MsgD), u_ = .tuple #[] ∧ (n.a, ms.map MsgD.a) = jG a m.a { t := t, r := r, E := es.map EntD.toEntA, ld := none, yes := [] } ∧ Own w S [ze cb n.t (yf n.y) a n.r b n.yv jb draw (pt ob), Res.nl b n.lv n.es, Res.lo n.y, vI n.yv n.yes, Res.ou ob ({ o with mv := mv', msgs := o.msgs ++ ms } : OutD)] w' := by
  have hme := hm.ents
  have hl1 : (es.map EntD.toEntA).length = es.length := List.length_map _
  refine zT Tryz.func134 rfl Tryz.ntmps134 hin ?_
  refine zB (z7 rfl rfl (fun b3 => zA (zQ (yV (by kernel_rfl) (by kernel_rfl) (zL rfl (zI (o := 4) rfl) (zL rfl (zb 3 (v := Vn m.index) rfl rfl rfl) (zL rfl (zU) (zL rfl (zP rfl) (zL rfl (zI (o := 23) rfl) (zL rfl (zb 0 (v := Vn r.commit) rfl rfl rfl) (zL rfl (zAo rfl rfl) (xN ?_))))))))))))
  refine zf rfl (fun c1 => ?_) (fun c1 => ?_)
  ·
   refine zQ (zk [0, 1, 3] rfl (by decide) (by kernel_rfl) (fun w' hw hS => zC 0 rfl (zU) hS (zC 1 rfl (xp (cs := (MsgD.cells m)) 2 rfl rfl) hS (zC 2 rfl (zU) hS (zC 3 rfl (zP rfl) hS (zC 4 rfl (zI (o := 23) rfl) hS (zC 5 rfl (zb 0 (v := Vn r.commit) rfl rfl rfl) hS (zC 6 rfl (zAD (cs := [Vi 6, Vi 0, Vi 0, Vn 0, Vn r.commit, Vn 0, Vn 0, Vn 0, .bool true, .slice none 0 0, .slice none 0 0, .slice none 0 0, Vi 0, .slice none 0 0]) (z := [Vi 0, Vi 0, Vi 0, Vn 0, Vn 0, Vn 0, Vn 0, Vn 0, .bool false, .slice none 0 0, .slice none 0 0, .slice none 0 0, Vi 0, .slice none 0 0]) (pl := [(0, 1), (1, 1), (2, 1), (3, 1), (4, 1), (5, 1), (6, 1), (7, 1), (8, 1), (9, 1), (10, 2), (12, 1), (13, 1)]) (by kernel_rfl) (by kernel_rfl)) hS (zN 7 rfl hw (zH rfl rfl (fun w' hw => (zCg cb jb t a r b (.pointer none) (.slice none 0 0) draw ob _ m 6 r.commit 0 true w' (by first | omega | (simp <;> omega)) (hw.give [0, 2] rfl (by decide)) (rd_m.at hw [0, 2] rfl)).mono ?_)))))))))))
   rintro _ w1 ⟨mv'1_, rfl, hO⟩
   refine (?_ : CL _ _ _ _ _ _ (Own w S [Res.nl b lv es, Res.row b3 59 (MsgD.cells m), ze cb t (.pointer none) a r b (.slice none 0 0) jb draw (pt ob), Res.ou ob ({ o with mv := mv'1_, msgs := o.msgs ++ [z8 a t.term (yP 6 0 m.src 0 r.commit 0 0 m.round true (.slice none 0 0) [])] } : OutD)])) w1 (hw.frameL [0, 2] rfl hO)
   refine zE [2, 0, 1] rfl (by decide) (fun w' hw hS => zX ?_)
   refine (?_ : C _ _ _ _ _ _ _ (Own w S [Res.nl b lv es, Res.row b3 59 (MsgD.cells m), ze cb t (.pointer none) a r b (.slice none 0 0) jb draw (pt ob), Res.ou ob ({ o with mv := mv'1_, msgs := o.msgs ++ [z8 a t.term (yP 6 0 m.src 0 r.commit 0 0 m.round true (.slice none 0 0) [])] } : OutD)])) _ hw
   exact zY (yM rfl (fun w' hw => ⟨({ t := t, r := r, lv := lv, es := es, y := none, yv := .slice none 0 0, yes := [] } : NdD), mv'1_, [z8 a t.term (yP 6 0 m.src 0 r.commit 0 0 m.round true (.slice none 0 0) [])], rfl, (by unfold jG; rw [if_pos (by show m.index < r.commit; omega), zCq (by decide)]; rfl), (zt (Own.starNil hw) 3 1).sel [2, 0, 4, 5, 3] rfl (by decide)⟩))
  ·
   have hc1 : ¬ m.a.index < r.commit := fun q => c1 (by have h : m.index < r.commit := q; omega)
   refine zR (zQ (zB (zD rfl (yY (cs := (MsgD.cells m)) 3 rfl rfl rfl (zH rfl rfl (fun w' hw => (zJT cb jb t a r b (.pointer none) (.slice none 0 0) (pt ob) draw m w' ‹_› (hw.give [0] rfl (by decide)) (rd_m.at hw [0] rfl)).mono ?_))))))
   rintro _ w1 ⟨rfl, hO⟩
   refine (?_ : CL _ _ _ _ _ _ (Own w S [Res.nl b lv es, Res.ou ob o, Res.row b3 59 (MsgD.cells m), ze cb t (.pointer none) a r b (.slice none 0 0) jb draw (pt ob)])) w1 (hw.frameL [0] rfl hO)
   refine zA (zf rfl (fun c2 => ?_) (fun c2 => ?_))
   ·
    have hc2 : ∃ e ∈ m.a.ents, t.term < e.term := by obtain ⟨q, hq, h⟩ := c2; exact ⟨_, List.mem_map_of_mem hq, h⟩
    exact zY (yM rfl (fun w' hw => ⟨({ t := t, r := r, lv := lv, es := es, y := none, yv := .slice none 0 0, yes := [] } : NdD), o.mv, [], rfl, (by unfold jG; rw [if_neg hc1, if_pos hc2]; rfl), (by rw [List.append_nil]; exact (zt (Own.starNil hw) 3 1).sel [3, 0, 4, 5, 1] rfl (by decide))⟩))
   ·
    have hc2 : ¬ ∃ e ∈ m.a.ents, t.term < e.term := fun ⟨e, he, h⟩ => by obtain ⟨q, hq, rfl⟩ := List.mem_map.1 he; exact c2 ⟨q, hq, h⟩
    refine zR (zQ (zk [1, 2, 3] rfl (by decide) (by kernel_rfl) (fun w' hw hS => zC 0 rfl (zU) hS (zC 1 rfl (zP rfl) hS (zC 2 rfl (zI (o := 29) rfl) hS (zC 3 rfl (zb 2 (v := pt b.lb) rfl rfl rfl) hS (zC 4 rfl (zI (o := 4) rfl) hS (zC 5 rfl (zb 1 (v := Vn m.index) rfl rfl rfl) hS (zC 6 rfl (zI (o := 5) rfl) hS (zC 7 rfl (zb 1 (v := Vn m.logTerm) rfl rfl rfl) hS (zC 8 rfl (zI (o := 9) rfl) hS (zC 9 rfl (zb 1 (v := m.ev) rfl rfl rfl) hS ?_))))))))))))
    refine zN 10 rfl hw ?_
    refine zx [Res.ou ob o, Res.row b3 59 (MsgD.cells m), ze cb t (.pointer none) a r b (.slice none 0 0) jb draw (pt ob), Res.row b.lb 144 [Vn 0, Vn 0, lv], vE lv es, sE es, vI b.vv b.vs, vI b.wv ([] : List Int)] (fun w' hw => hw.starOpen 0 rfl) ?_
    refine zH rfl rfl (fun w' hw => (zBZ b.lb 0 0 lv es m.index m.logTerm m.ev m.ents w' (by omega) hg hm.each hm.index (hw.give [3, 4, 5] rfl (by decide)) (hw.rdTo rd_m.ev [3, 4, 5] rfl) (fun p hp => EntD.rd.at (rd_m.ev_all p hp) hw [3, 4, 5] rfl)).mono ?_)
    rintro _ w1 ⟨lv'2_, es'3_, x4_, y5_, e6_, rfl, hf4_10, hf4_10_1, hO⟩
    have hA : (LogA.mk 0 0 (es.map EntD.toEntA)).ans m.a.index m.a.logTerm m.a.ents = (x4_, y5_, e6_) := hf4_10_1
    have hB : es'3_.map EntD.toEntA = ((LogA.mk 0 0 (es.map EntD.toEntA)).append m.a.index m.a.logTerm m.a.ents).l := congrArg LogA.l hf4_10
    refine (?_ : CL _ _ _ _ _ _ (Own w S [Res.ou ob o, Res.row b3 59 (MsgD.cells m), ze cb t (.pointer none) a r b (.slice none 0 0) jb draw (pt ob), vI b.vv b.vs, vI b.wv ([] : List Int), Res.row b.lb 144 [Vn 0, Vn 0, lv'2_], vE lv'2_ es'3_, sE es'3_])) w1 (hw.frameL [3, 4, 5] rfl hO)
    refine zE [0, 1, 2] rfl (by decide) (fun w' hw hS => zC 11 rfl (zU) hS (zC 12 rfl (yx (vs := [Vn x4_, Vn y5_, Vi e6_]) rfl rfl) hS (zC 13 rfl (yx (vs := [Vn x4_, Vn y5_, Vi e6_]) rfl rfl) hS (zC 14 rfl (yx (vs := [Vn x4_, Vn y5_, Vi e6_]) rfl rfl) hS (zC 15 rfl (ya) hS (zC 16 rfl (ya) hS (zC 17 rfl (ya) hS (zX ?_))))))))
    refine (?_ : C _ _ _ _ _ _ _ (Own w S [Res.ou ob o, Res.row b3 59 (MsgD.cells m), ze cb t (.pointer none) a r b (.slice none 0 0) jb draw (pt ob), vI b.vv b.vs, vI b.wv ([] : List Int), Res.row b.lb 144 [Vn 0, Vn 0, lv'2_], vE lv'2_ es'3_, sE es'3_])) _ hw
    refine zB (zD rfl (zA (zc (zB (yZ rfl rfl rfl (zK rfl (zA (zf rfl (fun c3 => ?_) (fun c3 => ?_)))))))))
    ·
     refine zQ (zk [0, 1, 3, 4, 5, 6] rfl (by decide) (by kernel_rfl) (fun w' hw hS => zC 0 rfl (zU) hS (zC 1 rfl (zU) hS (zC 2 rfl (zP rfl) hS (zC 3 rfl (zI (o := 23) rfl) hS (zC 5 rfl (zI (o := 6) rfl) hS (zC 6 rfl (zb 1 (v := Vn m.commit) rfl rfl rfl) hS (zC 7 rfl (zU) hS (zC 8 rfl (zC6 (c := ((min m.commit x4_ : Nat) : Int)) rfl rfl (zJV _ _)) hS (zN 4 rfl hw (zM 2 (v := Vn r.commit) rfl rfl rfl rfl (zE [0, 1, 3, 4, 5, 6] rfl (by decide) (fun w' hw hS => ?_)))))))))))))
     refine zC 9 rfl (zDa (c := ((max r.commit (min m.commit x4_) : Nat) : Int)) rfl rfl (zCR _ _)) hS (zC 10 rfl (zP rfl) hS (zC 11 rfl (zI (o := 23) rfl) hS (zN 12 rfl hw (zo 2 rfl rfl rfl rfl rfl (zE [0, 1, 3, 4, 5, 6] rfl (by decide) (fun w' hw hS => zX ?_))))))
     refine (?_ : C _ _ _ _ _ _ _ (Own w S [Res.ou ob o, Res.row b3 59 (MsgD.cells m), ze cb t (.pointer none) a ({ r with commit := max r.commit (min m.commit x4_) } : RolD) b (.slice none 0 0) jb draw (pt ob), vI b.vv b.vs, vI b.wv ([] : List Int), Res.row b.lb 144 [Vn 0, Vn 0, lv'2_], vE lv'2_ es'3_, sE es'3_])) _ hw
     refine zW (zD rfl (yY (cs := (MsgD.cells m)) 1 rfl rfl rfl (zD rfl (yc (cs := [Vi 6, Vi 0, Vi 0, Vn 0, Vn x4_, Vn 0, Vn 0, Vn 0, .bool true, .slice none 0 0, .slice none 0 0, .slice none 0 0, Vi 0, .slice none 0 0]) (z := [Vi 0, Vi 0, Vi 0, Vn 0, Vn 0, Vn 0, Vn 0, Vn 0, .bool false, .slice none 0 0, .slice none 0 0, .slice none 0 0, Vi 0, .slice none 0 0]) (pl := [(0, 1), (1, 1), (2, 1), (3, 1), (4, 1), (5, 1), (6, 1), (7, 1), (8, 1), (9, 1), (10, 2), (12, 1), (13, 1)]) (by kernel_rfl) (by kernel_rfl) rfl (zH rfl rfl (fun w' hw => (zCg cb jb t a ({ r with commit := max r.commit (min m.commit x4_) } : RolD) b (.pointer none) (.slice none 0 0) draw ob _ m 6 x4_ 0 true w' (by first | omega | (simp <;> omega)) (hw.give [2, 0] rfl (by decide)) (rd_m.at hw [2, 0] rfl)).mono ?_))))))
     rintro _ w1 ⟨mv'7_, rfl, hO⟩
     refine (?_ : CL _ _ _ _ _ _ (Own w S [Res.row b3 59 (MsgD.cells m), vI b.vv b.vs, vI b.wv ([] : List Int), Res.row b.lb 144 [Vn 0, Vn 0, lv'2_], vE lv'2_ es'3_, sE es'3_, ze cb t (.pointer none) a ({ r with commit := max r.commit (min m.commit x4_) } : RolD) b (.slice none 0 0) jb draw (pt ob), Res.ou ob ({ o with mv := mv'7_, msgs := o.msgs ++ [z8 a t.term (yP 6 0 m.src 0 x4_ 0 0 m.round true (.slice none 0 0) [])] } : OutD)])) w1 (hw.frameL [2, 0] rfl hO)
     exact zj (yM rfl (fun w' hw => ⟨({ t := t, r := { r with commit := max r.commit (min m.commit x4_) }, lv := lv'2_, es := es'3_, y := none, yv := .slice none 0 0, yes := [] } : NdD), mv'7_, [z8 a t.term (yP 6 0 m.src 0 x4_ 0 0 m.round true (.slice none 0 0) [])], rfl, (by unfold jG NdD.a; rw [if_neg hc1, if_neg hc2, hA, if_pos c3, zCq (by decide), ← hB]; rfl), (zt (Own.starNil (hw.starShut [3, 4, 5, 1, 2] rfl (by decide))) 3 1).sel [1, 3, 4, 5, 2] rfl (by decide)⟩))
    ·
     have hno : es'3_.map EntD.toEntA = es.map EntD.toEntA := hB.trans (zFw (by rw [hA]; exact c3))
     have hl2 : es'3_.length = es.length := by have h := congrArg List.length hno; rw [List.length_map, List.length_map] at h; exact h
     refine zB (yZ rfl rfl rfl (zK rfl (zA (zf rfl (fun c4 => ?_) (fun c4 => ?_)))))
     ·
      refine zQ (zk [0, 1, 2, 3, 4, 5, 6] rfl (by decide) (by kernel_rfl) (fun w' hw hS => zC 0 rfl (zU) hS (zC 1 rfl (zP rfl) hS (zC 2 rfl (zI (o := 29) rfl) hS (zC 3 rfl (zb 2 (v := pt b.lb) rfl rfl rfl) hS (zC 4 rfl (zI (o := 4) rfl) hS (zC 5 rfl (zb 1 (v := Vn m.index) rfl rfl rfl) hS (zC 6 rfl (zI (o := 5) rfl) hS (zC 7 rfl (zb 1 (v := Vn m.logTerm) rfl rfl rfl) hS (zN 8 rfl hw (zH rfl rfl (fun w' hw => (zHB b.lb 0 0 lv'2_ es'3_ m.index m.logTerm w' (by first | assumption | omega | (simp <;> omega) | (constructor <;> (first | omega | (simp only [zd]; omega) | (simp <;> omega)))) (hw.rdRes0 5 rfl) (hw.rdVec0 6 rfl) (EntD.rd.star0 7 rfl hw)).mono ?_))))))))))))
      rintro _ w1 ⟨x8_, y9_, rfl, hf10_8, hO⟩
      have hH : (LogA.mk 0 0 (es.map EntD.toEntA)).hint m.a.index m.a.logTerm = (x8_, y9_) := by rw [← hno]; exact hf10_8
      refine (?_ : CL _ _ _ _ _ _ (Own w S [Res.ou ob o, Res.row b3 59 (MsgD.cells m), ze cb t (.pointer none) a r b (.slice none 0 0) jb draw (pt ob), vI b.vv b.vs, vI b.wv ([] : List Int), Res.row b.lb 144 [Vn 0, Vn 0, lv'2_], vE lv'2_ es'3_, sE es'3_])) w1 (hw.frame0 hO)
      refine zE [0, 1, 2, 3, 4, 5, 6] rfl (by decide) (fun w' hw hS => zC 9 rfl (zU) hS (zC 10 rfl (yx (vs := [Vn x8_, Vn y9_]) rfl rfl) hS (zC 11 rfl (yx (vs := [Vn x8_, Vn y9_]) rfl rfl) hS (zC 12 rfl (ya) hS (zC 13 rfl (ya) hS (zX ?_))))))
      refine (?_ : C _ _ _ _ _ _ _ (Own w S [Res.ou ob o, Res.row b3 59 (MsgD.cells m), ze cb t (.pointer none) a r b (.slice none 0 0) jb draw (pt ob), vI b.vv b.vs, vI b.wv ([] : List Int), Res.row b.lb 144 [Vn 0, Vn 0, lv'2_], vE lv'2_ es'3_, sE es'3_])) _ hw
      refine zW (zD rfl (yY (cs := (MsgD.cells m)) 1 rfl rfl rfl (zD rfl (zD rfl (yc (cs := [Vi 6, Vi 0, Vi 0, Vn 0, Vn x8_, Vn y9_, Vn 0, Vn 0, .bool false, .slice none 0 0, .slice none 0 0, .slice none 0 0, Vi 0, .slice none 0 0]) (z := [Vi 0, Vi 0, Vi 0, Vn 0, Vn 0, Vn 0, Vn 0, Vn 0, .bool false, .slice none 0 0, .slice none 0 0, .slice none 0 0, Vi 0, .slice none 0 0]) (pl := [(0, 1), (1, 1), (2, 1), (3, 1), (4, 1), (5, 1), (6, 1), (7, 1), (8, 1), (9, 1), (10, 2), (12, 1), (13, 1)]) (by kernel_rfl) (by kernel_rfl) rfl (zH rfl rfl (fun w' hw => (zCg cb jb t a r b (.pointer none) (.slice none 0 0) draw ob _ m 6 x8_ y9_ false w' (by first | omega | (simp <;> omega)) (hw.give [2, 0] rfl (by decide)) (rd_m.at hw [2, 0] rfl)).mono ?_)))))))
      rintro _ w1 ⟨mv'10_, rfl, hO⟩
      refine (?_ : CL _ _ _ _ _ _ (Own w S [Res.row b3 59 (MsgD.cells m), vI b.vv b.vs, vI b.wv ([] : List Int), Res.row b.lb 144 [Vn 0, Vn 0, lv'2_], vE lv'2_ es'3_, sE es'3_, ze cb t (.pointer none) a r b (.slice none 0 0) jb draw (pt ob), Res.ou ob ({ o with mv := mv'10_, msgs := o.msgs ++ [z8 a t.term (yP 6 0 m.src 0 x8_ y9_ 0 m.round false (.slice none 0 0) [])] } : OutD)])) w1 (hw.frameL [2, 0] rfl hO)
      exact zj (yM rfl (fun w' hw => ⟨({ t := t, r := r, lv := lv'2_, es := es'3_, y := none, yv := .slice none 0 0, yes := [] } : NdD), mv'10_, [z8 a t.term (yP 6 0 m.src 0 x8_ y9_ 0 m.round false (.slice none 0 0) [])], rfl, (by unfold jG NdD.a; rw [if_neg hc1, if_neg hc2, hA, if_neg c3, if_pos c4, zCq (by decide), hH, hno]; rfl), (zt (Own.starNil (hw.starShut [3, 4, 5, 1, 2] rfl (by decide))) 3 1).sel [1, 3, 4, 5, 2] rfl (by decide)⟩))
     ·
      exact yk (yM rfl (fun w' hw => ⟨({ t := t, r := r, lv := lv'2_, es := es'3_, y := none, yv := .slice none 0 0, yes := [] } : NdD), o.mv, [], rfl, (by unfold jG NdD.a; rw [if_neg hc1, if_neg hc2, hA, if_neg c3, if_neg c4, hno]; rfl), (by rw [List.append_nil]; exact (zt (Own.starNil (hw.starShut [5, 6, 7, 3, 4] rfl (by decide))) 3 1).sel [2, 3, 4, 5, 0] rfl (by decide))⟩))
end Go.Proofs.YtkkeknmkipkbmaaGreat
