import Derived.Test.YtkkeknmkipkbmaaGreatCoP
set_option linter.unusedSectionVars false
set_option linter.unusedSimpArgs false
set_option linter.unusedVariables false
set_option maxRecDepth 10000
namespace Go.Proofs.YtkkeknmkipkbmaaGreat
open Go Go.Sc Go.Proofs
theorem zGk (cb jb : Nat) (t : TimD) (a : StA) (r : RolD) (b : StB) (yv : Value) (draw : Nat) (lv : Value) (es : List EntD) (ob : Nat) (o : OutD) (y : Option (Nat × LdD)) (yes : List Int) (m : MsgD) (w : World) (hg : (LG 0 0 es).good) (hl : es.length ≤ 100000) (hvl : b.vs.length ≤ 12) (hcm : 1 ≤ ((za b.vs (es.map EntD.toEntA)).vs ++ (za b.vs (es.map EntD.toEntA)).ls).length ∧ ((za b.vs (es.map EntD.toEntA)).vs ++ (za b.vs (es.map EntD.toEntA)).ls).length ≤ 12) (htm : (r.role = 3 → 1 ≤ t.term) ∧ t.term ≤ 4611686018427387904) (hen : (LG 0 0 es).end_ ≤ t.term) (hn : 0 ≤ t.now ∧ t.now ≤ 1000000000000000) (hh : 0 ≤ t.heard ∧ t.heard ≤ 1000000000000000) (ho : o.msgs.length ≤ 1000) (hrd : o.rdys.length ≤ 1000) (ha : a.ok) (hd : draw < 18446744073709551616) (hm : m.wf) (hro : r.role = 4 ↔ y.isSome = true) (hld : ∀ q, y = some q → q.2.bd) (hy : yes.length ≤ 1000) (hk : m.kind ≠ 7 ∧ m.kind ≠ 8) (hin : Own w (y8 [ze cb t (yf y) a r b yv jb draw (pt ob), Res.nl b lv es, Res.lo y, vI yv yes, Res.ou ob o]) [ze cb t (yf y) a r b yv jb draw (pt ob), Res.nl b lv es, Res.lo y, vI yv yes, Res.ou ob o] w) (rd_m : MsgD.rd m w (y8 [ze cb t (yf y) a r b yv jb draw (pt ob), Res.nl b lv es, Res.lo y, vI yv yes, Res.ou ob o])) : Rets Tryz.prog 87 #[pt cb, .agg (MsgD.cells m).toArray] w fun u_ w' => ∃ (n : NdD) (o' : OutD) (x : OutA), u_ = .tuple #[] ∧ (n.a, x) = yX a b.vs draw m.a { t := t, r := r, E := es.map EntD.toEntA, ld := y.map fun q => q.2.er, yes := yes } ∧ o'.msgs.map MsgD.a = o.msgs.map MsgD.a ++ x.ms ∧ o'.rdys = o.rdys ++ x.rdys ∧ o'.losts = o.losts ∧ Own w (y8 [ze cb t (yf y) a r b yv jb draw (pt ob), Res.nl b lv es, Res.lo y, vI yv yes, Res.ou ob o]) [ze cb n.t (yf n.y) a n.r b n.yv jb draw (pt ob), Res.nl b n.lv n.es, Res.lo n.y, vI n.yv n.yes, Res.ou ob o'] w' := by
  by_cases k3 : m.kind = 3
  · exact zFX cb jb t a r b yv draw lv es ob o y yes m w hg hl hvl hcm htm hen hn hh ho hrd ha hd hm hro hld hy k3 hin rd_m
  by_cases k4 : m.kind = 4
  · exact zFx cb jb t a r b yv draw lv es ob o y yes m w hg hl hvl hcm htm hen hn hh ho hrd ha hd hm hro hld hy k4 hin rd_m
  by_cases k5 : m.kind = 5
  · exact zFd cb jb t a r b yv draw lv es ob o y yes m w hg hl hvl hcm htm hen hn hh ho hrd ha hd hm hro hld hy k5 hin rd_m
  by_cases k6 : m.kind = 6
  · exact zF4 cb jb t a r b yv draw lv es ob o y yes m w hg hl hvl hcm htm hen hn hh ho hrd ha hd hm hro hld hy k6 hin rd_m
  by_cases k9 : m.kind = 9
  · exact zFm cb jb t a r b yv draw lv es ob o y yes m w hg hl hvl hcm htm hen hn hh ho hrd ha hd hm hro hld hy k9 hin rd_m
  · exact zF2 cb jb t a r b yv draw lv es ob o y yes m w hg hl hvl hcm htm hen hn hh ho hrd ha hd hm hro hld hy ⟨⟨k3, k4, k5⟩, ⟨k6, hk.1, hk.2⟩, k9⟩ hin rd_m
def zBY (a : StA) (m : MsgA) (n : NodA) : Prop := n.t.term < m.term ∧ (LogA.mk 0 0 n.E).fresh m.index m.logTerm ∧ ¬ n.t.now - n.t.heard < a.base
instance (a : StA) (m : MsgA) (n : NodA) : Decidable (zBY a m n) := inferInstanceAs (Decidable (_ ∧ _))
def zCd (a : StA) (draw : Nat) (m : MsgA) (n : NodA) : NodA := { n with t := { n.t with term := m.term, vote := 0, due := n.t.now + yl a draw }, r := ⟨1, 0, n.r.commit⟩, ld := none, yes := [] }
def xn (a : StA) (vs0 : List Int) (draw : Nat) (m : MsgA) (n : NodA) : NodA × OutA :=
  if m.kind = 1 then (n, ⟨[one a 2 m.src (if zBY a m n then m.term else n.t.term) (decide (zBY a m n))], [], []⟩)
  else if m.kind = 3 ∧ n.t.term < m.term ∧ m.flag = false ∧ n.t.now - n.t.heard < a.base then (n, ⟨[], [], []⟩)
  else if m.kind = 2 ∧ m.flag = true then
    if n.r.role = 2 ∧ m.term = n.t.term + 1 then
      if ((za vs0 n.E).ok ∧ m.src ∈ (za vs0 n.E).vs) ∧ (za vs0 n.E).quorum (y5 (za vs0 n.E) n.yes m.src) then zBs (zAY a vs0 draw false { n with yes := y5 (za vs0 n.E) n.yes m.src }) else ({ n with yes := y5 (za vs0 n.E) n.yes m.src }, ⟨[], [], []⟩)
    else (n, ⟨[], [], []⟩)
  else if n.t.term < m.term then ((yX a vs0 draw m (zCd a draw m n)).1, { (yX a vs0 draw m (zCd a draw m n)).2 with losts := xt n.ld })
  else if m.term < n.t.term then
    if m.kind = 5 then (n, ⟨[⟨6, a.id, m.src, n.t.term, n.E.length, (LogA.mk 0 0 n.E).end_, 0, 0, false, [], ⟨[], []⟩, 0, []⟩], [], []⟩)
    else if m.kind = 3 then (n, ⟨[one a 4 m.src n.t.term false], [], []⟩)
    else (n, ⟨[], [], []⟩)
  else yX a vs0 draw m n
theorem zKB {a : StA} {term : Nat} {kind dst : Int} {tm : Nat} {flag : Bool} (h : kind ≠ 1 ∧ kind ≠ 2) : [z8 a term (yP kind 0 dst tm 0 0 0 0 flag (.slice none 0 0) [])].map MsgD.a = [one a kind dst term flag] := by
  rw [zBc h]; rfl
theorem zE8 {a : StA} {term : Nat} {dst : Int} {tm : Nat} {flag : Bool} : [z8 a term (yP 2 0 dst tm 0 0 0 0 flag (.slice none 0 0) [])].map MsgD.a = [one a 2 dst tm flag] := rfl
structure HandOk (t : TimD) (r : RolD) (y : Option (Nat × LdD)) (yes : List Int) (e : Nat) : Prop where
  htm : (r.role = 3 → 1 ≤ t.term) ∧ t.term ≤ 4611686018427387904
  hen : e ≤ t.term
  hn : 0 ≤ t.now ∧ t.now ≤ 1000000000000000
  hh : 0 ≤ t.heard ∧ t.heard ≤ 1000000000000000
  hro : r.role = 4 ↔ y.isSome = true
  hld : ∀ q, y = some q → q.2.bd
  hy : yes.length ≤ 1000
theorem zFu {a : StA} {vs0 : List Int} {draw : Nat} {m : MsgA} {n : NodA} : (yX a vs0 draw m n).2.losts = [] := by
  unfold yX jC
  repeat' (first | rfl | (dsimp only; split) | split)
theorem zGr {a : StA} {vs0 : List Int} {draw : Nat} {m : MsgA} {n n' na : NodA} {xh : OutA} (hn : (n.t.term < m.term ∧ n' = zCd a draw m n) ∨ (n.t.term = m.term ∧ n' = n)) (hh : (na, xh) = yX a vs0 draw m n') (k1 : m.kind ≠ 1) (k3 : ¬ (m.kind = 3 ∧ n.t.term < m.term ∧ m.flag = false ∧ n.t.now - n.t.heard < a.base)) (k2 : ¬ (m.kind = 2 ∧ m.flag = true)) :
    (na, ({ xh with losts := if n.t.term < m.term then xt n.ld else [] } : OutA)) = xn a vs0 draw m n := by
  unfold xn
  rw [if_neg k1, if_neg k3, if_neg k2]
  rcases hn with ⟨h1, rfl⟩ | ⟨h1, rfl⟩
  · rw [if_pos h1, if_pos h1, ← hh]
  · rw [if_neg (by omega), if_neg (by omega), if_neg (by omega), ← hh]
    have h2 := zFu (a := a) (vs0 := vs0) (draw := draw) (m := m) (n := n')
    rw [← hh] at h2
    rw [← h2]
theorem losts_er {y : Option (Nat × LdD)} : xt (y.map fun q => q.2.er) = xt (y.map Prod.snd) := by cases y <;> rfl
theorem zH1 {S : List Nat} (cb jb : Nat) (t : TimD) (a : StA) (r : RolD) (b : StB) (yv : Value) (draw : Nat) (lv : Value) (es : List EntD) (ob : Nat) (o : OutD) (y : Option (Nat × LdD)) (yes : List Int) (m : MsgD) (w : World) (hg : (LG 0 0 es).good) (hl : es.length ≤ 100000) (hvl : b.vs.length ≤ 12) (hcm : 1 ≤ ((za b.vs (es.map EntD.toEntA)).vs ++ (za b.vs (es.map EntD.toEntA)).ls).length ∧ ((za b.vs (es.map EntD.toEntA)).vs ++ (za b.vs (es.map EntD.toEntA)).ls).length ≤ 12) (htm : (r.role = 3 → 1 ≤ t.term) ∧ t.term ≤ 4611686018427387904) (hen : (LG 0 0 es).end_ ≤ t.term) (hn : 0 ≤ t.now ∧ t.now ≤ 1000000000000000) (hh : 0 ≤ t.heard ∧ t.heard ≤ 1000000000000000) (ho : o.msgs.length ≤ 1000) (hrd : o.rdys.length ≤ 1000) (ha : a.ok) (hd : draw < 18446744073709551616) (hm : m.wf) (hro : r.role = 4 ↔ y.isSome = true) (hld : ∀ q, y = some q → q.2.bd) (hy : yes.length ≤ 1000) (hk : m.kind = 1) (hlo : o.losts.length = 0) (hmt : m.term ≤ 4611686018427387904) (hin : Own w S [ze cb t (yf y) a r b yv jb draw (pt ob), Res.nl b lv es, Res.lo y, vI yv yes, Res.ou ob o] w) (rd_m : MsgD.rd m w S) : Rets Tryz.prog 48 #[pt cb, .agg (MsgD.cells m).toArray] w fun u_ w' => ∃ (n : NdD) (o' : OutD) (x : OutA), u_ = .tuple #[] ∧ (n.a, x) = xn a b.vs draw m.a { t := t, r := r, E := es.map EntD.toEntA, ld := y.map fun q => q.2.er, yes := yes } ∧ o'.msgs.map MsgD.a = o.msgs.map MsgD.a ++ x.ms ∧ o'.rdys = o.rdys ++ x.rdys ∧ o'.losts = x.losts ∧ Own w S [ze cb n.t (yf n.y) a n.r b n.yv jb draw (pt ob), Res.nl b n.lv n.es, Res.lo n.y, vI n.yv n.yes, Res.ou ob o'] w' := by
  have hme := hm.ents
  have hw1 := kL (draw := draw) ha
  have hb := (LG.le hg).1
  have hl0 := List.eq_nil_of_length_eq_zero hlo
  have k1 : m.a.kind = 1 := hk
  refine zT Tryz.func48 rfl Tryz.ntmps48 hin ?_
  refine zB (z7 rfl rfl (fun b3 => zA (zB (zD rfl (zh rfl rfl (zJ (o := 29) rfl rfl (zM 0 (v := pt b.lb) rfl rfl rfl rfl (zH rfl rfl (fun w' hw => (kQ b.lb 0 0 lv es w' (by first | assumption | omega | (simp <;> omega) | (constructor <;> (first | omega | (simp only [zd]; omega) | (simp <;> omega)))) (by first | omega | (simp <;> omega)) (hw.part0 1 0 rfl rfl) (hw.partSl0 1 1 rfl rfl) (EntD.rd.part0 1 2 rfl rfl hw)).mono ?_)))))))))
  rintro _ w1 ⟨rfl, hO⟩
  refine (?_ : CL _ _ _ _ _ _ (Own w S [ze cb t (yf y) a r b yv jb draw (pt ob), Res.nl b lv es, Res.lo y, vI yv yes, Res.ou ob o, Res.row b3 59 (MsgD.cells m)])) w1 (hw.frame0 hO)
  refine zD rfl (yE (vs := [Vn (0 + es.length), Vn ((LG 0 0 es).end_)]) rfl rfl rfl (yE (vs := [Vn (0 + es.length), Vn ((LG 0 0 es).end_)]) rfl rfl rfl (zK rfl (zK rfl (zA (zQ (zc (zB (zJ (o := 0) rfl rfl (zM 5 (v := Vi m.kind) rfl rfl rfl rfl (yZ rfl rfl rfl (zK rfl ?_))))))))))))
  refine zA (kc rfl hk (zQ (zk [0, 1, 2, 3, 4, 5] rfl (by decide) (by kernel_rfl) (fun w' hw hS => zC 0 rfl (zI (o := 1) rfl) hS (zC 1 rfl (zb 5 (v := Vi m.src) rfl rfl rfl) hS (zC 2 rfl (zU) hS (zC 3 rfl (zP rfl) hS (zC 4 rfl (zI (o := 0) rfl) hS (zC 5 rfl (zI (o := 0) rfl) hS (zC 6 rfl (zb 0 (v := Vn t.term) rfl rfl rfl) hS (zC 7 rfl (zAD (cs := [Vi 2, Vi 0, Vi m.src, Vn t.term, Vn 0, Vn 0, Vn 0, Vn 0, .bool false, .slice none 0 0, .slice none 0 0, .slice none 0 0, Vi 0, .slice none 0 0]) (z := [Vi 0, Vi 0, Vi 0, Vn 0, Vn 0, Vn 0, Vn 0, Vn 0, .bool false, .slice none 0 0, .slice none 0 0, .slice none 0 0, Vi 0, .slice none 0 0]) (pl := [(0, 1), (1, 1), (2, 1), (3, 1), (4, 1), (5, 1), (6, 1), (7, 1), (8, 1), (9, 1), (10, 2), (12, 1), (13, 1)]) (by kernel_rfl) (by kernel_rfl)) hS (zN 8 rfl hw ?_))))))))))))
  refine yS (v := .agg #[Vi 0, Vi 0, Vi 0, Vn 0, Vn 0, Vn 0, Vn 0, Vn 0, .bool false, .slice none 0 0, .slice none 0 0, .slice none 0 0, Vi 0, .slice none 0 0]) (by kernel_rfl) rfl (fun b6 => zE [0, 1, 2, 3, 4, 5] rfl (by decide) (fun w' hw hS => zN 9 rfl hw (yH 6 rfl rfl rfl (xx rfl) rfl (zE [0, 1, 2, 3, 4, 5] rfl (by decide) (fun w' hw hS => zX ?_)))))
  refine (?_ : C _ _ _ _ _ _ _ (Own w S [ze cb t (yf y) a r b yv jb draw (pt ob), Res.nl b lv es, Res.lo y, vI yv yes, Res.ou ob o, Res.row b3 59 (MsgD.cells m), Res.row b6 59 [Vi 2, Vi 0, Vi m.src, Vn t.term, Vn 0, Vn 0, Vn 0, Vn 0, .bool false, .slice none 0 0, .slice none 0 0, .slice none 0 0, Vi 0, .slice none 0 0]])) _ hw
  refine zQ (zQ (zk [0, 1, 2, 3, 4, 5, 6] rfl (by decide) (by kernel_rfl) (fun w' hw hS => zC 0 rfl (zI (o := 3) rfl) hS (zC 1 rfl (zb 5 (v := Vn m.term) rfl rfl rfl) hS (zC 2 rfl (zU) hS (zC 3 rfl (zP rfl) hS (zC 4 rfl (zI (o := 0) rfl) hS (zC 5 rfl (zI (o := 0) rfl) hS (zC 6 rfl (zb 0 (v := Vn t.term) rfl rfl rfl) hS (zC 7 rfl (zBQ rfl rfl) hS (zC 8 rfl (zU) hS ?_)))))))))))
  by_cases g4_8 : ((t.term : Nat) : Int) < ((m.term : Nat) : Int)
  ·
   refine zZ 9 rfl rfl (gT g4_8) (zU) hS (zZ 10 rfl rfl (gT g4_8) (zP rfl) hS (zZ 11 rfl rfl (gT g4_8) (zI (o := 29) rfl) hS (zZ 12 rfl rfl (gT g4_8) (zb 0 (v := pt b.lb) rfl rfl rfl) hS (zZ 13 rfl rfl (gT g4_8) (zI (o := 4) rfl) hS (zZ 14 rfl rfl (gT g4_8) (zb 5 (v := Vn m.index) rfl rfl rfl) hS (zZ 15 rfl rfl (gT g4_8) (zI (o := 5) rfl) hS (zZ 16 rfl rfl (gT g4_8) (zb 5 (v := Vn m.logTerm) rfl rfl rfl) hS (zN 17 rfl hw (zO rfl (gT g4_8) (zH rfl rfl (fun w' hw => (zCU b.lb 0 0 lv es m.index m.logTerm w' (by first | assumption | omega | (simp <;> omega) | (constructor <;> (first | omega | (simp only [zd]; omega) | (simp <;> omega)))) (by first | omega | (simp <;> omega)) (hw.part0 1 0 rfl rfl) (hw.partSl0 1 1 rfl rfl) (EntD.rd.part0 1 2 rfl rfl hw)).mono ?_)))))))))))
   rintro _ w1 ⟨rfl, hO⟩
   refine (?_ : CL _ _ _ _ _ _ (Own w S [ze cb t (yf y) a r b yv jb draw (pt ob), Res.nl b lv es, Res.lo y, vI yv yes, Res.ou ob o, Res.row b3 59 (MsgD.cells m), Res.row b6 59 [Vi 2, Vi 0, Vi m.src, Vn t.term, Vn 0, Vn 0, Vn 0, Vn 0, .bool false, .slice none 0 0, .slice none 0 0, .slice none 0 0, Vi 0, .slice none 0 0]])) w1 (hw.frame0 hO)
   refine zE [0, 1, 2, 3, 4, 5, 6] rfl (by decide) (fun w' hw hS => zC 18 rfl (yb (gT g4_8)) hS (zC 19 rfl (zU) hS ?_))
   by_cases g4_19 : (LG 0 0 es).fresh m.index m.logTerm
   ·
    refine zZ 20 rfl rfl (gT g4_19) (zU) hS (zN 21 rfl hw (zO rfl (gT g4_19) (zH rfl rfl (fun w' hw => (zAL cb jb t a r b (yf y) yv (pt ob) draw w' (by first | omega | (simp <;> omega)) (by first | omega | (simp <;> omega)) (hw.give [0] rfl (by decide))).mono ?_))))
    rintro _ w1 ⟨rfl, hO⟩
    refine (?_ : CL _ _ _ _ _ _ (Own w S [Res.nl b lv es, Res.lo y, vI yv yes, Res.ou ob o, Res.row b3 59 (MsgD.cells m), Res.row b6 59 [Vi 2, Vi 0, Vi m.src, Vn t.term, Vn 0, Vn 0, Vn 0, Vn 0, .bool false, .slice none 0 0, .slice none 0 0, .slice none 0 0, Vi 0, .slice none 0 0], ze cb t (yf y) a r b yv jb draw (pt ob)])) w1 (hw.frameL [0] rfl hO)
    refine zE [6, 0, 1, 2, 3, 4, 5] rfl (by decide) (fun w' hw hS => zZ 22 rfl rfl (gT g4_19) (xX (q := t.now - t.heard < a.base) rfl) hS (zC 23 rfl (yb (gT g4_19)) hS (zX ?_)))
    refine (?_ : C _ _ _ _ _ _ _ (Own w S [Res.nl b lv es, Res.lo y, vI yv yes, Res.ou ob o, Res.row b3 59 (MsgD.cells m), Res.row b6 59 [Vi 2, Vi 0, Vi m.src, Vn t.term, Vn 0, Vn 0, Vn 0, Vn 0, .bool false, .slice none 0 0, .slice none 0 0, .slice none 0 0, Vi 0, .slice none 0 0], ze cb t (yf y) a r b yv jb draw (pt ob)])) _ hw
    refine zf rfl (fun c2 => ?_) (fun c2 => ?_)
    ·
     refine zk [0, 1, 2, 3, 4, 6] rfl (by decide) (by kernel_rfl) (fun w' hw hS => zC 0 rfl (zI (o := 3) rfl) hS (zC 1 rfl (zb 4 (v := Vn m.term) rfl rfl rfl) hS (zC 2 rfl (zI (o := 8) rfl) hS (zN 3 rfl hw (zo 5 rfl rfl rfl rfl rfl (zE [0, 1, 2, 3, 4, 6] rfl (by decide) (fun w' hw hS => zC 4 rfl (zI (o := 3) rfl) hS (zN 5 rfl hw (zo 5 rfl rfl rfl rfl rfl (zE [0, 1, 2, 3, 4, 6] rfl (by decide) (fun w' hw hS => zX ?_)))))))))))
     refine (?_ : C _ _ _ _ _ _ _ (Own w S [Res.nl b lv es, Res.lo y, vI yv yes, Res.ou ob o, Res.row b3 59 (MsgD.cells m), Res.row b6 59 [Vi 2, Vi 0, Vi m.src, Vn m.term, Vn 0, Vn 0, Vn 0, Vn 0, .bool true, .slice none 0 0, .slice none 0 0, .slice none 0 0, Vi 0, .slice none 0 0], ze cb t (yf y) a r b yv jb draw (pt ob)])) _ hw
     refine zB (zD rfl (yY 5 rfl rfl rfl (z4 (e := 59) (sz := 14) (vs := [.agg #[Vi 2, Vi 0, Vi m.src, Vn m.term, Vn 0, Vn 0, Vn 0, Vn 0, .bool true, .slice none 0 0, .slice none 0 0, .slice none 0 0, Vi 0, .slice none 0 0]]) (by kernel_rfl) rfl rfl (by simp [Value.cells, MsgD.cells, ConfD.cells]) (by decide) rfl (fun b57 => ?_))))
     refine zx [Res.nl b lv es, Res.lo y, vI yv yes, Res.ou ob o, Res.row b3 59 (MsgD.cells m), Res.row b6 59 [Vi 2, Vi 0, Vi m.src, Vn m.term, Vn 0, Vn 0, Vn 0, Vn 0, .bool true, .slice none 0 0, .slice none 0 0, .slice none 0 0, Vi 0, .slice none 0 0], ze cb t (yf y) a r b yv jb draw (pt ob), vM (.slice (some ⟨b57, 0, none⟩) 1 1) [(yP 2 0 m.src m.term 0 0 0 0 true (.slice none 0 0) [])], sM [(yP 2 0 m.src m.term 0 0 0 0 true (.slice none 0 0) [])]] (fun w' hw => hw.msg0 ⟨rfl, rfl, rfl⟩ rfl rfl) ?_
     refine zH rfl rfl (fun w' hw => (kP cb jb t a r b (yf y) yv draw ob _ (.slice (some ⟨b57, 0, none⟩) 1 1) [(yP 2 0 m.src m.term 0 0 0 0 true (.slice none 0 0) [])] w' (by first | omega | (simp <;> omega) | (constructor <;> (first | omega | (simp <;> omega)))) (hw.give [6, 3, 7, 8] rfl (by decide))).mono ?_)
     rintro _ w1 ⟨mv'1_, rfl, hO⟩
     refine (?_ : CL _ _ _ _ _ _ (Own w S [Res.nl b lv es, Res.lo y, vI yv yes, Res.row b3 59 (MsgD.cells m), Res.row b6 59 [Vi 2, Vi 0, Vi m.src, Vn m.term, Vn 0, Vn 0, Vn 0, Vn 0, .bool true, .slice none 0 0, .slice none 0 0, .slice none 0 0, Vi 0, .slice none 0 0], ze cb t (yf y) a r b yv jb draw (pt ob), Res.ou ob ({ o with mv := mv'1_, msgs := o.msgs ++ [(yP 2 0 m.src m.term 0 0 0 0 true (.slice none 0 0) [])].map (z8 a t.term) } : OutD)])) w1 (hw.frameL [6, 3, 7, 8] rfl hO)
     refine zA ?_
     exact zY (yM rfl (fun w' hw => ⟨({ t := t, r := r, lv := lv, es := es, y := y, yv := yv, yes := yes } : NdD), ({ o with mv := mv'1_, msgs := o.msgs ++ [z8 a t.term (yP 2 0 m.src m.term 0 0 0 0 true (.slice none 0 0) [])] } : OutD), ⟨[one a 2 m.src m.term true], [], []⟩, rfl, (by unfold xn; rw [if_pos k1, if_pos (show zBY a m.a _ from ⟨by show t.term < m.term; omega, g4_19, c2⟩), decide_eq_true (show zBY a m.a _ from ⟨by show t.term < m.term; omega, g4_19, c2⟩)]; rfl), (by rw [List.map_append, zE8]), (List.append_nil _).symm, hl0, hw.sel [5, 0, 1, 2, 6] rfl (by decide)⟩))
    ·
     refine zR (zB (zD rfl (yY 5 rfl rfl rfl (z4 (e := 59) (sz := 14) (vs := [.agg #[Vi 2, Vi 0, Vi m.src, Vn t.term, Vn 0, Vn 0, Vn 0, Vn 0, .bool false, .slice none 0 0, .slice none 0 0, .slice none 0 0, Vi 0, .slice none 0 0]]) (by kernel_rfl) rfl rfl (by simp [Value.cells, MsgD.cells, ConfD.cells]) (by decide) rfl (fun b57 => ?_)))))
     refine zx [Res.nl b lv es, Res.lo y, vI yv yes, Res.ou ob o, Res.row b3 59 (MsgD.cells m), Res.row b6 59 [Vi 2, Vi 0, Vi m.src, Vn t.term, Vn 0, Vn 0, Vn 0, Vn 0, .bool false, .slice none 0 0, .slice none 0 0, .slice none 0 0, Vi 0, .slice none 0 0], ze cb t (yf y) a r b yv jb draw (pt ob), vM (.slice (some ⟨b57, 0, none⟩) 1 1) [(yP 2 0 m.src t.term 0 0 0 0 false (.slice none 0 0) [])], sM [(yP 2 0 m.src t.term 0 0 0 0 false (.slice none 0 0) [])]] (fun w' hw => hw.msg0 ⟨rfl, rfl, rfl⟩ rfl rfl) ?_
     refine zH rfl rfl (fun w' hw => (kP cb jb t a r b (yf y) yv draw ob _ (.slice (some ⟨b57, 0, none⟩) 1 1) [(yP 2 0 m.src t.term 0 0 0 0 false (.slice none 0 0) [])] w' (by first | omega | (simp <;> omega) | (constructor <;> (first | omega | (simp <;> omega)))) (hw.give [6, 3, 7, 8] rfl (by decide))).mono ?_)
     rintro _ w1 ⟨mv'2_, rfl, hO⟩
     refine (?_ : CL _ _ _ _ _ _ (Own w S [Res.nl b lv es, Res.lo y, vI yv yes, Res.row b3 59 (MsgD.cells m), Res.row b6 59 [Vi 2, Vi 0, Vi m.src, Vn t.term, Vn 0, Vn 0, Vn 0, Vn 0, .bool false, .slice none 0 0, .slice none 0 0, .slice none 0 0, Vi 0, .slice none 0 0], ze cb t (yf y) a r b yv jb draw (pt ob), Res.ou ob ({ o with mv := mv'2_, msgs := o.msgs ++ [(yP 2 0 m.src t.term 0 0 0 0 false (.slice none 0 0) [])].map (z8 a t.term) } : OutD)])) w1 (hw.frameL [6, 3, 7, 8] rfl hO)
     refine zA ?_
     exact zY (yM rfl (fun w' hw => ⟨({ t := t, r := r, lv := lv, es := es, y := y, yv := yv, yes := yes } : NdD), ({ o with mv := mv'2_, msgs := o.msgs ++ [z8 a t.term (yP 2 0 m.src t.term 0 0 0 0 false (.slice none 0 0) [])] } : OutD), ⟨[one a 2 m.src t.term false], [], []⟩, rfl, (by unfold xn; rw [if_pos k1, if_neg (show ¬ zBY a m.a _ from fun q => c2 q.2.2), decide_eq_false (show ¬ zBY a m.a _ from fun q => c2 q.2.2)]; rfl), (by rw [List.map_append, zE8]), (List.append_nil _).symm, hl0, hw.sel [5, 0, 1, 2, 6] rfl (by decide)⟩))
   ·
    refine zS 20 rfl rfl (gF g4_19) rfl hS (zS 21 rfl rfl (gF g4_19) rfl hS (zS 22 rfl rfl (gF g4_19) rfl hS (zC 23 rfl (yG (gF g4_19)) hS (zX ?_))))
    refine (?_ : C _ _ _ _ _ _ _ (Own w S [ze cb t (yf y) a r b yv jb draw (pt ob), Res.nl b lv es, Res.lo y, vI yv yes, Res.ou ob o, Res.row b3 59 (MsgD.cells m), Res.row b6 59 [Vi 2, Vi 0, Vi m.src, Vn t.term, Vn 0, Vn 0, Vn 0, Vn 0, .bool false, .slice none 0 0, .slice none 0 0, .slice none 0 0, Vi 0, .slice none 0 0]])) _ hw
    refine x8 rfl (zR (zB (zD rfl (yY 6 rfl rfl rfl (z4 (e := 59) (sz := 14) (vs := [.agg #[Vi 2, Vi 0, Vi m.src, Vn t.term, Vn 0, Vn 0, Vn 0, Vn 0, .bool false, .slice none 0 0, .slice none 0 0, .slice none 0 0, Vi 0, .slice none 0 0]]) (by kernel_rfl) rfl rfl (by simp [Value.cells, MsgD.cells, ConfD.cells]) (by decide) rfl (fun b57 => ?_))))))
    refine zx [ze cb t (yf y) a r b yv jb draw (pt ob), Res.nl b lv es, Res.lo y, vI yv yes, Res.ou ob o, Res.row b3 59 (MsgD.cells m), Res.row b6 59 [Vi 2, Vi 0, Vi m.src, Vn t.term, Vn 0, Vn 0, Vn 0, Vn 0, .bool false, .slice none 0 0, .slice none 0 0, .slice none 0 0, Vi 0, .slice none 0 0], vM (.slice (some ⟨b57, 0, none⟩) 1 1) [(yP 2 0 m.src t.term 0 0 0 0 false (.slice none 0 0) [])], sM [(yP 2 0 m.src t.term 0 0 0 0 false (.slice none 0 0) [])]] (fun w' hw => hw.msg0 ⟨rfl, rfl, rfl⟩ rfl rfl) ?_
    refine zH rfl rfl (fun w' hw => (kP cb jb t a r b (yf y) yv draw ob _ (.slice (some ⟨b57, 0, none⟩) 1 1) [(yP 2 0 m.src t.term 0 0 0 0 false (.slice none 0 0) [])] w' (by first | omega | (simp <;> omega) | (constructor <;> (first | omega | (simp <;> omega)))) (hw.give [0, 4, 7, 8] rfl (by decide))).mono ?_)
    rintro _ w1 ⟨mv'3_, rfl, hO⟩
    refine (?_ : CL _ _ _ _ _ _ (Own w S [Res.nl b lv es, Res.lo y, vI yv yes, Res.row b3 59 (MsgD.cells m), Res.row b6 59 [Vi 2, Vi 0, Vi m.src, Vn t.term, Vn 0, Vn 0, Vn 0, Vn 0, .bool false, .slice none 0 0, .slice none 0 0, .slice none 0 0, Vi 0, .slice none 0 0], ze cb t (yf y) a r b yv jb draw (pt ob), Res.ou ob ({ o with mv := mv'3_, msgs := o.msgs ++ [(yP 2 0 m.src t.term 0 0 0 0 false (.slice none 0 0) [])].map (z8 a t.term) } : OutD)])) w1 (hw.frameL [0, 4, 7, 8] rfl hO)
    refine zA ?_
    exact zY (yM rfl (fun w' hw => ⟨({ t := t, r := r, lv := lv, es := es, y := y, yv := yv, yes := yes } : NdD), ({ o with mv := mv'3_, msgs := o.msgs ++ [z8 a t.term (yP 2 0 m.src t.term 0 0 0 0 false (.slice none 0 0) [])] } : OutD), ⟨[one a 2 m.src t.term false], [], []⟩, rfl, (by unfold xn; rw [if_pos k1, if_neg (show ¬ zBY a m.a _ from fun q => g4_19 q.2.1), decide_eq_false (show ¬ zBY a m.a _ from fun q => g4_19 q.2.1)]; rfl), (by rw [List.map_append, zE8]), (List.append_nil _).symm, hl0, hw.sel [5, 0, 1, 2, 6] rfl (by decide)⟩))
  ·
   refine zS 9 rfl rfl (gF g4_8) rfl hS (zS 10 rfl rfl (gF g4_8) rfl hS (zS 11 rfl rfl (gF g4_8) rfl hS (zS 12 rfl rfl (gF g4_8) rfl hS (zS 13 rfl rfl (gF g4_8) rfl hS (zS 14 rfl rfl (gF g4_8) rfl hS (zS 15 rfl rfl (gF g4_8) rfl hS (zS 16 rfl rfl (gF g4_8) rfl hS (zS 17 rfl rfl (gF g4_8) rfl hS (zC 18 rfl (yG (gF g4_8)) hS (zC 19 rfl (zU) hS (zS 20 rfl rfl rfl rfl hS (zS 21 rfl rfl rfl rfl hS ?_))))))))))))
   refine zS 22 rfl rfl rfl rfl hS (zC 23 rfl (yG rfl) hS (zX ?_))
   refine (?_ : C _ _ _ _ _ _ _ (Own w S [ze cb t (yf y) a r b yv jb draw (pt ob), Res.nl b lv es, Res.lo y, vI yv yes, Res.ou ob o, Res.row b3 59 (MsgD.cells m), Res.row b6 59 [Vi 2, Vi 0, Vi m.src, Vn t.term, Vn 0, Vn 0, Vn 0, Vn 0, .bool false, .slice none 0 0, .slice none 0 0, .slice none 0 0, Vi 0, .slice none 0 0]])) _ hw
   refine x8 rfl (zR (zB (zD rfl (yY 6 rfl rfl rfl (z4 (e := 59) (sz := 14) (vs := [.agg #[Vi 2, Vi 0, Vi m.src, Vn t.term, Vn 0, Vn 0, Vn 0, Vn 0, .bool false, .slice none 0 0, .slice none 0 0, .slice none 0 0, Vi 0, .slice none 0 0]]) (by kernel_rfl) rfl rfl (by simp [Value.cells, MsgD.cells, ConfD.cells]) (by decide) rfl (fun b57 => ?_))))))
   refine zx [ze cb t (yf y) a r b yv jb draw (pt ob), Res.nl b lv es, Res.lo y, vI yv yes, Res.ou ob o, Res.row b3 59 (MsgD.cells m), Res.row b6 59 [Vi 2, Vi 0, Vi m.src, Vn t.term, Vn 0, Vn 0, Vn 0, Vn 0, .bool false, .slice none 0 0, .slice none 0 0, .slice none 0 0, Vi 0, .slice none 0 0], vM (.slice (some ⟨b57, 0, none⟩) 1 1) [(yP 2 0 m.src t.term 0 0 0 0 false (.slice none 0 0) [])], sM [(yP 2 0 m.src t.term 0 0 0 0 false (.slice none 0 0) [])]] (fun w' hw => hw.msg0 ⟨rfl, rfl, rfl⟩ rfl rfl) ?_
   refine zH rfl rfl (fun w' hw => (kP cb jb t a r b (yf y) yv draw ob _ (.slice (some ⟨b57, 0, none⟩) 1 1) [(yP 2 0 m.src t.term 0 0 0 0 false (.slice none 0 0) [])] w' (by first | omega | (simp <;> omega) | (constructor <;> (first | omega | (simp <;> omega)))) (hw.give [0, 4, 7, 8] rfl (by decide))).mono ?_)
   rintro _ w1 ⟨mv'4_, rfl, hO⟩
   refine (?_ : CL _ _ _ _ _ _ (Own w S [Res.nl b lv es, Res.lo y, vI yv yes, Res.row b3 59 (MsgD.cells m), Res.row b6 59 [Vi 2, Vi 0, Vi m.src, Vn t.term, Vn 0, Vn 0, Vn 0, Vn 0, .bool false, .slice none 0 0, .slice none 0 0, .slice none 0 0, Vi 0, .slice none 0 0], ze cb t (yf y) a r b yv jb draw (pt ob), Res.ou ob ({ o with mv := mv'4_, msgs := o.msgs ++ [(yP 2 0 m.src t.term 0 0 0 0 false (.slice none 0 0) [])].map (z8 a t.term) } : OutD)])) w1 (hw.frameL [0, 4, 7, 8] rfl hO)
   refine zA ?_
   exact zY (yM rfl (fun w' hw => ⟨({ t := t, r := r, lv := lv, es := es, y := y, yv := yv, yes := yes } : NdD), ({ o with mv := mv'4_, msgs := o.msgs ++ [z8 a t.term (yP 2 0 m.src t.term 0 0 0 0 false (.slice none 0 0) [])] } : OutD), ⟨[one a 2 m.src t.term false], [], []⟩, rfl, (by unfold xn; rw [if_pos k1, if_neg (show ¬ zBY a m.a _ from fun q => g4_8 (by have h : t.term < m.term := q.1; omega)), decide_eq_false (show ¬ zBY a m.a _ from fun q => g4_8 (by have h : t.term < m.term := q.1; omega))]; rfl), (by rw [List.map_append, zE8]), (List.append_nil _).symm, hl0, hw.sel [5, 0, 1, 2, 6] rfl (by decide)⟩))
theorem zJc {S : List Nat} (cb jb : Nat) (t : TimD) (a : StA) (r : RolD) (b : StB) (yv : Value) (draw : Nat) (lv : Value) (es : List EntD) (ob : Nat) (o : OutD) (y : Option (Nat × LdD)) (yes : List Int) (m : MsgD) (w : World) (hg : (LG 0 0 es).good) (hl : es.length ≤ 100000) (hvl : b.vs.length ≤ 12) (hcm : 1 ≤ ((za b.vs (es.map EntD.toEntA)).vs ++ (za b.vs (es.map EntD.toEntA)).ls).length ∧ ((za b.vs (es.map EntD.toEntA)).vs ++ (za b.vs (es.map EntD.toEntA)).ls).length ≤ 12) (htm : (r.role = 3 → 1 ≤ t.term) ∧ t.term ≤ 4611686018427387904) (hen : (LG 0 0 es).end_ ≤ t.term) (hn : 0 ≤ t.now ∧ t.now ≤ 1000000000000000) (hh : 0 ≤ t.heard ∧ t.heard ≤ 1000000000000000) (ho : o.msgs.length ≤ 1000) (hrd : o.rdys.length ≤ 1000) (ha : a.ok) (hd : draw < 18446744073709551616) (hm : m.wf) (hro : r.role = 4 ↔ y.isSome = true) (hld : ∀ q, y = some q → q.2.bd) (hy : yes.length ≤ 1000) (hk : m.kind ≠ 1 ∧ m.kind ≠ 7 ∧ m.kind ≠ 8) (hlo : o.losts.length = 0) (hmt : m.term ≤ 4611686018427387904) (hin : Own w S [ze cb t (yf y) a r b yv jb draw (pt ob), Res.nl b lv es, Res.lo y, vI yv yes, Res.ou ob o] w) (rd_m : MsgD.rd m w S) : Rets Tryz.prog 48 #[pt cb, .agg (MsgD.cells m).toArray] w fun u_ w' => ∃ (n : NdD) (o' : OutD) (x : OutA), u_ = .tuple #[] ∧ (n.a, x) = xn a b.vs draw m.a { t := t, r := r, E := es.map EntD.toEntA, ld := y.map fun q => q.2.er, yes := yes } ∧ o'.msgs.map MsgD.a = o.msgs.map MsgD.a ++ x.ms ∧ o'.rdys = o.rdys ++ x.rdys ∧ o'.losts = x.losts ∧ Own w S [ze cb n.t (yf n.y) a n.r b n.yv jb draw (pt ob), Res.nl b n.lv n.es, Res.lo n.y, vI n.yv n.yes, Res.ou ob o'] w' := by
  have hme := hm.ents
  have hw1 := kL (draw := draw) ha
  have hb := (LG.le hg).1
  have hl0 := List.eq_nil_of_length_eq_zero hlo
  have k1 : ¬ m.a.kind = 1 := hk.1
  refine zT Tryz.func48 rfl Tryz.ntmps48 hin ?_
  refine zB (z7 rfl rfl (fun b3 => zA (zB (zD rfl (zh rfl rfl (zJ (o := 29) rfl rfl (zM 0 (v := pt b.lb) rfl rfl rfl rfl (zH rfl rfl (fun w' hw => (kQ b.lb 0 0 lv es w' (by first | assumption | omega | (simp <;> omega) | (constructor <;> (first | omega | (simp only [zd]; omega) | (simp <;> omega)))) (by first | omega | (simp <;> omega)) (hw.part0 1 0 rfl rfl) (hw.partSl0 1 1 rfl rfl) (EntD.rd.part0 1 2 rfl rfl hw)).mono ?_)))))))))
  rintro _ w1 ⟨rfl, hO⟩
  refine (?_ : CL _ _ _ _ _ _ (Own w S [ze cb t (yf y) a r b yv jb draw (pt ob), Res.nl b lv es, Res.lo y, vI yv yes, Res.ou ob o, Res.row b3 59 (MsgD.cells m)])) w1 (hw.frame0 hO)
  refine zD rfl (yE (vs := [Vn (0 + es.length), Vn ((LG 0 0 es).end_)]) rfl rfl rfl (yE (vs := [Vn (0 + es.length), Vn ((LG 0 0 es).end_)]) rfl rfl rfl (zK rfl (zK rfl (zA (zI2 (fun (t' : TimD) (r' : RolD) (y' : Option (Nat × LdD)) (yv' : Value) (yes' : List Int) (o2 : OutD) => [(0, pt cb), (3, pt b3)]) (fun (t' : TimD) (r' : RolD) (y' : Option (Nat × LdD)) (yv' : Value) (yes' : List Int) (o2 : OutD) => ((t.term < m.a.term ∧ ({ t := t', r := r', E := es.map EntD.toEntA, ld := y'.map fun q => q.2.er, yes := yes' } : NodA) = zCd a draw m.a { t := t, r := r, E := es.map EntD.toEntA, ld := y.map fun q => q.2.er, yes := yes }) ∨ (t.term = m.a.term ∧ ({ t := t', r := r', E := es.map EntD.toEntA, ld := y'.map fun q => q.2.er, yes := yes' } : NodA) = { t := t, r := r, E := es.map EntD.toEntA, ld := y.map fun q => q.2.er, yes := yes })) ∧ (HandOk t' r' y' yes' (LG 0 0 es).end_ ∧ o2.losts = (if t.term < m.a.term then xt (y.map fun q => q.2.er) else [])) ∧ (o2.msgs = o.msgs ∧ o2.rdys = o.rdys) ∧ ¬ (m.a.kind = 3 ∧ t.term < m.a.term ∧ m.a.flag = false ∧ t.now - t.heard < a.base) ∧ ¬ (m.a.kind = 2 ∧ m.a.flag = true)) (fun (t' : TimD) (r' : RolD) (y' : Option (Nat × LdD)) (yv' : Value) (yes' : List Int) (o2 : OutD) => [ze cb t' (yf y') a r' b yv' jb draw (pt ob), Res.nl b lv es, Res.lo y', vI yv' yes', Res.ou ob o2, Res.row b3 59 (MsgD.cells m)]) ?_ (fun t' r' y' yv' yes' o2 g hΦ => ?_)))))))
  ·
   refine zc (zB (zJ (o := 0) rfl rfl (zM 5 (v := Vi m.kind) rfl rfl rfl rfl (yZ rfl rfl rfl (zK rfl (zA (y1 rfl (by omega) (xD (fun (zz : Bool) => [(0, pt cb), (3, pt b3), (4, Vn (0 + es.length)), (5, Vn ((LG 0 0 es).end_)), (59, .bool zz)]) (fun (zz : Bool) => zz = true ↔ (m.a.kind = 3 ∧ t.term < m.a.term ∧ m.a.flag = false ∧ t.now - t.heard < a.base)) (fun (zz : Bool) => [ze cb t (yf y) a r b yv jb draw (pt ob), Res.nl b lv es, Res.lo y, vI yv yes, Res.ou ob o, Res.row b3 59 (MsgD.cells m)]) ?_ (fun zz g hΦ => ?_)))))))))
   ·
    refine zk [0, 1, 2, 3, 4, 5] rfl (by decide) (by kernel_rfl) (fun w' hw hS => zC 0 rfl (zI (o := 0) rfl) hS (zC 1 rfl (zb 5 (v := Vi m.kind) rfl rfl rfl) hS (zC 2 rfl (zAw rfl rfl) hS (zC 3 rfl (zU) hS ?_))))
    by_cases g7_3 : m.kind = 3
    ·
     refine zZ 4 rfl rfl (gT g7_3) (zI (o := 3) rfl) hS (zZ 5 rfl rfl (gT g7_3) (zb 5 (v := Vn m.term) rfl rfl rfl) hS (zZ 6 rfl rfl (gT g7_3) (zU) hS (zZ 7 rfl rfl (gT g7_3) (zP rfl) hS (zZ 8 rfl rfl (gT g7_3) (zI (o := 0) rfl) hS (zZ 9 rfl rfl (gT g7_3) (zI (o := 0) rfl) hS (zZ 10 rfl rfl (gT g7_3) (zb 0 (v := Vn t.term) rfl rfl rfl) hS (zZ 11 rfl rfl (gT g7_3) (zBQ rfl rfl) hS (zC 12 rfl (yb (gT g7_3)) hS (zC 13 rfl (zU) hS ?_)))))))))
     by_cases g7_13 : ((t.term : Nat) : Int) < ((m.term : Nat) : Int)
     ·
      refine zZ 14 rfl rfl (gT g7_13) (zI (o := 8) rfl) hS (zZ 15 rfl rfl (gT g7_13) (zb 5 (v := .bool m.flag) rfl rfl rfl) hS (zZ 16 rfl rfl (gT g7_13) (zBG (b := m.flag) rfl) hS (zC 17 rfl (yb (gT g7_13)) hS (zC 18 rfl (zU) hS ?_))))
      by_cases g7_18 : (!m.flag) = true
      ·
       refine zZ 19 rfl rfl (bT g7_18) (zU) hS (zN 20 rfl hw (zO rfl (bT g7_18) (zH rfl rfl (fun w' hw => (zAL cb jb t a r b (yf y) yv (pt ob) draw w' (by first | omega | (simp <;> omega)) (by first | omega | (simp <;> omega)) (hw.give [0] rfl (by decide))).mono ?_))))
       rintro _ w1 ⟨rfl, hO⟩
       refine (?_ : CL _ _ _ _ _ _ (Own w S [Res.nl b lv es, Res.lo y, vI yv yes, Res.ou ob o, Res.row b3 59 (MsgD.cells m), ze cb t (yf y) a r b yv jb draw (pt ob)])) w1 (hw.frameL [0] rfl hO)
       refine zE [5, 0, 1, 2, 3, 4] rfl (by decide) (fun w' hw hS => zC 21 rfl (yb (bT g7_18)) hS (zC 22 rfl (ya) hS (zX ?_)))
       exact ⟨decide (t.now - t.heard < a.base), ⟨rfl, rfl, rfl, rfl, rfl, trivial⟩, ⟨fun h => ⟨g7_3, by show t.term < m.term; omega, by show m.flag = false; simpa using g7_18, of_decide_eq_true h⟩, fun h => decide_eq_true h.2.2.2⟩, hw.sel [5, 0, 1, 2, 3, 4] rfl (by decide)⟩
      ·
       refine zS 19 rfl rfl (bF g7_18) rfl hS (zS 20 rfl rfl (bF g7_18) rfl hS (zC 21 rfl (yG (bF g7_18)) hS (zC 22 rfl (ya) hS (zX ?_))))
       exact ⟨false, ⟨rfl, rfl, rfl, rfl, rfl, trivial⟩, ⟨fun h => absurd h (by decide), fun h => absurd (show (!m.flag) = true by rw [show m.flag = false from h.2.2.1]; rfl) g7_18⟩, hw⟩
     ·
      refine zS 14 rfl rfl (gF g7_13) rfl hS (zS 15 rfl rfl (gF g7_13) rfl hS (zS 16 rfl rfl (gF g7_13) rfl hS (zC 17 rfl (yG (gF g7_13)) hS (zC 18 rfl (zU) hS (zS 19 rfl rfl rfl rfl hS (zS 20 rfl rfl rfl rfl hS (zC 21 rfl (yG rfl) hS (zC 22 rfl (ya) hS (zX ?_)))))))))
      exact ⟨false, ⟨rfl, rfl, rfl, rfl, rfl, trivial⟩, ⟨fun h => absurd h (by decide), fun h => absurd (by have h2 : t.term < m.term := h.2.1; omega) g7_13⟩, hw⟩
    ·
     refine zS 4 rfl rfl (gF g7_3) rfl hS (zS 5 rfl rfl (gF g7_3) rfl hS (zS 6 rfl rfl (gF g7_3) rfl hS (zS 7 rfl rfl (gF g7_3) rfl hS (zS 8 rfl rfl (gF g7_3) rfl hS (zS 9 rfl rfl (gF g7_3) rfl hS (zS 10 rfl rfl (gF g7_3) rfl hS (zS 11 rfl rfl (gF g7_3) rfl hS (zC 12 rfl (yG (gF g7_3)) hS (zC 13 rfl (zU) hS (zS 14 rfl rfl rfl rfl hS (zS 15 rfl rfl rfl rfl hS (zS 16 rfl rfl rfl rfl hS ?_))))))))))))
     refine zC 17 rfl (yG rfl) hS (zC 18 rfl (zU) hS (zS 19 rfl rfl rfl rfl hS (zS 20 rfl rfl rfl rfl hS (zC 21 rfl (yG rfl) hS (zC 22 rfl (ya) hS (zX ?_))))))
     exact ⟨false, ⟨rfl, rfl, rfl, rfl, rfl, trivial⟩, ⟨fun h => absurd h (by decide), fun h => absurd h.1 g7_3⟩, hw⟩
   have hz := hΦ
   refine ja rfl (fun c2 => ?_) (fun c2 => ?_)
   ·
    exact zY (yM rfl (fun w' hw => ⟨({ t := t, r := r, lv := lv, es := es, y := y, yv := yv, yes := yes } : NdD), o, ⟨[], [], []⟩, rfl, (by unfold xn; dsimp only; rw [if_neg k1, if_pos (hz.1 c2)]; rfl), (List.append_nil _).symm, (List.append_nil _).symm, hl0, hw.sel [0, 1, 2, 3, 4] rfl (by decide)⟩))
   ·
    have k3 : ¬ (m.a.kind = 3 ∧ t.term < m.a.term ∧ m.a.flag = false ∧ t.now - t.heard < a.base) := fun q => by rw [hz.2 q] at c2; cases c2
    refine zB (zJ (o := 0) rfl rfl (zM 5 (v := Vi m.kind) rfl rfl rfl rfl (yZ rfl rfl rfl (zD rfl (yd (q := m.kind = 2) 2 3 [88, 87] (m.flag = true) rfl rfl rfl rfl rfl rfl trivial rfl (fun h8_3 => ?_) (fun g8_6 => ?_))))))
    ·
     refine zO rfl (gT h8_3) (zJ (o := 8) rfl rfl (zO rfl (gT h8_3) (zM 5 (v := .bool m.flag) rfl rfl rfl rfl ?_)))
     exact yK (xC _) (fun _ hw => hw)
    refine zK rfl (zA (zf rfl (fun c3 => ?_) (fun c3 => ?_)))
    ·
     have k2 : m.a.kind = 2 ∧ m.a.flag = true := c3
     refine zQ (zQ (zk [1, 2, 4, 5] rfl (by decide) (by kernel_rfl) (fun w' hw hS => zC 0 rfl (zU) hS (zC 1 rfl (zP rfl) hS (zC 2 rfl (zI (o := 21) rfl) hS (zN 3 rfl hw (zM 0 (v := Vi r.role) rfl rfl rfl rfl (zE [1, 2, 4, 5] rfl (by decide) (fun w' hw hS => zC 4 rfl (zAw rfl rfl) hS (zC 5 rfl (zU) hS ?_))))))))))
     by_cases g9_5 : r.role = 2
     ·
      refine zZ 6 rfl rfl (gT g9_5) (zI (o := 3) rfl) hS (zZ 7 rfl rfl (gT g9_5) (zb 3 (v := Vn m.term) rfl rfl rfl) hS (zZ 8 rfl rfl (gT g9_5) (zU) hS (zZ 9 rfl rfl (gT g9_5) (zP rfl) hS (zZ 10 rfl rfl (gT g9_5) (zI (o := 0) rfl) hS (zZ 11 rfl rfl (gT g9_5) (zI (o := 0) rfl) hS (zN 12 rfl hw (zO rfl (gT g9_5) (zM 0 (v := Vn t.term) rfl rfl rfl rfl (zE [1, 2, 4, 5] rfl (by decide) (fun w' hw hS => zZ 13 rfl rfl (gT g9_5) (yw rfl rfl (y6 (by omega))) hS (zZ 14 rfl rfl (gT g9_5) (zAw rfl rfl) hS (zC 15 rfl (yb (gT g9_5)) hS ?_))))))))))))
      refine zC 16 rfl (zU) hS ?_
      by_cases g9_16 : ((m.term : Nat) : Int) = ((t.term + 1 : Nat) : Int)
      ·
       refine zZ 17 rfl rfl (gT g9_16) (zU) hS (zZ 18 rfl rfl (gT g9_16) (zI (o := 1) rfl) hS (zZ 19 rfl rfl (gT g9_16) (zb 3 (v := Vi m.src) rfl rfl rfl) hS (zN 20 rfl hw (zO rfl (gT g9_16) (zH rfl rfl (fun w' hw => (zE5 cb jb t a r b (yf y) yv (pt ob) draw _ _ yes m.src w' ‹_› (by first | omega | (simp <;> omega)) (by first | omega | (simp <;> omega)) (by first | omega | (simp <;> omega)) (hw.give [0, 1, 3] rfl (by decide))).mono ?_))))))
       rintro _ w1 ⟨yv'1_, rfl, hO⟩
       refine (?_ : CL _ _ _ _ _ _ (Own w S [Res.lo y, Res.ou ob o, Res.row b3 59 (MsgD.cells m), ze cb t (yf y) a r b yv'1_ jb draw (pt ob), Res.nl b lv es, vI yv'1_ (y5 (za b.vs (es.map EntD.toEntA)) yes m.src)])) w1 (hw.frameL [0, 1, 3] rfl hO)
       refine zE [4, 0, 1, 2] rfl (by decide) (fun w' hw hS => zC 21 rfl (yb (gT g9_16)) hS (zX ?_))
       refine (?_ : C _ _ _ _ _ _ _ (Own w S [Res.lo y, Res.ou ob o, Res.row b3 59 (MsgD.cells m), ze cb t (yf y) a r b yv'1_ jb draw (pt ob), Res.nl b lv es, vI yv'1_ (y5 (za b.vs (es.map EntD.toEntA)) yes m.src)])) _ hw
       refine zf rfl (fun c4 => ?_) (fun c4 => ?_)
       ·
        have s2 : (((za b.vs (es.map EntD.toEntA)).ok ∧ m.a.src ∈ (za b.vs (es.map EntD.toEntA)).vs) ∧ (za b.vs (es.map EntD.toEntA)).quorum (y5 (za b.vs (es.map EntD.toEntA)) yes m.a.src)) := c4
        have s1 : r.role = 2 ∧ m.a.term = t.term + 1 := ⟨g9_5, by show m.term = _; omega⟩
        obtain rfl := zBy hro (by omega)
        refine zW (zD rfl (zH rfl rfl (fun w' hw => (zCQ cb jb t a r b yv'1_ draw _ _ ob _ false (y5 (za b.vs (es.map EntD.toEntA)) yes m.src) w' ‹_› (by first | omega | (simp <;> omega)) (by first | omega | (simp <;> omega)) (by first | omega | (simp <;> omega) | (constructor <;> (first | omega | (simp <;> omega)))) (by first | omega | (simp <;> omega)) (by first | omega | (simp <;> omega)) (by first | omega | (simp <;> omega)) (by first | omega | (simp <;> omega)) ‹_› (by first | omega | (simp <;> omega)) (hw.give [3, 4, 1] rfl (by decide))).mono ?_)))
        rintro _ w1 ⟨n2_, mv'3_, ms4_, rfl, hf10_1, hO⟩
        refine (?_ : CL _ _ _ _ _ _ (Own w S [Res.lo none, Res.row b3 59 (MsgD.cells m), vI yv'1_ (y5 (za b.vs (es.map EntD.toEntA)) yes m.src), ze cb n2_.t (yf n2_.y) a n2_.r b n2_.yv jb draw (pt ob), Res.nl b n2_.lv n2_.es, Res.lo n2_.y, vI n2_.yv n2_.yes, Res.ou ob ({ o with mv := mv'3_, msgs := o.msgs ++ ms4_ } : OutD)])) w1 (hw.frameL [3, 4, 1] rfl hO)
        refine zA ?_
        exact zY (yM rfl (fun w' hw => ⟨n2_, ({ o with mv := mv'3_, msgs := o.msgs ++ ms4_ } : OutD), ⟨ms4_.map MsgD.a, [], []⟩, rfl, (by unfold xn; dsimp only; rw [if_neg k1, if_neg k3, if_pos k2, if_pos s1, if_pos s2]; exact kz hf10_1), List.map_append, (List.append_nil _).symm, hl0, hw.sel [3, 4, 5, 6, 7] rfl (by decide)⟩))
       ·
        have s2 : ¬ (((za b.vs (es.map EntD.toEntA)).ok ∧ m.a.src ∈ (za b.vs (es.map EntD.toEntA)).vs) ∧ (za b.vs (es.map EntD.toEntA)).quorum (y5 (za b.vs (es.map EntD.toEntA)) yes m.a.src)) := c4
        have s1 : r.role = 2 ∧ m.a.term = t.term + 1 := ⟨g9_5, by show m.term = _; omega⟩
        refine zR ?_
        exact zY (yM rfl (fun w' hw => ⟨({ t := t, r := r, lv := lv, es := es, y := y, yv := yv'1_, yes := (y5 (za b.vs (es.map EntD.toEntA)) yes m.src) } : NdD), o, ⟨[], [], []⟩, rfl, (by unfold xn; dsimp only; rw [if_neg k1, if_neg k3, if_pos k2, if_pos s1, if_neg s2]; rfl), (List.append_nil _).symm, (List.append_nil _).symm, hl0, hw.sel [3, 4, 0, 5, 1] rfl (by decide)⟩))
      ·
       refine zS 17 rfl rfl (gF g9_16) rfl hS (zS 18 rfl rfl (gF g9_16) rfl hS (zS 19 rfl rfl (gF g9_16) rfl hS (zS 20 rfl rfl (gF g9_16) rfl hS (zC 21 rfl (yG (gF g9_16)) hS (zX ?_)))))
       refine (?_ : C _ _ _ _ _ _ _ (Own w S [ze cb t (yf y) a r b yv jb draw (pt ob), Res.nl b lv es, Res.lo y, vI yv yes, Res.ou ob o, Res.row b3 59 (MsgD.cells m)])) _ hw
       refine x8 rfl (zR ?_)
       exact zY (yM rfl (fun w' hw => ⟨({ t := t, r := r, lv := lv, es := es, y := y, yv := yv, yes := yes } : NdD), o, ⟨[], [], []⟩, rfl, (by unfold xn; dsimp only; rw [if_neg k1, if_neg k3, if_pos k2, if_neg (fun q => g9_16 (by have h : m.term = t.term + 1 := q.2; omega))]; rfl), (List.append_nil _).symm, (List.append_nil _).symm, hl0, hw.sel [0, 1, 2, 3, 4] rfl (by decide)⟩))
     ·
      refine zS 6 rfl rfl (gF g9_5) rfl hS (zS 7 rfl rfl (gF g9_5) rfl hS (zS 8 rfl rfl (gF g9_5) rfl hS (zS 9 rfl rfl (gF g9_5) rfl hS (zS 10 rfl rfl (gF g9_5) rfl hS (zS 11 rfl rfl (gF g9_5) rfl hS (zS 12 rfl rfl (gF g9_5) rfl hS (zS 13 rfl rfl (gF g9_5) rfl hS (zS 14 rfl rfl (gF g9_5) rfl hS (zC 15 rfl (yG (gF g9_5)) hS (zC 16 rfl (zU) hS (zS 17 rfl rfl rfl rfl hS (zS 18 rfl rfl rfl rfl hS ?_))))))))))))
      refine zS 19 rfl rfl rfl rfl hS (zS 20 rfl rfl rfl rfl hS (zC 21 rfl (yG rfl) hS (zX ?_)))
      refine (?_ : C _ _ _ _ _ _ _ (Own w S [ze cb t (yf y) a r b yv jb draw (pt ob), Res.nl b lv es, Res.lo y, vI yv yes, Res.ou ob o, Res.row b3 59 (MsgD.cells m)])) _ hw
      refine x8 rfl (zR ?_)
      exact zY (yM rfl (fun w' hw => ⟨({ t := t, r := r, lv := lv, es := es, y := y, yv := yv, yes := yes } : NdD), o, ⟨[], [], []⟩, rfl, (by unfold xn; dsimp only; rw [if_neg k1, if_neg k3, if_pos k2, if_neg (fun q => g9_5 q.1)]; rfl), (List.append_nil _).symm, (List.append_nil _).symm, hl0, hw.sel [0, 1, 2, 3, 4] rfl (by decide)⟩))
    ·
     have k2 : ¬ (m.a.kind = 2 ∧ m.a.flag = true) := c3
     refine yV (by kernel_rfl) (by kernel_rfl) (zL rfl (zI (o := 3) rfl) (zL rfl (zb 5 (v := Vn m.term) rfl rfl rfl) (zL rfl (zU) (zL rfl (zP rfl) (zL rfl (zI (o := 0) rfl) (zL rfl (zI (o := 0) rfl) (zL rfl (zb 0 (v := Vn t.term) rfl rfl rfl) (zL rfl (zBQ rfl rfl) (zL rfl (ya) (xN (zf rfl (fun c7 => ?_) (fun c7 => ?_))))))))))))
     ·
      refine zB (zD rfl (zJ (o := 3) rfl rfl (zM 5 (v := Vn m.term) rfl rfl rfl rfl (yc (cs := [Vn m.term, Vi 0]) (z := [Vn 0, Vi 0]) (pl := [(0, 1), (1, 1)]) (by kernel_rfl) (by kernel_rfl) rfl (zh rfl rfl (zJ (o := 0) rfl rfl (yH 0 rfl rfl rfl (xx rfl) rfl (zA (zB (zD rfl (zH rfl rfl (fun w' hw => (zFE cb jb ({ t with term := m.term, vote := 0 } : TimD) a r b yv draw ob _ _ 0 w' (fun q h => by have := (hld q h).looks; omega) hlo (hw.give [0, 2, 4] rfl (by decide))).mono ?_))))))))))))
      rintro _ w1 ⟨xw5_, rfl, hO⟩
      refine (?_ : CL _ _ _ _ _ _ (Own w S [Res.nl b lv es, vI yv yes, Res.row b3 59 (MsgD.cells m), ze cb ({ t with term := m.term, vote := 0 } : TimD) (.pointer none) a ({ role := 1, who := 0, commit := r.commit } : RolD) b (.slice none 0 0) jb draw (pt ob), Res.ou ob ({ o with xv := xw5_, losts := xt (y.map Prod.snd) } : OutD)])) w1 (hw.frameL [0, 2, 4] rfl hO)
      refine zA (zk [0, 1, 2, 4] rfl (by decide) (by kernel_rfl) (fun w' hw hS => zC 0 rfl (zU) hS (zC 1 rfl (zU) hS (zC 2 rfl (zP rfl) hS (zC 3 rfl (zI (o := 2) rfl) hS (zC 4 rfl (zI (o := 0) rfl) hS (zC 6 rfl (zU) hS (yA 5 7 ?_ ?_))))))))
      ·
       refine zr 5 rfl hw (zM 3 (v := Vi t.now) rfl rfl rfl rfl (zE [0, 1, 2, 4] rfl (by decide) (fun w' hw hS => zN 7 rfl hw (zH rfl rfl (fun w' hw => (x9 cb jb ({ t with term := m.term, vote := 0 } : TimD) a ({ role := 1, who := 0, commit := r.commit } : RolD) b (.pointer none) (.slice none 0 0) (pt ob) draw w' ‹_› (by first | omega | (simp <;> omega)) (hw.give [3] rfl (by decide))).mono ?_)))))
       rintro _ w1 ⟨rfl, hO⟩
       refine (?_ : CL _ _ _ _ _ _ (Own w S [Res.nl b lv es, vI yv yes, Res.row b3 59 (MsgD.cells m), Res.ou ob ({ o with xv := xw5_, losts := xt (y.map Prod.snd) } : OutD), ze cb ({ t with term := m.term, vote := 0 } : TimD) (.pointer none) a ({ role := 1, who := 0, commit := r.commit } : RolD) b (.slice none 0 0) jb draw (pt ob)])) w1 (hw.frameL [3] rfl hO)
       refine zE [0, 1, 2, 3] rfl (by decide) (fun w' hw hS => zC 8 rfl (yw rfl rfl (zy (by omega))) hS (zC 9 rfl (zP rfl) hS (zC 10 rfl (zI (o := 2) rfl) hS (zC 11 rfl (zI (o := 2) rfl) hS (zN 12 rfl hw (zo 4 rfl rfl rfl rfl rfl (zE [0, 1, 2, 3] rfl (by decide) (fun w' hw hS => zX ?_))))))))
       exact ⟨({ t with term := m.term, vote := 0, due := t.now + yl a draw } : TimD), ⟨1, 0, r.commit⟩, none, .slice none 0 0, [], ({ o with xv := xw5_, losts := xt (y.map Prod.snd) } : OutD), ⟨rfl, rfl, trivial⟩, ⟨.inl ⟨by show t.term < m.term; omega, rfl⟩, ⟨⟨⟨fun h => absurd (show (1 : Int) = 3 from h) (by decide), by show m.term ≤ _; omega⟩, by show _ ≤ m.term; omega, hn, hh, ⟨fun h => absurd (show (1 : Int) = 4 from h) (by decide), fun h => by cases h⟩, (fun q h => by cases h), Nat.zero_le _⟩, by rw [if_pos (show t.term < m.a.term by show t.term < m.term; omega)]; exact losts_er.symm⟩, ⟨rfl, rfl⟩, k3, k2⟩, (zt (Own.starNil hw) 3 1).sel [4, 0, 5, 6, 3, 2] rfl (by decide)⟩
      ·
       refine zr 7 rfl hw (zH rfl rfl (fun w' hw => (x9 cb jb ({ t with term := m.term, vote := 0 } : TimD) a ({ role := 1, who := 0, commit := r.commit } : RolD) b (.pointer none) (.slice none 0 0) (pt ob) draw w' ‹_› (by first | omega | (simp <;> omega)) (hw.give [3] rfl (by decide))).mono ?_))
       rintro _ w1 ⟨rfl, hO⟩
       refine (?_ : CL _ _ _ _ _ _ (Own w S [Res.nl b lv es, vI yv yes, Res.row b3 59 (MsgD.cells m), Res.ou ob ({ o with xv := xw5_, losts := xt (y.map Prod.snd) } : OutD), ze cb ({ t with term := m.term, vote := 0 } : TimD) (.pointer none) a ({ role := 1, who := 0, commit := r.commit } : RolD) b (.slice none 0 0) jb draw (pt ob)])) w1 (hw.frameL [3] rfl hO)
       refine zE [0, 1, 2, 3] rfl (by decide) (fun w' hw hS => zN 5 rfl hw (zM 4 (v := Vi t.now) rfl rfl rfl rfl (zE [0, 1, 2, 3] rfl (by decide) (fun w' hw hS => zC 8 rfl (yw rfl rfl (zy (by omega))) hS (zC 9 rfl (zP rfl) hS (zC 10 rfl (zI (o := 2) rfl) hS (zC 11 rfl (zI (o := 2) rfl) hS (zN 12 rfl hw (zo 4 rfl rfl rfl rfl rfl (zE [0, 1, 2, 3] rfl (by decide) (fun w' hw hS => zX ?_)))))))))))
       exact ⟨({ t with term := m.term, vote := 0, due := t.now + yl a draw } : TimD), ⟨1, 0, r.commit⟩, none, .slice none 0 0, [], ({ o with xv := xw5_, losts := xt (y.map Prod.snd) } : OutD), ⟨rfl, rfl, trivial⟩, ⟨.inl ⟨by show t.term < m.term; omega, rfl⟩, ⟨⟨⟨fun h => absurd (show (1 : Int) = 3 from h) (by decide), by show m.term ≤ _; omega⟩, by show _ ≤ m.term; omega, hn, hh, ⟨fun h => absurd (show (1 : Int) = 4 from h) (by decide), fun h => by cases h⟩, (fun q h => by cases h), Nat.zero_le _⟩, by rw [if_pos (show t.term < m.a.term by show t.term < m.term; omega)]; exact losts_er.symm⟩, ⟨rfl, rfl⟩, k3, k2⟩, (zt (Own.starNil hw) 3 1).sel [4, 0, 5, 6, 3, 2] rfl (by decide)⟩
     ·
      have n1 : ¬ t.term < m.a.term := fun q => c7 (by have h : t.term < m.term := q; omega)
      refine yV (by kernel_rfl) (by kernel_rfl) (zL rfl (zI (o := 3) rfl) (zL rfl (zb 5 (v := Vn m.term) rfl rfl rfl) (zL rfl (zU) (zL rfl (zP rfl) (zL rfl (zI (o := 0) rfl) (zL rfl (zI (o := 0) rfl) (zL rfl (zb 0 (v := Vn t.term) rfl rfl rfl) (zL rfl (zAo rfl rfl) (zL rfl (ya) (xN (zf rfl (fun c8 => ?_) (fun c8 => ?_))))))))))))
      ·
       have n2 : m.a.term < t.term := by show m.term < _; omega
       refine zQ (zB (zJ (o := 0) rfl rfl (zM 5 (v := Vi m.kind) rfl rfl rfl rfl (zA (zc (zQ (zB (yZ rfl rfl rfl (zK rfl (zA (zf rfl (fun c9 => ?_) (fun c9 => ?_))))))))))))
       ·
        refine zR (kc rfl c9 (zW (zD rfl (zJ (o := 1) rfl rfl (zM 5 (v := Vi m.src) rfl rfl rfl rfl (zD rfl (zD rfl (yc (cs := [Vi 6, Vi 0, Vi m.src, Vn 0, Vn (0 + es.length), Vn ((LG 0 0 es).end_), Vn 0, Vn 0, .bool false, .slice none 0 0, .slice none 0 0, .slice none 0 0, Vi 0, .slice none 0 0]) (z := [Vi 0, Vi 0, Vi 0, Vn 0, Vn 0, Vn 0, Vn 0, Vn 0, .bool false, .slice none 0 0, .slice none 0 0, .slice none 0 0, Vi 0, .slice none 0 0]) (pl := [(0, 1), (1, 1), (2, 1), (3, 1), (4, 1), (5, 1), (6, 1), (7, 1), (8, 1), (9, 1), (10, 2), (12, 1), (13, 1)]) (by kernel_rfl) (by kernel_rfl) rfl (z4 (e := 59) (sz := 14) (vs := [.agg #[Vi 6, Vi 0, Vi m.src, Vn 0, Vn (0 + es.length), Vn ((LG 0 0 es).end_), Vn 0, Vn 0, .bool false, .slice none 0 0, .slice none 0 0, .slice none 0 0, Vi 0, .slice none 0 0]]) (by kernel_rfl) rfl rfl (by simp [Value.cells, MsgD.cells, ConfD.cells]) (by decide) rfl (fun b163 => ?_))))))))))
        refine zx [ze cb t (yf y) a r b yv jb draw (pt ob), Res.nl b lv es, Res.lo y, vI yv yes, Res.ou ob o, Res.row b3 59 (MsgD.cells m), vM (.slice (some ⟨b163, 0, none⟩) 1 1) [(yP 6 0 m.src 0 (0 + es.length) ((LG 0 0 es).end_) 0 0 false (.slice none 0 0) [])], sM [(yP 6 0 m.src 0 (0 + es.length) ((LG 0 0 es).end_) 0 0 false (.slice none 0 0) [])]] (fun w' hw => hw.msg0 ⟨rfl, rfl, rfl⟩ rfl rfl) ?_
        refine zH rfl rfl (fun w' hw => (kP cb jb t a r b (yf y) yv draw ob _ (.slice (some ⟨b163, 0, none⟩) 1 1) [(yP 6 0 m.src 0 (0 + es.length) ((LG 0 0 es).end_) 0 0 false (.slice none 0 0) [])] w' (by first | omega | (simp <;> omega) | (constructor <;> (first | omega | (simp <;> omega)))) (hw.give [0, 4, 6, 7] rfl (by decide))).mono ?_)
        rintro _ w1 ⟨mv'6_, rfl, hO⟩
        refine (?_ : CL _ _ _ _ _ _ (Own w S [Res.nl b lv es, Res.lo y, vI yv yes, Res.row b3 59 (MsgD.cells m), ze cb t (yf y) a r b yv jb draw (pt ob), Res.ou ob ({ o with mv := mv'6_, msgs := o.msgs ++ [(yP 6 0 m.src 0 (0 + es.length) ((LG 0 0 es).end_) 0 0 false (.slice none 0 0) [])].map (z8 a t.term) } : OutD)])) w1 (hw.frameL [0, 4, 6, 7] rfl hO)
        refine zA ?_
        exact zY (yM rfl (fun w' hw => ⟨({ t := t, r := r, lv := lv, es := es, y := y, yv := yv, yes := yes } : NdD), ({ o with mv := mv'6_, msgs := o.msgs ++ [z8 a t.term (yP 6 0 m.src 0 (0 + es.length) (LG 0 0 es).end_ 0 0 false (.slice none 0 0) [])] } : OutD), ⟨[⟨6, a.id, m.src, t.term, es.length, (LG 0 0 es).end_, 0, 0, false, [], ⟨[], []⟩, 0, []⟩], [], []⟩, rfl, (by unfold xn; dsimp only; rw [if_neg k1, if_neg k3, if_neg k2, if_neg n1, if_pos n2, if_pos (show m.a.kind = 5 from c9), List.length_map]; rfl), (by rw [List.map_append, zBc (show (6 : Int) ≠ 1 ∧ (6 : Int) ≠ 2 by decide), Nat.zero_add es.length]; rfl), (List.append_nil _).symm, hl0, hw.sel [4, 0, 1, 2, 5] rfl (by decide)⟩))
       ·
        refine zW (yZ rfl rfl rfl (zK rfl (zA (y1 rfl hk.2.1 (zB (yZ rfl rfl rfl (zK rfl (zA (zf rfl (fun c12 => ?_) (fun c12 => ?_))))))))))
        ·
         refine zW (zD rfl (zJ (o := 1) rfl rfl (zM 5 (v := Vi m.src) rfl rfl rfl rfl (yc (cs := [Vi 4, Vi 0, Vi m.src, Vn 0, Vn 0, Vn 0, Vn 0, Vn 0, .bool false, .slice none 0 0, .slice none 0 0, .slice none 0 0, Vi 0, .slice none 0 0]) (z := [Vi 0, Vi 0, Vi 0, Vn 0, Vn 0, Vn 0, Vn 0, Vn 0, .bool false, .slice none 0 0, .slice none 0 0, .slice none 0 0, Vi 0, .slice none 0 0]) (pl := [(0, 1), (1, 1), (2, 1), (3, 1), (4, 1), (5, 1), (6, 1), (7, 1), (8, 1), (9, 1), (10, 2), (12, 1), (13, 1)]) (by kernel_rfl) (by kernel_rfl) rfl (z4 (e := 59) (sz := 14) (vs := [.agg #[Vi 4, Vi 0, Vi m.src, Vn 0, Vn 0, Vn 0, Vn 0, Vn 0, .bool false, .slice none 0 0, .slice none 0 0, .slice none 0 0, Vi 0, .slice none 0 0]]) (by kernel_rfl) rfl rfl (by simp [Value.cells, MsgD.cells, ConfD.cells]) (by decide) rfl (fun b171 => ?_))))))
         refine zx [ze cb t (yf y) a r b yv jb draw (pt ob), Res.nl b lv es, Res.lo y, vI yv yes, Res.ou ob o, Res.row b3 59 (MsgD.cells m), vM (.slice (some ⟨b171, 0, none⟩) 1 1) [(yP 4 0 m.src 0 0 0 0 0 false (.slice none 0 0) [])], sM [(yP 4 0 m.src 0 0 0 0 0 false (.slice none 0 0) [])]] (fun w' hw => hw.msg0 ⟨rfl, rfl, rfl⟩ rfl rfl) ?_
         refine zH rfl rfl (fun w' hw => (kP cb jb t a r b (yf y) yv draw ob _ (.slice (some ⟨b171, 0, none⟩) 1 1) [(yP 4 0 m.src 0 0 0 0 0 false (.slice none 0 0) [])] w' (by first | omega | (simp <;> omega) | (constructor <;> (first | omega | (simp <;> omega)))) (hw.give [0, 4, 6, 7] rfl (by decide))).mono ?_)
         rintro _ w1 ⟨mv'7_, rfl, hO⟩
         refine (?_ : CL _ _ _ _ _ _ (Own w S [Res.nl b lv es, Res.lo y, vI yv yes, Res.row b3 59 (MsgD.cells m), ze cb t (yf y) a r b yv jb draw (pt ob), Res.ou ob ({ o with mv := mv'7_, msgs := o.msgs ++ [(yP 4 0 m.src 0 0 0 0 0 false (.slice none 0 0) [])].map (z8 a t.term) } : OutD)])) w1 (hw.frameL [0, 4, 6, 7] rfl hO)
         refine zA ?_
         exact zY (yM rfl (fun w' hw => ⟨({ t := t, r := r, lv := lv, es := es, y := y, yv := yv, yes := yes } : NdD), ({ o with mv := mv'7_, msgs := o.msgs ++ [z8 a t.term (yP 4 0 m.src 0 0 0 0 0 false (.slice none 0 0) [])] } : OutD), ⟨[one a 4 m.src t.term false], [], []⟩, rfl, (by unfold xn; dsimp only; rw [if_neg k1, if_neg k3, if_neg k2, if_neg n1, if_pos n2, if_neg (show ¬ m.a.kind = 5 from c9), if_pos (show m.a.kind = 3 from c12)]; rfl), (by rw [List.map_append, zKB (by decide)]), (List.append_nil _).symm, hl0, hw.sel [4, 0, 1, 2, 5] rfl (by decide)⟩))
        ·
         refine zR ?_
         exact zY (yM rfl (fun w' hw => ⟨({ t := t, r := r, lv := lv, es := es, y := y, yv := yv, yes := yes } : NdD), o, ⟨[], [], []⟩, rfl, (by unfold xn; dsimp only; rw [if_neg k1, if_neg k3, if_neg k2, if_neg n1, if_pos n2, if_neg (show ¬ m.a.kind = 5 from c9), if_neg (show ¬ m.a.kind = 3 from c12)]; rfl), (List.append_nil _).symm, (List.append_nil _).symm, hl0, hw.sel [0, 1, 2, 3, 4] rfl (by decide)⟩))
      ·
       exact yk (fun w' hw => ⟨t, r, y, yv, yes, o, ⟨rfl, rfl, trivial⟩, ⟨.inr ⟨by show t.term = m.term; omega, rfl⟩, ⟨⟨htm, hen, hn, hh, hro, hld, hy⟩, by rw [if_neg n1]; exact hl0⟩, ⟨rfl, rfl⟩, k3, k2⟩, hw⟩)
  obtain ⟨hA, ⟨hH, hL⟩, ⟨hM, hR⟩, k3, k2⟩ := hΦ
  refine zW (zD rfl (yY (cs := (MsgD.cells m)) 5 rfl rfl rfl (zH rfl rfl (fun w' hw => (zGk cb jb t' a r' b yv' draw _ _ ob o2 y' yes' m w' ‹_› (by first | omega | (simp <;> omega)) (by first | omega | (simp <;> omega)) (by first | omega | (simp <;> omega) | (constructor <;> (first | omega | (simp <;> omega)))) hH.htm hH.hen hH.hn hH.hh (by rw [hM]; exact ho) (by rw [hR]; exact hrd) ‹_› (by first | omega | (simp <;> omega)) ‹_› hH.hro hH.hld hH.hy hk.2 (hw.give [0, 1, 2, 3, 4] rfl (by decide)) (rd_m.at hw [0, 1, 2, 3, 4] rfl)).mono ?_))))
  rintro _ w1 ⟨n8_, o'9_, x10_, rfl, hf22_2, hf22_2_1, hf22_2_2, hf22_2_3, hO⟩
  refine (?_ : CL _ _ _ _ _ _ (Own w S [Res.row b3 59 (MsgD.cells m), ze cb n8_.t (yf n8_.y) a n8_.r b n8_.yv jb draw (pt ob), Res.nl b n8_.lv n8_.es, Res.lo n8_.y, vI n8_.yv n8_.yes, Res.ou ob o'9_])) w1 (hw.frameL [0, 1, 2, 3, 4] rfl hO)
  exact zj (yM rfl (fun w' hw => ⟨n8_, o'9_, ({ x10_ with losts := (if t.term < m.a.term then xt (y.map fun q => q.2.er) else []) } : OutA), rfl, zGr (n := { t := t, r := r, E := es.map EntD.toEntA, ld := y.map fun q => q.2.er, yes := yes }) hA hf22_2 k1 k3 k2, (by rw [hf22_2_1, hM]), (by rw [hf22_2_2, hR]), (by rw [hf22_2_3, hL]), hw.sel [1, 2, 3, 4, 5] rfl (by decide)⟩))
end Go.Proofs.YtkkeknmkipkbmaaGreat
