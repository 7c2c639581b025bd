import Derived.Test.YtkkeknmkipkbmaaGreatCoF
set_option linter.unusedSectionVars false
set_option linter.unusedSimpArgs false
set_option linter.unusedVariables false
set_option maxRecDepth 10000
namespace Go.Proofs.YtkkeknmkipkbmaaGreat
open Go Go.Sc Go.Proofs
def xj (es : List EntA) (p : PeerM) : List EntA := if p.flight < 4 ∧ (p.opn = true ∨ p.flight = 0) then ((LogA.mk 0 0 es).fromE p.next 8).1 else []
def xV (es : List EntA) (p : PeerM) : PeerM := if (xj es p).length = 0 then p else { p with flight := p.flight + 1, next := if p.opn = true then p.next + (xj es p).length else p.next }
def kD (a : StA) (term commit rounds : Nat) (es : List EntA) (p : PeerM) (force : Bool) : List MsgA :=
  if (xj es p).length = 0 ∧ force = false then [] else [⟨5, a.id, p.id, term, p.next - 1, ((LogA.mk 0 0 es).termE (p.next - 1)).1, commit, rounds, false, xj es p, ⟨[], []⟩, 0, []⟩]
theorem zFy {es : List EntA} {p : PeerM} : (xj es p).length ≤ 8 := by
  unfold xj LogA.fromE
  split
  · split
    · simp
    · split
      · simp
      · split
        · simp
        · simp only [List.length_take]; show min 8 _ ≤ 8; omega
  · simp
theorem zFQ {a : StA} {term commit rounds x : Nat} {e : Int} {E : List EntA} {p : PeerM} {force : Bool} {ev : Value} {rs : List EntD} (hrs : rs.map EntD.toEntA = xj E p) (hx : (LogA.mk 0 0 E).termE (p.next - 1) = (x, e)) (h : ¬ (rs.length = 0 ∧ force = false)) :
    ([yP 5 0 p.id 0 (p.next - 1) x commit rounds false ev rs].map (z8 a term)).map MsgD.a = kD a term commit rounds E p force := by
  unfold kD
  rw [if_neg (by rw [← hrs, List.length_map]; exact h), ← hrs, hx]; rfl
theorem zCv {E : List EntA} {p : PeerM} (h : (xj E p).length = 0) : xV E p = p := if_pos h
theorem zGA {E : List EntA} {p : PeerM} {n : Nat} (hn : n = (xj E p).length) (h : ¬ n = 0) (h2 : p.opn = true) : xV E p = { p with next := p.next + n, flight := p.flight + 1 } := by unfold xV; rw [if_neg (by omega), if_pos h2, hn]
theorem zEU {E : List EntA} {p : PeerM} {n : Nat} (hn : n = (xj E p).length) (h : ¬ n = 0) (h2 : p.opn = false) : xV E p = { p with flight := p.flight + 1 } := by unfold xV; rw [if_neg (by omega), if_neg (by rw [h2]; simp)]
theorem zAQ {ps : List PeerP} {k : Nat} (hk : k < ps.length) : zi ps k (zG ps k).2 = ps := by
  unfold zi
  refine List.ext_getElem? fun i => ?_
  rw [List.getElem?_set]
  split
  · rename_i e; subst e
    exact (xB hk).symm
  · rfl
structure PeerM.bd (n : Nat) (p : PeerM) : Prop where
  next : 1 ≤ p.next ∧ p.next ≤ n + 1
  mtch : p.mtch ≤ n
  flight : 0 ≤ p.flight ∧ p.flight ≤ 4
theorem zBN {S : List Nat} (cb jb : Nat) (t : TimD) (a : StA) (r : RolD) (b : StB) (yv : Value) (draw : Nat) (lv : Value) (es : List EntD) (ld : Nat) (l : LdD) (ob : Nat) (o : OutD) (k : Nat) (force : Bool) (w : World) (hg : (LG 0 0 es).good) (hl : es.length ≤ 1000000) (hvl : b.vs.length ≤ 12) (hk : k < l.peers.length) (ho : o.msgs.length ≤ 100000) (hp : (zG l.peers k).2.bd 1000000) (hr : l.rounds.length ≤ 1000000) (hin : Own w S [ze cb t (pt ld) a r b yv jb draw (pt ob), Res.nl b lv es, Res.ld ld l, Res.ou ob o] w) : Rets Tryz.prog 79 #[pt cb, pt ((zG l.peers k).1), .bool force] w fun u_ w' => ∃ (mv' : Value) (ms : List MsgD), u_ = .tuple #[] ∧ ms.map MsgD.a = kD a t.term r.commit l.rounds.length (es.map EntD.toEntA) (zG l.peers k).2 force ∧ Own w S [ze cb t (pt ld) a r b yv jb draw (pt ob), Res.nl b lv es, Res.ld ld ({ l with peers := zi l.peers k (xV (es.map EntD.toEntA) (zG l.peers k).2) } : LdD), Res.ou ob ({ o with mv := mv', msgs := o.msgs ++ ms } : OutD)] w' := by
  have hb := (LG.le hg).1
  have hpn := hp.next
  have hpf := hp.flight
  refine zT Tryz.func79 rfl Tryz.ntmps79 hin ?_
  refine zQ (zk [0, 1, 2, 3] rfl (by decide) (by kernel_rfl) (fun w' hw hS => zC 0 rfl (zU) hS (zC 1 rfl (zP rfl) hS (zC 2 rfl (zI (o := 0) rfl) hS (zC 3 rfl (jp (l := l.peers) 2 2 k 0 rfl rfl (by first | assumption | (simp only [zi, List.length_set]; first | assumption | omega) | omega) rfl rfl rfl (by kernel_rfl)) hS (zC 4 rfl (zU) hS (zC 5 rfl (zP rfl) hS (zC 6 rfl (zI (o := 23) rfl) hS (zC 7 rfl (zb 0 (v := Vn r.commit) rfl rfl rfl) hS (zC 8 rfl (zU) hS (zC 9 rfl (zP rfl) hS (zC 10 rfl (zI (o := 9) rfl) hS ?_))))))))))))
  refine zC 11 rfl (zb 0 (v := pt ld) rfl rfl rfl) hS (zC 12 rfl (zP rfl) hS (zC 13 rfl (zI (o := 2) rfl) hS (zC 14 rfl (kh (v := l.rv) 2 0 2 rfl rfl rfl rfl (by kernel_rfl)) hS (zC 15 rfl (zAc (pC 2 4 rfl rfl) rfl) hS (zC 16 rfl (kj (by kernel_rfl) rfl (y6 (by omega)) (by kernel_rfl)) hS (zC 17 rfl (zAD (cs := [Vi 5, Vi 0, Vi (((zG l.peers k).2).id), Vn 0, Vn 0, Vn 0, Vn r.commit, Vn l.rounds.length, .bool false, .slice none 0 0, .slice none 0 0, .slice none 0 0, Vi 0, .slice none 0 0]) (z := [Vi 0, Vi 0, Vi 0, Vn 0, Vn 0, Vn 0, Vn 0, Vn 0, .bool false, .slice none 0 0, .slice none 0 0, .slice none 0 0, Vi 0, .slice none 0 0]) (pl := [(0, 1), (1, 1), (2, 1), (3, 1), (4, 1), (5, 1), (6, 1), (7, 1), (8, 1), (9, 1), (10, 2), (12, 1), (13, 1)]) (by kernel_rfl) (by kernel_rfl)) hS (zN 18 rfl hw (yS (v := .agg #[Vi 0, Vi 0, Vi 0, Vn 0, Vn 0, Vn 0, Vn 0, Vn 0, .bool false, .slice none 0 0, .slice none 0 0, .slice none 0 0, Vi 0, .slice none 0 0]) (by kernel_rfl) rfl (fun b6 => zE [0, 1, 2, 3] rfl (by decide) (fun w' hw hS => zN 19 rfl hw (yH 4 rfl rfl rfl (xx rfl) rfl (zE [0, 1, 2, 3] rfl (by decide) (fun w' hw hS => ?_)))))))))))))
  refine zX ?_
  refine (?_ : C _ _ _ _ _ _ _ (Own w S [ze cb t (pt ld) a r b yv jb draw (pt ob), Res.nl b lv es, Res.ld ld l, Res.ou ob o, Res.row b6 59 [Vi 5, Vi 0, Vi (((zG l.peers k).2).id), Vn 0, Vn 0, Vn 0, Vn r.commit, Vn l.rounds.length, .bool false, .slice none 0 0, .slice none 0 0, .slice none 0 0, Vi 0, .slice none 0 0]])) _ hw
  refine zQ (yV (by kernel_rfl) (by kernel_rfl) (zL rfl (zU) (zL rfl (zP rfl) (zL rfl (zI (o := 1) rfl) (zL rfl (jp (l := l.peers) 2 2 k 1 rfl rfl (by first | assumption | (simp only [zi, List.length_set]; first | assumption | omega) | omega) rfl rfl rfl (by kernel_rfl)) (zL rfl (zU) (zL rfl (zP rfl) (zL rfl (zI (o := 24) rfl) (zL rfl (zI (o := 0) rfl) (zL rfl (zb 0 (v := Vn 0) rfl rfl rfl) (zL rfl (zE2 rfl rfl) (xN ?_))))))))))))
  refine zf rfl (fun c1 => ?_) (fun c1 => ?_)
  ·
   exact absurd c1 (by omega)
  ·
   refine zR (zCj (fun (ev : Value) (rs : List EntD) => [(0, pt cb), (1, pt ((zG l.peers k).1)), (2, .bool force), (6, pt b6)]) (fun (ev : Value) (rs : List EntD) => rs.map EntD.toEntA = xj (es.map EntD.toEntA) (zG l.peers k).2) (fun (ev : Value) (rs : List EntD) => [ze cb t (pt ld) a r b yv jb draw (pt ob), Res.nl b lv es, Res.ld ld l, Res.ou ob o, Res.row b6 59 [Vi 5, Vi 0, Vi ((zG l.peers k).2.id), Vn 0, Vn 0, Vn 0, Vn r.commit, Vn l.rounds.length, .bool false, ev, .slice none 0 0, .slice none 0 0, Vi 0, .slice none 0 0], vE ev rs, sE rs]) ?_ (fun ev rs g hΦ => ?_))
   ·
    refine zB (zD rfl (zh rfl rfl (zJ (o := 4) rfl rfl (xd (l := l.peers) 2 2 k 4 rfl rfl (by first | assumption | (simp only [zi, List.length_set]; first | assumption | omega) | omega) rfl rfl rfl (by kernel_rfl) rfl (yJ rfl rfl rfl (zD rfl (yd (q := (((zG l.peers k).2).flight) < 4) 11 5 [145, 144, 143, 142, 141, 140, 139, 138, 137, 136, 135] (((((zG l.peers k).2).opn) = true) ∨ ((((zG l.peers k).2).flight) = 0)) rfl rfl rfl rfl rfl rfl trivial rfl (fun h12_5 => ?_) (fun g12_17 => ?_))))))))
    ·
     refine zO rfl (gT h12_5) (zD rfl (zO rfl (gT h12_5) (zh rfl rfl (zO rfl (gT h12_5) (zJ (o := 6) rfl rfl (zO rfl (gT h12_5) (xd (l := l.peers) 2 2 k 6 rfl rfl (by first | assumption | (simp only [zi, List.length_set]; first | assumption | omega) | omega) rfl rfl rfl (by kernel_rfl) rfl (zO rfl (gT h12_5) (zD rfl (yT (q := (((zG l.peers k).2).opn) = true) 5 10 [144, 143, 142, 141, 140] ((((zG l.peers k).2).flight) = 0) rfl rfl (xC _) rfl rfl rfl ⟨_, rfl, rfl, gT h12_5⟩ rfl (fun h12_10 => ?_) (fun g12_16 => ?_)))))))))))
     ·
      refine zO rfl (bF h12_10) (zD rfl (zO rfl (bF h12_10) (zh rfl rfl (zO rfl (bF h12_10) (zJ (o := 4) rfl rfl (zO rfl (bF h12_10) (xd (l := l.peers) 2 2 k 4 rfl rfl (by first | assumption | (simp only [zi, List.length_set]; first | assumption | omega) | omega) rfl rfl rfl (by kernel_rfl) rfl (zO rfl (bF h12_10) (yZ rfl rfl rfl ?_)))))))))
      exact yK rfl (fun _ hw => hw)
     exact yK rfl (fun _ hw => hw)
    refine zA (zf rfl (fun c2 => ?_) (fun c2 => ?_))
    ·
     refine zk [0, 1, 2, 3] rfl (by decide) (by kernel_rfl) (fun w' hw hS => zC 0 rfl (zU) hS (zC 1 rfl (zP rfl) hS (zC 2 rfl (zI (o := 29) rfl) hS (zC 3 rfl (zb 0 (v := pt b.lb) rfl rfl rfl) hS (zC 4 rfl (zU) hS (zC 5 rfl (zP rfl) hS (zC 6 rfl (zI (o := 1) rfl) hS (zC 7 rfl (jp (l := l.peers) 2 2 k 1 rfl rfl (by first | assumption | (simp only [zi, List.length_set]; first | assumption | omega) | omega) rfl rfl rfl (by kernel_rfl)) hS (zN 8 rfl hw (zH rfl rfl (fun w' hw => (zGG b.lb 0 0 lv es (((zG l.peers k).2).next) 8 w' (by first | omega | (simp <;> omega)) ‹_› (hw.part0 1 0 rfl rfl) (hw.partSl0 1 1 rfl rfl) (EntD.rd.part0 1 2 rfl rfl hw)).mono ?_)))))))))))
     rintro _ w1 ⟨r1_, rs2_, e3_, rfl, hf13_8, hO⟩
     refine (?_ : CL _ _ _ _ _ _ (Own w S [ze cb t (pt ld) a r b yv jb draw (pt ob), Res.nl b lv es, Res.ld ld l, Res.ou ob o, Res.row b6 59 [Vi 5, Vi 0, Vi (((zG l.peers k).2).id), Vn 0, Vn 0, Vn 0, Vn r.commit, Vn l.rounds.length, .bool false, .slice none 0 0, .slice none 0 0, .slice none 0 0, Vi 0, .slice none 0 0], vE r1_ rs2_, sE rs2_])) w1 (hw.frame0 hO)
     refine zE [0, 1, 2, 3] rfl (by decide) (fun w' hw hS => zC 9 rfl (zU) hS (zC 10 rfl (yx (vs := [r1_, Vi e3_]) rfl rfl) hS (zC 11 rfl (yx (vs := [r1_, Vi e3_]) rfl rfl) hS (zC 12 rfl (zI (o := 9) rfl) hS (zN 13 rfl hw ?_)))))
     refine zg (fun w' hw => Own.cell1Vec (i := 5) rfl hw) (fun hc2_ => ?_)
     refine zo 4 rfl rfl rfl hc2_ rfl (zE [0, 1, 2, 3] rfl (by decide) (fun w' hw hS => zX ?_))
     exact ⟨r1_, rs2_, ⟨rfl, rfl, rfl, rfl, trivial⟩, (by unfold xj; rw [if_pos c2]; exact (congrArg Prod.fst hf13_8).symm), hw⟩
    ·
     exact yk (fun w' hw => ⟨.slice none 0 0, [], ⟨rfl, rfl, rfl, rfl, trivial⟩, (by unfold xj; rw [if_neg c2]; rfl), (Own.starNil (zt hw 81 5))⟩)
   have hrs := hΦ
   have hrl : rs.length = (xj (es.map EntD.toEntA) (zG l.peers k).2).length := (by simpa using congrArg List.length hrs)
   have hr8 := zFy (es := es.map EntD.toEntA) (p := (zG l.peers k).2)
   refine zQ (zB (zJ (o := 9) rfl rfl (zM 4 (v := ev) rfl rfl rfl rfl (zq (pV 5 rfl) rfl rfl (yZ rfl rfl rfl (zD rfl (yd (q := ((rs.length : Nat) : Int) = 0) 2 4 [166, 165] ((!force) = true) rfl rfl rfl rfl rfl rfl trivial rfl (fun h14_4 => ?_) (fun g14_7 => ?_))))))))
   ·
    refine zO rfl (gT h14_4) (zD rfl (zO rfl (gT h14_4) (zC2 (b := force) rfl rfl ?_)))
    exact yK (xC _) (fun _ hw => hw)
   refine zA (zf rfl (fun c3 => ?_) (fun c3 => ?_))
   ·
    have hq : rs.length = 0 ∧ force = false := ⟨by omega, by simpa using c3.2⟩
    exact zY (yM rfl (fun w' hw => ⟨o.mv, [], rfl, (by unfold kD; rw [if_pos ⟨by omega, hq.2⟩]; rfl), (by rw [zCv (by omega), zAQ hk, List.append_nil]; exact hw.sel [0, 1, 2, 3] rfl (by decide))⟩))
   ·
    have hq : ¬ (rs.length = 0 ∧ force = false) := fun q => c3 ⟨by omega, by simpa using q.2⟩
    refine zR (zB (zD rfl (zh rfl rfl (zJ (o := 1) rfl rfl (xd (l := l.peers) 2 2 k 1 rfl rfl (by first | assumption | (simp only [zi, List.length_set]; first | assumption | omega) | omega) rfl rfl rfl (by kernel_rfl) rfl (kE (c := (((zG l.peers k).2.next - 1 : Nat) : Int)) rfl rfl (ws (a := (zG l.peers k).2.next) (b := 1) (by omega) (by omega)) rfl (zJ (o := 4) rfl rfl (zo 4 rfl rfl rfl rfl rfl (zA (zQ (zk [0, 1, 2, 3, 5] rfl (by decide) (by kernel_rfl) (fun w' hw hS => zC 0 rfl (zU) hS ?_))))))))))))
    refine zC 1 rfl (zP rfl) hS (zC 2 rfl (zI (o := 29) rfl) hS (zC 3 rfl (zb 0 (v := pt b.lb) rfl rfl rfl) hS (zC 4 rfl (zI (o := 4) rfl) hS (zN 5 rfl hw (zM 4 (v := Vn ((zG l.peers k).2.next - 1)) rfl rfl rfl rfl (zE [0, 1, 2, 3, 5] rfl (by decide) (fun w' hw hS => zN 6 rfl hw (zH rfl rfl (fun w' hw => (zET b.lb 0 0 lv es ((zG l.peers k).2.next - 1) w' (by first | assumption | omega | (simp <;> omega) | (constructor <;> (first | omega | (simp only [zd]; omega) | (simp <;> omega)))) (by first | omega | (simp <;> omega)) (by first | omega | (simp <;> omega)) (hw.part0 1 0 rfl rfl) (hw.partSl0 1 1 rfl rfl) (EntD.rd.part0 1 2 rfl rfl hw)).mono ?_)))))))))
    rintro _ w1 ⟨x4_, e5_, rfl, hf16_6, hO⟩
    refine (?_ : CL _ _ _ _ _ _ (Own w S [ze cb t (pt ld) a r b yv jb draw (pt ob), Res.nl b lv es, Res.ld ld l, Res.ou ob o, Res.row b6 59 [Vi 5, Vi 0, Vi ((zG l.peers k).2.id), Vn 0, Vn ((zG l.peers k).2.next - 1), Vn 0, Vn r.commit, Vn l.rounds.length, .bool false, ev, .slice none 0 0, .slice none 0 0, Vi 0, .slice none 0 0], vE ev rs, sE rs])) w1 (hw.frame0 hO)
    refine zE [0, 1, 2, 3, 5] rfl (by decide) (fun w' hw hS => zC 7 rfl (zU) hS (zC 8 rfl (yx (vs := [Vn x4_, Vi e5_]) rfl rfl) hS (zC 9 rfl (yx (vs := [Vn x4_, Vi e5_]) rfl rfl) hS (zC 10 rfl (zI (o := 5) rfl) hS (zN 11 rfl hw (zo 4 rfl rfl rfl rfl rfl (zE [0, 1, 2, 3, 5] rfl (by decide) (fun w' hw hS => zX ?_))))))))
    refine (?_ : C _ _ _ _ _ _ _ (Own w S [ze cb t (pt ld) a r b yv jb draw (pt ob), Res.nl b lv es, Res.ld ld l, Res.ou ob o, Res.row b6 59 [Vi 5, Vi 0, Vi ((zG l.peers k).2.id), Vn 0, Vn ((zG l.peers k).2.next - 1), Vn x4_, Vn r.commit, Vn l.rounds.length, .bool false, ev, .slice none 0 0, .slice none 0 0, Vi 0, .slice none 0 0], vE ev rs, sE rs])) _ hw
    refine xD (fun (q : PeerM) => [(0, pt cb), (6, pt b6)]) (fun (q : PeerM) => q = xV (es.map EntD.toEntA) (zG l.peers k).2) (fun (q : PeerM) => [ze cb t (pt ld) a r b yv jb draw (pt ob), Res.nl b lv es, Res.ld ld ({ l with peers := zi l.peers k q } : LdD), Res.ou ob o, Res.row b6 59 [Vi 5, Vi 0, Vi ((zG l.peers k).2.id), Vn 0, Vn ((zG l.peers k).2.next - 1), Vn x4_, Vn r.commit, Vn l.rounds.length, .bool false, ev, .slice none 0 0, .slice none 0 0, Vi 0, .slice none 0 0], vE ev rs, sE rs]) ?_ (fun q g hΦ => ?_)
    ·
     refine zB (zJ (o := 9) rfl rfl (zM 4 (v := ev) rfl rfl rfl rfl (zq (pV 5 rfl) rfl rfl (yo rfl rfl rfl (zA (zf rfl (fun c4 => ?_) (fun c4 => ?_)))))))
     ·
      refine zB (zD rfl (zh rfl rfl (zJ (o := 4) rfl rfl (xd (l := l.peers) 2 2 k 4 rfl rfl (by first | assumption | (simp only [zi, List.length_set]; first | assumption | omega) | omega) rfl rfl rfl (by kernel_rfl) rfl (z3 rfl rfl (zy (by omega)) rfl (zh rfl rfl (zJ (o := 4) rfl rfl ?_)))))))
      refine zx [ze cb t (pt ld) a r b yv jb draw (pt ob), Res.nl b lv es, Res.ou ob o, Res.row b6 59 [Vi 5, Vi 0, Vi ((zG l.peers k).2.id), Vn 0, Vn ((zG l.peers k).2.next - 1), Vn x4_, Vn r.commit, Vn l.rounds.length, .bool false, ev, .slice none 0 0, .slice none 0 0, Vi 0, .slice none 0 0], vE ev rs, sE rs, yB ld l, vP l.pv l.peers, sP l.peers, vI l.av l.answered, vT l.rv l.rounds, vL l.kv l.looks] (fun w' hw => hw.starOpen 2 rfl) ?_
      refine zx [ze cb t (pt ld) a r b yv jb draw (pt ob), Res.nl b lv es, Res.ou ob o, Res.row b6 59 [Vi 5, Vi 0, Vi ((zG l.peers k).2.id), Vn 0, Vn ((zG l.peers k).2.next - 1), Vn x4_, Vn r.commit, Vn l.rounds.length, .bool false, ev, .slice none 0 0, .slice none 0 0, Vi 0, .slice none 0 0], vE ev rs, sE rs, yB ld l, vP l.pv l.peers, vI l.av l.answered, vT l.rv l.rounds, vL l.kv l.looks, xa ((zG l.peers k).1) ((zG l.peers k).2), sP (l.peers.eraseIdx k)] (fun w' hw => hw.starOut (g := PeerP.dres) (l := l.peers) 8 k (by first | assumption | (simp only [zi, List.length_set]; first | assumption | omega) | omega) rfl) ?_
      refine zo (cs := (PeerM.cells ((zG l.peers k).2))) 11 rfl rfl rfl rfl rfl (zA (zB (zD rfl (zh rfl rfl (zJ (o := 6) rfl rfl (zM 11 (v := .bool (((zG l.peers k).2).opn)) rfl rfl rfl rfl (zA (ja rfl (fun c5 => ?_) (fun c5 => ?_)))))))))
      ·
       refine zk [0, 1, 2, 3, 4, 6, 7, 8, 9, 10, 12] rfl (by decide) (by kernel_rfl) (fun w' hw hS => zC 0 rfl (zU) hS (zC 1 rfl (zP rfl) hS (zC 2 rfl (zI (o := 1) rfl) hS (zC 4 rfl (zI (o := 9) rfl) hS (zC 5 rfl (zb 3 (v := ev) rfl rfl rfl) hS (zC 6 rfl (zAc (pV 4 rfl) rfl) hS (zC 7 rfl (kj (by kernel_rfl) rfl (y6 (by omega)) (by kernel_rfl)) hS (zN 3 rfl hw (zM 11 (v := Vn (((zG l.peers k).2).next)) rfl rfl rfl rfl (zE [0, 1, 2, 3, 4, 6, 7, 8, 9, 10, 12] rfl (by decide) (fun w' hw hS => zC 8 rfl (yw rfl rfl (y6 (by omega))) hS (zC 9 rfl (zP rfl) hS ?_))))))))))))
       refine zC 10 rfl (zI (o := 1) rfl) hS (zN 11 rfl hw (zo 11 rfl rfl rfl rfl rfl (zE [0, 1, 2, 3, 4, 6, 7, 8, 9, 10, 12] rfl (by decide) (fun w' hw hS => zX ?_))))
       exact ⟨({ (zG l.peers k).2 with next := (zG l.peers k).2.next + rs.length, flight := (zG l.peers k).2.flight + 1 } : PeerM), ⟨rfl, rfl, trivial⟩, (zGA hrl (by omega) c5).symm, ((hw.peerIn 11 12 7 k ({ ((zG l.peers k).2) with next := (((zG l.peers k).2).next) + rs.length, flight := (((zG l.peers k).2).flight) + 1 } : PeerM) (by first | assumption | (simp only [zi, List.length_set]; first | assumption | omega) | omega) (by decide) rfl rfl rfl).starShut [6, 10, 11, 7, 8, 9] rfl (by decide)).sel [0, 1, 6, 2, 3, 4, 5] rfl (by decide)⟩
      ·
       exact yk (fun w' hw => ⟨({ (zG l.peers k).2 with flight := (zG l.peers k).2.flight + 1 } : PeerM), ⟨rfl, rfl, trivial⟩, (zEU hrl (by omega) c5).symm, ((hw.peerIn 11 12 7 k ({ ((zG l.peers k).2) with flight := (((zG l.peers k).2).flight) + 1 } : PeerM) (by first | assumption | (simp only [zi, List.length_set]; first | assumption | omega) | omega) (by decide) rfl rfl rfl).starShut [6, 10, 11, 7, 8, 9] rfl (by decide)).sel [0, 1, 6, 2, 3, 4, 5] rfl (by decide)⟩)
     ·
      exact yk (fun w' hw => ⟨(zG l.peers k).2, ⟨rfl, rfl, trivial⟩, (zCv (by omega)).symm, (by rw [zAQ hk]; exact hw)⟩)
    have hq2 := hΦ
    refine zW (zD rfl (yY 4 rfl rfl rfl (z4 (e := 59) (sz := 14) (vs := [.agg #[Vi 5, Vi 0, Vi ((zG l.peers k).2.id), Vn 0, Vn ((zG l.peers k).2.next - 1), Vn x4_, Vn r.commit, Vn l.rounds.length, .bool false, ev, .slice none 0 0, .slice none 0 0, Vi 0, .slice none 0 0]]) (by kernel_rfl) rfl rfl (by simp [Value.cells, MsgD.cells, ConfD.cells]) (by decide) rfl (fun b213 => ?_))))
    refine zx [ze cb t (pt ld) a r b yv jb draw (pt ob), Res.nl b lv es, Res.ld ld ({ l with peers := zi l.peers k q } : LdD), Res.ou ob o, Res.row b6 59 [Vi 5, Vi 0, Vi ((zG l.peers k).2.id), Vn 0, Vn ((zG l.peers k).2.next - 1), Vn x4_, Vn r.commit, Vn l.rounds.length, .bool false, ev, .slice none 0 0, .slice none 0 0, Vi 0, .slice none 0 0], vM (.slice (some ⟨b213, 0, none⟩) 1 1) [(yP 5 0 ((zG l.peers k).2.id) 0 ((zG l.peers k).2.next - 1) x4_ r.commit l.rounds.length false ev rs)], sM [(yP 5 0 ((zG l.peers k).2.id) 0 ((zG l.peers k).2.next - 1) x4_ r.commit l.rounds.length false ev rs)]] (fun w' hw => hw.msgIn (m := (yP 5 0 ((zG l.peers k).2.id) 0 ((zG l.peers k).2.next - 1) x4_ r.commit l.rounds.length false ev rs)) 5 6 (by decide) ⟨rfl, rfl, rfl⟩ rfl rfl) ?_
    refine zH rfl rfl (fun w' hw => (kP cb jb t a r b (pt ld) yv draw ob _ (.slice (some ⟨b213, 0, none⟩) 1 1) [(yP 5 0 ((zG l.peers k).2.id) 0 ((zG l.peers k).2.next - 1) x4_ r.commit l.rounds.length false ev rs)] w' (by first | omega | (simp <;> omega) | (constructor <;> (first | omega | (simp <;> omega)))) (hw.give [0, 3, 5, 6] rfl (by decide))).mono ?_)
    rintro _ w1 ⟨mv'6_, rfl, hO⟩
    refine (?_ : CL _ _ _ _ _ _ (Own w S [Res.nl b lv es, Res.ld ld ({ l with peers := zi l.peers k q } : LdD), Res.row b6 59 [Vi 5, Vi 0, Vi ((zG l.peers k).2.id), Vn 0, Vn ((zG l.peers k).2.next - 1), Vn x4_, Vn r.commit, Vn l.rounds.length, .bool false, ev, .slice none 0 0, .slice none 0 0, Vi 0, .slice none 0 0], ze cb t (pt ld) a r b yv jb draw (pt ob), Res.ou ob ({ o with mv := mv'6_, msgs := o.msgs ++ [(yP 5 0 ((zG l.peers k).2.id) 0 ((zG l.peers k).2.next - 1) x4_ r.commit l.rounds.length false ev rs)].map (z8 a t.term) } : OutD)])) w1 (hw.frameL [0, 3, 5, 6] rfl hO)
    exact zj (yM rfl (fun w' hw => ⟨mv'6_, [z8 a t.term (yP 5 0 (zG l.peers k).2.id 0 ((zG l.peers k).2.next - 1) x4_ r.commit l.rounds.length false ev rs)], rfl, zFQ hrs hf16_6 hq, (by rw [← hq2]; exact hw.sel [3, 0, 1, 4] rfl (by decide))⟩))
end Go.Proofs.YtkkeknmkipkbmaaGreat
