import Derived.Test.YtkkeknmkipkbmaaGreatCoG
set_option linter.unusedSectionVars false
set_option linter.unusedSimpArgs false
set_option linter.unusedVariables false
set_option maxRecDepth 10000
namespace Go.Proofs.YtkkeknmkipkbmaaGreat
open Go Go.Sc Go.Proofs
def yU (f : PeerM → PeerM) (ps : List PeerP) (k : Nat) : List PeerP := (ps.take k).map (fun q => (q.1, f q.2)) ++ ps.drop k
theorem zFI {f : PeerM → PeerM} {ps : List PeerP} : yU f ps 0 = ps := by simp [yU]
theorem zCw {f : PeerM → PeerM} {ps : List PeerP} {k : Nat} (h : ps.length ≤ k) : yU f ps k = ps.map fun q => (q.1, f q.2) := by
  unfold yU; rw [List.take_of_length_le h, List.drop_of_length_le h, List.append_nil]
theorem zC1 {f : PeerM → PeerM} {ps : List PeerP} {k : Nat} : (yU f ps k).length = ps.length := by
  unfold yU; rw [List.length_append, List.length_map, List.length_take, List.length_drop]; omega
theorem jQ {f : PeerM → PeerM} {ps : List PeerP} {k : Nat} (h : k < ps.length) : zG (yU f ps k) k = zG ps k := by
  refine xR ?_
  unfold yU
  rw [List.getElem?_append_right (by rw [List.length_map, List.length_take]; omega), List.length_map, List.length_take, List.getElem?_drop, show k + (k - min k ps.length) = k by omega]
  exact xB h
theorem zGI {f : PeerM → PeerM} {ps : List PeerP} {k : Nat} (h : k < ps.length) : zi (yU f ps k) k (f (zG ps k).2) = yU f ps (k + 1) := by
  unfold zi
  rw [jQ h]
  unfold yU
  have hl : ((ps.take k).map fun q => (q.1, f q.2)).length = k := by rw [List.length_map, List.length_take]; omega
  rw [List.set_append_right _ _ (by rw [hl]; exact Nat.le_refl _), hl, Nat.sub_self, jx h, List.set_cons_zero, zu h, List.map_append, List.append_assoc]
  rfl
def zAH (g : PeerM → List MsgA) (ps : List PeerP) : List MsgA := ps.flatMap fun q => g q.2
theorem zCA {g : PeerM → List MsgA} {ps : List PeerP} {k : Nat} (h : k < ps.length) : zAH g (ps.take (k + 1)) = zAH g (ps.take k) ++ g (zG ps k).2 := by
  unfold zAH; rw [zu h, List.flatMap_append]; simp
theorem zFM {a : StA} {term commit rounds : Nat} {es : List EntA} {p : PeerM} {force : Bool} : (kD a term commit rounds es p force).length ≤ 1 := by unfold kD; split <;> simp
theorem zIT {g : PeerM → List MsgA} (hg : ∀ p, (g p).length ≤ 1) {ps : List PeerP} : (zAH g ps).length ≤ ps.length := by
  unfold zAH
  induction ps with
  | nil => simp
  | cons q ps ih => rw [List.flatMap_cons, List.length_append, List.length_cons]; have := hg q.2; omega
def kH (p : PeerM) : PeerM := { (if p.told = true then p else { p with opn := false, next := p.mtch + 1, flight := 0, asked := false }) with told := false }
def z5 (E : List EntA) (p : PeerM) : PeerM := xV E (kH p)
def ju (a : StA) (term commit rounds : Nat) (E : List EntA) (p : PeerM) : List MsgA := kD a term commit rounds E (kH p) true
theorem zHY {p : PeerM} (h : (!p.told) = true) : kH p = { p with opn := false, next := p.mtch + 1, flight := 0, asked := false, told := false } := by unfold kH; rw [if_neg (by simpa using h)]
theorem zG2 {p : PeerM} (h : (!p.told) = false) : kH p = { p with told := false } := by unfold kH; rw [if_pos (by simpa using h)]
theorem zB9 {p : PeerM} {n : Nat} (h : p.bd n) : (kH p).bd n := by
  unfold kH
  have h1 := h.mtch
  split
  · exact ⟨h.next, h.mtch, h.flight⟩
  · exact ⟨⟨by show 1 ≤ p.mtch + 1; omega, by show p.mtch + 1 ≤ n + 1; omega⟩, h.mtch, ⟨Int.le_refl 0, by show (0 : Int) ≤ 4; omega⟩⟩
theorem zAT {ps : List PeerP} {k : Nat} {q : PeerM} (h : k < ps.length) : zG (zi ps k q) k = ((zG ps k).1, q) := xR (List.getElem?_set_self h)
theorem y0 {ps : List PeerP} {k : Nat} {q : PeerM} (h : k < ps.length) : (zG (zi ps k q) k).2 = q := by rw [zAT h]
theorem xr {ps : List PeerP} {k : Nat} {q : PeerM} (h : k < ps.length) : (zG (zi ps k q) k).1 = (zG ps k).1 := by rw [zAT h]
theorem jY {ps : List PeerP} {k : Nat} {q q' : PeerM} (h : k < ps.length) : zi (zi ps k q) k q' = zi ps k q' := by
  have h1 := zAT (q := q) h
  show (zi ps k q).set k ((zG (zi ps k q) k).1, q') = _
  rw [h1]
  show (ps.set k _).set k _ = ps.set k _
  rw [List.set_set]
theorem zB2 {E : List EntA} {ps : List PeerP} {k : Nat} {q : PeerM} (h : k < ps.length) (hq : q = kH (zG (yU (z5 E) ps k) k).2) : zi (zi (yU (z5 E) ps k) k q) k (xV E (zG (zi (yU (z5 E) ps k) k q) k).2) = yU (z5 E) ps (k + 1) := by
  have hl : k < (yU (z5 E) ps k).length := by rw [zC1]; exact h
  rw [jY hl, y0 hl, hq, jQ h, ← zGI h]; rfl
theorem zDq {S : List Nat} (cb jb : Nat) (t : TimD) (a : StA) (r : RolD) (b : StB) (yv : Value) (draw : Nat) (lv : Value) (es : List EntD) (ld : Nat) (l : LdD) (ob : Nat) (o : OutD) (w : World) (hg : (LG 0 0 es).good) (hl : es.length ≤ 1000000) (hvl : b.vs.length ≤ 12) (hpl : l.peers.length ≤ 1000) (ho : o.msgs.length ≤ 1000) (hp : ∀ p ∈ l.peers, p.2.bd 1000000) (hr : l.rounds.length ≤ 900000) (hin : Own w S [ze cb t (pt ld) a r b yv jb draw (pt ob), Res.nl b lv es, Res.ld ld l, Res.ou ob o] w) : Rets Tryz.prog 46 #[pt cb] w fun u_ w' => ∃ (mv' rv' : Value) (ms : List MsgD), u_ = .tuple #[] ∧ ms.map MsgD.a = zAH (ju a t.term r.commit (l.rounds.length + 1) (es.map EntD.toEntA)) l.peers ∧ Own w S [ze cb ({ t with beaten := t.now } : TimD) (pt ld) a r b yv jb draw (pt ob), Res.nl b lv es, Res.ld ld ({ l with peers := l.peers.map fun q => (q.1, z5 (es.map EntD.toEntA) q.2), rv := rv', rounds := l.rounds ++ [t.now], sure := if (za b.vs (es.map EntD.toEntA)).quorum [a.id] then l.rounds.length + 1 else l.sure } : LdD), Res.ou ob ({ o with mv := mv', msgs := o.msgs ++ ms } : OutD)] w' := by
  refine zT Tryz.func46 rfl Tryz.ntmps46 hin ?_
  refine zB (zD rfl (zD rfl (zh rfl rfl (zJ (o := 2) rfl rfl (zJ (o := 0) rfl rfl (zM 0 (v := Vi t.now) rfl rfl rfl rfl (zh rfl rfl (zJ (o := 2) rfl rfl (zJ (o := 3) rfl rfl (zo 0 rfl rfl rfl rfl rfl (zA (xD (fun (rv' : Value) => [(0, pt cb)]) (fun (rv' : Value) => True) (fun (rv' : Value) => [ze cb ({ t with beaten := t.now } : TimD) (pt ld) a r b yv jb draw (pt ob), Res.nl b lv es, Res.ld ld ({ l with rv := rv', rounds := l.rounds ++ [t.now] } : LdD), Res.ou ob o]) ?_ (fun rv' g hΦ => ?_)))))))))))))
  ·
   refine zk [0, 1, 3] rfl (by decide) (by kernel_rfl) (fun w' hw hS => zC 0 rfl (zU) hS (zC 1 rfl (zP rfl) hS (zC 2 rfl (zI (o := 9) rfl) hS (zC 3 rfl (zb 0 (v := pt ld) rfl rfl rfl) hS (zC 4 rfl (zU) hS (zC 5 rfl (zP rfl) hS (zC 6 rfl (zI (o := 9) rfl) hS (zC 7 rfl (zb 0 (v := pt ld) rfl rfl rfl) hS (zC 8 rfl (zP rfl) hS (zC 9 rfl (zI (o := 2) rfl) hS (zC 11 rfl (zU) hS (zC 12 rfl (zP rfl) hS ?_))))))))))))
   refine zC 13 rfl (zI (o := 2) rfl) hS (zC 14 rfl (zI (o := 0) rfl) hS (zC 15 rfl (zb 0 (v := Vi t.now) rfl rfl rfl) hS (yA 10 16 ?_ ?_)))
   ·
    refine zr 10 rfl hw (z6 (v := l.rv) 2 0 2 rfl rfl rfl rfl (by kernel_rfl) rfl (zE [0, 1, 3] rfl (by decide) (fun w' hw hS => zN 16 rfl hw (z4 (e := 2) (sz := 1) (vs := [Vi t.now]) (by kernel_rfl) rfl rfl (by simp [Value.cells]) (by decide) rfl (fun b29 => zE [0, 1, 3] rfl (by decide) (fun w' hw hS => zN 17 rfl hw ?_))))))
    refine zx [ze cb ({ t with beaten := t.now } : TimD) (pt ld) a r b yv jb draw (pt ob), Res.nl b lv es, Res.ou ob o, vT (.slice (some ⟨b29, 0, none⟩) 1 1) [t.now], yB ld l, vP l.pv l.peers, sP l.peers, vI l.av l.answered, vT l.rv l.rounds, vL l.kv l.looks] (fun w' hw => hw.starOpen 2 rfl) ?_
    refine yO (g := I1) (sz := 1) (by' := 8) (fun _ => rfl) (l := l.rounds) (l' := [t.now]) (by simp [cell1, I1]) 8 (by kernel_rfl) rfl rfl rfl (fun w' hw' => Vec.sl (Own.holds hw' 3 _ rfl)) (by first | omega | (simp <;> omega)) (by decide) rfl (fun v30 => zE [0, 1, 2] rfl (by decide) (fun w' hw hS => zC 18 rfl (zP rfl) hS (zC 19 rfl (zI (o := 2) rfl) hS (zN 20 rfl hw ?_))))
    refine zg (fun w' hw => Own.cell1Vec (i := 8) rfl hw) (fun hc1_ => ?_)
    refine zo (cs := (LdD.cells l)) 4 rfl rfl rfl hc1_ rfl (zE [0, 1, 2] rfl (by decide) (fun w' hw hS => zX ?_))
    exact ⟨v30, ⟨rfl, trivial⟩, trivial, (hw.starShut [4, 5, 6, 7, 8, 9] rfl (by decide)).sel [0, 1, 4, 2] rfl (by decide)⟩
   ·
    refine zr 16 rfl hw (z4 (e := 2) (sz := 1) (vs := [Vi t.now]) (by kernel_rfl) rfl rfl (by simp [Value.cells]) (by decide) rfl (fun b29 => zE [0, 1, 3] rfl (by decide) (fun w' hw hS => zN 10 rfl hw (z6 (v := l.rv) 2 0 2 rfl rfl rfl rfl (by kernel_rfl) rfl (zE [0, 1, 3] rfl (by decide) (fun w' hw hS => zN 17 rfl hw ?_))))))
    refine zx [ze cb ({ t with beaten := t.now } : TimD) (pt ld) a r b yv jb draw (pt ob), Res.nl b lv es, Res.ou ob o, vT (.slice (some ⟨b29, 0, none⟩) 1 1) [t.now], yB ld l, vP l.pv l.peers, sP l.peers, vI l.av l.answered, vT l.rv l.rounds, vL l.kv l.looks] (fun w' hw => hw.starOpen 2 rfl) ?_
    refine yO (g := I1) (sz := 1) (by' := 8) (fun _ => rfl) (l := l.rounds) (l' := [t.now]) (by simp [cell1, I1]) 8 (by kernel_rfl) rfl rfl rfl (fun w' hw' => Vec.sl (Own.holds hw' 3 _ rfl)) (by first | omega | (simp <;> omega)) (by decide) rfl (fun v30 => zE [0, 1, 2] rfl (by decide) (fun w' hw hS => zC 18 rfl (zP rfl) hS (zC 19 rfl (zI (o := 2) rfl) hS (zN 20 rfl hw ?_))))
    refine zg (fun w' hw => Own.cell1Vec (i := 8) rfl hw) (fun hc2_ => ?_)
    refine zo (cs := (LdD.cells l)) 4 rfl rfl rfl hc2_ rfl (zE [0, 1, 2] rfl (by decide) (fun w' hw hS => zX ?_))
    exact ⟨v30, ⟨rfl, trivial⟩, trivial, (hw.starShut [4, 5, 6, 7, 8, 9] rfl (by decide)).sel [0, 1, 4, 2] rfl (by decide)⟩
  refine zQ (zB (zD rfl (zh rfl rfl (zJ (o := 9) rfl rfl (zM 0 (v := pt ld) rfl rfl rfl rfl (zh rfl rfl (zJ (o := 0) rfl rfl (z6 (v := l.pv) 2 0 0 rfl rfl rfl rfl (by kernel_rfl) rfl (zq (pC 2 1 rfl rfl) rfl rfl (zD rfl (zA (zc ?_))))))))))))
  refine kY (fun (k : Nat) (mv' : Value) (ms : List MsgD) => [(0, pt cb), (39, l.pv), (40, Vj l.peers.length), (41, Vj k)]) (fun (k : Nat) (mv' : Value) (ms : List MsgD) => k ≤ l.peers.length ∧ ms.map MsgD.a = zAH (ju a t.term r.commit (l.rounds.length + 1) (es.map EntD.toEntA)) (l.peers.take k)) (fun (k : Nat) (mv' : Value) (ms : List MsgD) => [ze cb ({ t with beaten := t.now } : TimD) (pt ld) a r b yv jb draw (pt ob), Res.nl b lv es, Res.ld ld ({ l with peers := yU (z5 (es.map EntD.toEntA)) l.peers k, rv := rv', rounds := l.rounds ++ [t.now] } : LdD), Res.ou ob ({ o with mv := mv', msgs := o.msgs ++ ms } : OutD)]) (fun (k : Nat) (mv' : Value) (ms : List MsgD) => l.peers.length - k) (fun w' hw => ⟨0, o.mv, [], ⟨rfl, rfl, rfl, rfl, trivial⟩, ⟨Nat.zero_le _, rfl⟩, (by rw [List.append_nil, zFI]; exact hw)⟩) (fun k mv' ms g hΦ => ?_)
  have hkl := hΦ.1
  have hml : ms.length ≤ l.peers.length := by have h1 := congrArg List.length hΦ.2; rw [List.length_map] at h1; have h2 := zIT (g := ju a t.term r.commit (l.rounds.length + 1) (es.map EntD.toEntA)) (fun p => zFM) (ps := l.peers.take k); rw [List.length_take] at h2; omega
  have hpl2 := zC1 (f := z5 (es.map EntD.toEntA)) (ps := l.peers) (k := k)
  have hms := hΦ.2
  refine zB (yJ rfl rfl rfl (zA (zQ (zf rfl (fun c1 => ?_) (fun c1 => ?_)))))
  ·
   have hbd : (zG (yU (z5 (es.map EntD.toEntA)) l.peers k) k).2.bd 1000000 := by rw [jQ (by omega)]; exact hp _ (zl (by omega))
   have hmt := hbd.mtch
   refine zR (zQ (zc (zB (zm (pC 2 1 rfl rfl) 1 k rfl rfl rfl (by show k < (yU (z5 (es.map EntD.toEntA)) l.peers k).length; omega) rfl (yR (pC 2 1 rfl rfl) 1 k 0 (fun _ => rfl) rfl rfl (by show k < (yU (z5 (es.map EntD.toEntA)) l.peers k).length; omega) rfl rfl (zK rfl (zA (zQ (zB (zD rfl (zh rfl rfl (zJ (o := 7) rfl rfl ?_))))))))))))
   refine xd (l := (yU (z5 (es.map EntD.toEntA)) l.peers k)) 2 2 k 7 rfl rfl (by first | assumption | (simp only [zi, List.length_set]; first | assumption | omega) | omega) rfl rfl rfl (by kernel_rfl) rfl (zC2 (b := ((zG (yU (z5 (es.map EntD.toEntA)) l.peers k) k).2).told) rfl rfl (zA (ja rfl (fun c2 => ?_) (fun c2 => ?_))))
   ·
    refine zW (zD rfl (zD rfl (zD rfl (zD rfl (zD rfl (zh rfl rfl (zJ (o := 2) rfl rfl (xd (l := (yU (z5 (es.map EntD.toEntA)) l.peers k)) 2 2 k 2 rfl rfl (by first | assumption | (simp only [zi, List.length_set]; first | assumption | omega) | omega) rfl rfl rfl (by kernel_rfl) rfl (z3 rfl rfl (y6 (by omega)) rfl (zh rfl rfl (zJ (o := 6) rfl rfl ?_)))))))))))
    refine zx [ze cb ({ t with beaten := t.now } : TimD) (pt ld) a r b yv jb draw (pt ob), Res.nl b lv es, Res.ou ob ({ o with mv := mv', msgs := o.msgs ++ ms } : OutD), yB ld ({ l with peers := yU (z5 (es.map EntD.toEntA)) l.peers k, rv := rv', rounds := l.rounds ++ [t.now] } : LdD), vP l.pv (yU (z5 (es.map EntD.toEntA)) l.peers k), sP (yU (z5 (es.map EntD.toEntA)) l.peers k), vI l.av l.answered, vT rv' (l.rounds ++ [t.now]), vL l.kv l.looks] (fun w' hw => hw.starOpen 2 rfl) ?_
    refine zx [ze cb ({ t with beaten := t.now } : TimD) (pt ld) a r b yv jb draw (pt ob), Res.nl b lv es, Res.ou ob ({ o with mv := mv', msgs := o.msgs ++ ms } : OutD), yB ld ({ l with peers := yU (z5 (es.map EntD.toEntA)) l.peers k, rv := rv', rounds := l.rounds ++ [t.now] } : LdD), vP l.pv (yU (z5 (es.map EntD.toEntA)) l.peers k), vI l.av l.answered, vT rv' (l.rounds ++ [t.now]), vL l.kv l.looks, xa ((zG (yU (z5 (es.map EntD.toEntA)) l.peers k) k).1) ((zG (yU (z5 (es.map EntD.toEntA)) l.peers k) k).2), sP ((yU (z5 (es.map EntD.toEntA)) l.peers k).eraseIdx k)] (fun w' hw => hw.starOut (g := PeerP.dres) (l := (yU (z5 (es.map EntD.toEntA)) l.peers k)) 5 k (by first | assumption | (simp only [zi, List.length_set]; first | assumption | omega) | omega) rfl) ?_
    refine zo 8 rfl rfl rfl rfl rfl (zh rfl rfl (zJ (o := 1) rfl rfl (zo 8 rfl rfl rfl rfl rfl (zh rfl rfl (zJ (o := 4) rfl rfl (zo 8 rfl rfl rfl rfl rfl (zh rfl rfl (zJ (o := 8) rfl rfl (zo 8 rfl rfl rfl rfl rfl (zA (zCj (fun (q : PeerM) (pb : Nat) => [(0, pt cb), (3, pt pb), (39, l.pv), (40, Vj l.peers.length), (41, Vj k)]) (fun (q : PeerM) (pb : Nat) => q = kH (zG (yU (z5 (es.map EntD.toEntA)) l.peers k) k).2 ∧ pb = (zG (zi (yU (z5 (es.map EntD.toEntA)) l.peers k) k q) k).1) (fun (q : PeerM) (pb : Nat) => [ze cb ({ t with beaten := t.now } : TimD) (pt ld) a r b yv jb draw (pt ob), Res.nl b lv es, Res.ld ld ({ l with peers := zi (yU (z5 (es.map EntD.toEntA)) l.peers k) k q, rv := rv', rounds := l.rounds ++ [t.now] } : LdD), Res.ou ob ({ o with mv := mv', msgs := o.msgs ++ ms } : OutD)]) ?_ (fun q pb g hΦ => ?_))))))))))))
    ·
     refine zW (zD rfl (zh rfl rfl (zJ (o := 7) rfl rfl (zo 8 rfl rfl rfl rfl rfl ?_))))
     exact zj (fun w' hw => ⟨({ (zG (yU (z5 (es.map EntD.toEntA)) l.peers k) k).2 with opn := false, next := (zG (yU (z5 (es.map EntD.toEntA)) l.peers k) k).2.mtch + 1, flight := 0, asked := false, told := false } : PeerM), (zG (yU (z5 (es.map EntD.toEntA)) l.peers k) k).1, ⟨rfl, rfl, rfl, rfl, rfl, trivial⟩, ⟨(zHY c2).symm, (xr (by omega)).symm⟩, ((hw.peerIn 8 9 4 k ({ id := ((zG (yU (z5 (es.map EntD.toEntA)) l.peers k) k).2).id, next := (((zG (yU (z5 (es.map EntD.toEntA)) l.peers k) k).2).mtch) + 1, mtch := ((zG (yU (z5 (es.map EntD.toEntA)) l.peers k) k).2).mtch, round := ((zG (yU (z5 (es.map EntD.toEntA)) l.peers k) k).2).round, flight := 0, off := ((zG (yU (z5 (es.map EntD.toEntA)) l.peers k) k).2).off, opn := false, told := false, asked := false } : PeerM) (by first | assumption | (simp only [zi, List.length_set]; first | assumption | omega) | omega) (by decide) rfl rfl rfl).starShut [3, 7, 8, 4, 5, 6] rfl (by decide)).sel [0, 1, 3, 2] rfl (by decide)⟩)
    obtain ⟨hq, rfl⟩ := hΦ
    refine zW (zD rfl (zD rfl (zH rfl rfl (fun w' hw => (zBN cb jb ({ t with beaten := t.now } : TimD) a r b yv draw _ _ ld ({ l with peers := zi (yU (z5 (es.map EntD.toEntA)) l.peers k) k q, rv := rv', rounds := l.rounds ++ [t.now] } : LdD) ob ({ o with mv := mv', msgs := o.msgs ++ ms } : OutD) k true w' ‹_› (by first | omega | (simp <;> omega)) (by first | omega | (simp <;> omega)) (by show k < (zi (yU (z5 (es.map EntD.toEntA)) l.peers k) k q).length; rw [yy]; omega) (by show (o.msgs ++ ms).length ≤ _; rw [List.length_append]; omega) (by show (zG (zi (yU (z5 (es.map EntD.toEntA)) l.peers k) k q) k).2.bd _; rw [y0 (by omega), hq]; exact zB9 hbd) (by show (l.rounds ++ [t.now]).length ≤ _; rw [List.length_append]; simp; omega) (hw.give [0, 1, 2, 3] rfl (by decide))).mono ?_))))
    rintro _ w1 ⟨mv'1_, ms2_, rfl, hf8_2, hO⟩
    refine (?_ : CL _ _ _ _ _ _ (Own w S [ze cb ({ t with beaten := t.now } : TimD) (pt ld) a r b yv jb draw (pt ob), Res.nl b lv es, Res.ld ld ({ ({ l with peers := zi (yU (z5 (es.map EntD.toEntA)) l.peers k) k q, rv := rv', rounds := l.rounds ++ [t.now] } : LdD) with peers := zi ({ l with peers := zi (yU (z5 (es.map EntD.toEntA)) l.peers k) k q, rv := rv', rounds := l.rounds ++ [t.now] } : LdD).peers k (xV (es.map EntD.toEntA) (zG ({ l with peers := zi (yU (z5 (es.map EntD.toEntA)) l.peers k) k q, rv := rv', rounds := l.rounds ++ [t.now] } : LdD).peers k).2) } : LdD), Res.ou ob ({ ({ o with mv := mv', msgs := o.msgs ++ ms } : OutD) with mv := mv'1_, msgs := ({ o with mv := mv', msgs := o.msgs ++ ms } : OutD).msgs ++ ms2_ } : OutD)])) w1 (hw.frameL [0, 1, 2, 3] rfl hO)
    refine zA (zW (z3 rfl rfl (zy (by omega)) rfl (zD rfl ?_)))
    exact zj (fun w' hw => ⟨k + 1, mv'1_, ms ++ ms2_, ⟨rfl, rfl, rfl, rfl, trivial⟩, ⟨by omega, by rw [List.map_append, hms, hf8_2, zCA (by omega), y0 (by omega), hq, jQ (by omega), List.length_append]; rfl⟩, (by rw [← zB2 (by omega) hq, ← List.append_assoc o.msgs]; exact hw), (by omega)⟩)
   ·
    refine zR (zCj (fun (q : PeerM) (pb : Nat) => [(0, pt cb), (3, pt pb), (39, l.pv), (40, Vj l.peers.length), (41, Vj k)]) (fun (q : PeerM) (pb : Nat) => q = kH (zG (yU (z5 (es.map EntD.toEntA)) l.peers k) k).2 ∧ pb = (zG (zi (yU (z5 (es.map EntD.toEntA)) l.peers k) k q) k).1) (fun (q : PeerM) (pb : Nat) => [ze cb ({ t with beaten := t.now } : TimD) (pt ld) a r b yv jb draw (pt ob), Res.nl b lv es, Res.ld ld ({ l with peers := zi (yU (z5 (es.map EntD.toEntA)) l.peers k) k q, rv := rv', rounds := l.rounds ++ [t.now] } : LdD), Res.ou ob ({ o with mv := mv', msgs := o.msgs ++ ms } : OutD)]) ?_ (fun q pb g hΦ => ?_))
    ·
     refine zW (zD rfl (zh rfl rfl (zJ (o := 7) rfl rfl ?_)))
     refine zx [ze cb ({ t with beaten := t.now } : TimD) (pt ld) a r b yv jb draw (pt ob), Res.nl b lv es, Res.ou ob ({ o with mv := mv', msgs := o.msgs ++ ms } : OutD), yB ld ({ l with peers := yU (z5 (es.map EntD.toEntA)) l.peers k, rv := rv', rounds := l.rounds ++ [t.now] } : LdD), vP l.pv (yU (z5 (es.map EntD.toEntA)) l.peers k), sP (yU (z5 (es.map EntD.toEntA)) l.peers k), vI l.av l.answered, vT rv' (l.rounds ++ [t.now]), vL l.kv l.looks] (fun w' hw => hw.starOpen 2 rfl) ?_
     refine zx [ze cb ({ t with beaten := t.now } : TimD) (pt ld) a r b yv jb draw (pt ob), Res.nl b lv es, Res.ou ob ({ o with mv := mv', msgs := o.msgs ++ ms } : OutD), yB ld ({ l with peers := yU (z5 (es.map EntD.toEntA)) l.peers k, rv := rv', rounds := l.rounds ++ [t.now] } : LdD), vP l.pv (yU (z5 (es.map EntD.toEntA)) l.peers k), vI l.av l.answered, vT rv' (l.rounds ++ [t.now]), vL l.kv l.looks, xa ((zG (yU (z5 (es.map EntD.toEntA)) l.peers k) k).1) ((zG (yU (z5 (es.map EntD.toEntA)) l.peers k) k).2), sP ((yU (z5 (es.map EntD.toEntA)) l.peers k).eraseIdx k)] (fun w' hw => hw.starOut (g := PeerP.dres) (l := (yU (z5 (es.map EntD.toEntA)) l.peers k)) 5 k (by first | assumption | (simp only [zi, List.length_set]; first | assumption | omega) | omega) rfl) ?_
     refine zo 8 rfl rfl rfl rfl rfl ?_
     exact zj (fun w' hw => ⟨({ (zG (yU (z5 (es.map EntD.toEntA)) l.peers k) k).2 with told := false } : PeerM), (zG (yU (z5 (es.map EntD.toEntA)) l.peers k) k).1, ⟨rfl, rfl, rfl, rfl, rfl, trivial⟩, ⟨(zG2 c2).symm, (xr (by omega)).symm⟩, ((hw.peerIn 8 9 4 k ({ ((zG (yU (z5 (es.map EntD.toEntA)) l.peers k) k).2) with told := false } : PeerM) (by first | assumption | (simp only [zi, List.length_set]; first | assumption | omega) | omega) (by decide) rfl rfl rfl).starShut [3, 7, 8, 4, 5, 6] rfl (by decide)).sel [0, 1, 3, 2] rfl (by decide)⟩)
    obtain ⟨hq, rfl⟩ := hΦ
    refine zW (zD rfl (zD rfl (zH rfl rfl (fun w' hw => (zBN cb jb ({ t with beaten := t.now } : TimD) a r b yv draw _ _ ld ({ l with peers := zi (yU (z5 (es.map EntD.toEntA)) l.peers k) k q, rv := rv', rounds := l.rounds ++ [t.now] } : LdD) ob ({ o with mv := mv', msgs := o.msgs ++ ms } : OutD) k true w' ‹_› (by first | omega | (simp <;> omega)) (by first | omega | (simp <;> omega)) (by show k < (zi (yU (z5 (es.map EntD.toEntA)) l.peers k) k q).length; rw [yy]; omega) (by show (o.msgs ++ ms).length ≤ _; rw [List.length_append]; omega) (by show (zG (zi (yU (z5 (es.map EntD.toEntA)) l.peers k) k q) k).2.bd _; rw [y0 (by omega), hq]; exact zB9 hbd) (by show (l.rounds ++ [t.now]).length ≤ _; rw [List.length_append]; simp; omega) (hw.give [0, 1, 2, 3] rfl (by decide))).mono ?_))))
    rintro _ w1 ⟨mv'3_, ms4_, rfl, hf8_2, hO⟩
    refine (?_ : CL _ _ _ _ _ _ (Own w S [ze cb ({ t with beaten := t.now } : TimD) (pt ld) a r b yv jb draw (pt ob), Res.nl b lv es, Res.ld ld ({ ({ l with peers := zi (yU (z5 (es.map EntD.toEntA)) l.peers k) k q, rv := rv', rounds := l.rounds ++ [t.now] } : LdD) with peers := zi ({ l with peers := zi (yU (z5 (es.map EntD.toEntA)) l.peers k) k q, rv := rv', rounds := l.rounds ++ [t.now] } : LdD).peers k (xV (es.map EntD.toEntA) (zG ({ l with peers := zi (yU (z5 (es.map EntD.toEntA)) l.peers k) k q, rv := rv', rounds := l.rounds ++ [t.now] } : LdD).peers k).2) } : LdD), Res.ou ob ({ ({ o with mv := mv', msgs := o.msgs ++ ms } : OutD) with mv := mv'3_, msgs := ({ o with mv := mv', msgs := o.msgs ++ ms } : OutD).msgs ++ ms4_ } : OutD)])) w1 (hw.frameL [0, 1, 2, 3] rfl hO)
    refine zA (zW (z3 rfl rfl (zy (by omega)) rfl (zD rfl ?_)))
    exact zj (fun w' hw => ⟨k + 1, mv'3_, ms ++ ms4_, ⟨rfl, rfl, rfl, rfl, trivial⟩, ⟨by omega, by rw [List.map_append, hms, hf8_2, zCA (by omega), y0 (by omega), hq, jQ (by omega), List.length_append]; rfl⟩, (by rw [← zB2 (by omega) hq, ← List.append_assoc o.msgs]; exact hw), (by omega)⟩)
  ·
   refine yQ rfl (zB (zD rfl (zH rfl rfl (fun w' hw => (j8 cb jb ({ t with beaten := t.now } : TimD) a r b (pt ld) yv (pt ob) draw _ _ w' ‹_› (by first | omega | (simp <;> omega)) (by first | omega | (simp <;> omega)) (hw.give [0, 1] rfl (by decide))).mono ?_))))
   rintro _ w1 ⟨rfl, hO⟩
   refine (?_ : CL _ _ _ _ _ _ (Own w S [Res.ld ld ({ l with peers := yU (z5 (es.map EntD.toEntA)) l.peers k, rv := rv', rounds := l.rounds ++ [t.now] } : LdD), Res.ou ob ({ o with mv := mv', msgs := o.msgs ++ ms } : OutD), ze cb ({ t with beaten := t.now } : TimD) (pt ld) a r b yv jb draw (pt ob), Res.nl b lv es])) w1 (hw.frameL [0, 1] rfl hO)
   refine zA (zf rfl (fun c3 => ?_) (fun c3 => ?_))
   ·
    refine zk [1, 2, 3] rfl (by decide) (by kernel_rfl) (fun w' hw hS => zC 0 rfl (zU) hS (zC 1 rfl (zP rfl) hS (zC 2 rfl (zI (o := 9) rfl) hS (zC 3 rfl (zb 1 (v := pt ld) rfl rfl rfl) hS (zC 4 rfl (zU) hS (zC 5 rfl (zP rfl) hS (zC 6 rfl (zI (o := 9) rfl) hS (zC 7 rfl (zb 1 (v := pt ld) rfl rfl rfl) hS (zC 8 rfl (zP rfl) hS (zC 9 rfl (zI (o := 2) rfl) hS (zN 10 rfl hw (z6 (v := rv') 0 0 2 rfl rfl rfl rfl (by kernel_rfl) rfl ?_))))))))))))
    refine zE [1, 2, 3] rfl (by decide) (fun w' hw hS => zN 11 rfl hw (zq (pC 0 4 rfl rfl) rfl rfl (zE [1, 2, 3] rfl (by decide) (fun w' hw hS => zC 12 rfl (kj (c := (((l.rounds ++ [t.now]).length : Nat) : Int)) (by kernel_rfl) rfl (y6 (by simp only [List.length_append, List.length_cons, List.length_nil]; omega)) (by kernel_rfl)) hS (zC 13 rfl (zP rfl) hS (zC 14 rfl (zI (o := 3) rfl) hS (zN 15 rfl hw ?_)))))))
    refine zx [Res.ou ob ({ o with mv := mv', msgs := o.msgs ++ ms } : OutD), ze cb ({ t with beaten := t.now } : TimD) (pt ld) a r b yv jb draw (pt ob), Res.nl b lv es, yB ld ({ l with peers := yU (z5 (es.map EntD.toEntA)) l.peers k, rv := rv', rounds := l.rounds ++ [t.now] } : LdD), vP l.pv (yU (z5 (es.map EntD.toEntA)) l.peers k), sP (yU (z5 (es.map EntD.toEntA)) l.peers k), vI l.av l.answered, vT rv' (l.rounds ++ [t.now]), vL l.kv l.looks] (fun w' hw => hw.starOpen 0 rfl) ?_
    refine zo 3 rfl rfl rfl rfl rfl (zE [0, 1, 2] rfl (by decide) (fun w' hw hS => zX ?_))
    exact (yM rfl (fun w' hw => ⟨mv', rv', ms, rfl, (by rw [hms, List.take_of_length_le (by omega)]), (by rw [if_pos c3, show l.rounds.length + 1 = (l.rounds ++ [t.now]).length by simp, ← zCw (k := k) (f := z5 (es.map EntD.toEntA)) (ps := l.peers) (by omega)]; exact (hw.starShut [3, 4, 5, 6, 7, 8] rfl (by decide)).sel [1, 2, 3, 0] rfl (by decide))⟩)) _ hw
   ·
    exact yk (yM rfl (fun w' hw => ⟨mv', rv', ms, rfl, (by rw [hms, List.take_of_length_le (by omega)]), (by rw [if_neg c3, ← zCw (k := k) (f := z5 (es.map EntD.toEntA)) (ps := l.peers) (by omega)]; exact hw.sel [2, 3, 0, 1] rfl (by decide))⟩))
end Go.Proofs.YtkkeknmkipkbmaaGreat
