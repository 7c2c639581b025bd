import Derived.Test.YtkkeknmkipkbmaaGreatFwL
set_option linter.unusedSectionVars false
set_option linter.unusedSimpArgs false
set_option linter.unusedVariables false
set_option maxRecDepth 10000
namespace Go.Proofs.YtkkeknmkipkbmaaGreat
open Go Go.Sc Go.Proofs
def pis (p : Value × List Int) : List Value := [p.1]
abbrev IsRd (p : Value × List Int) (w : World) (S : List Nat) : Prop := Rd w S (Res.sl p.1 p.2.length (p.2.flatMap I1))
theorem IsRd.at0 {p : Value × List Int} {w0 w : World} {S : List Nat} {L : List Res} (h : IsRd p w0 S) (hw : Own w0 S L w) : IsRd p w [] := hw.rd0 h
theorem IsRd.at {p : Value × List Int} {w0 w : World} {S : List Nat} {L Lin : List Res} (h : IsRd p w0 S) (hw : Own w0 S L w) (m : List Nat) (hm : m.mapM (fun i => L[i]?) = some Lin) : IsRd p w (y8 Lin) := hw.rdTo h m hm
theorem zJm (m : Nat) (w : World) (hm : 1 ≤ m ∧ m ≤ 1000000) : Rets Tryz.prog 195 #[.slice none 0 0, Vj m] w fun u_ w' => ∃ (v : Value), u_ = v ∧ Own w [] [vI v ([] : List Int)] w' := by
  refine zT Tryz.func195 rfl Tryz.ntmps195 (Own.start w) ?_
  refine zB (zK rfl (zA (zQ (zB (zD rfl (yJ rfl rfl rfl (zA (zf rfl (fun c1 => ?_) (fun c1 => ?_)))))))))
  ·
   exact absurd c1 (by omega)
  ·
   refine zR (zQ (zB (zD rfl (zD rfl (zHm rfl rfl rfl (zD rfl (zE7 (by kernel_rfl) rfl rfl (kE (c := 0) rfl rfl rfl rfl (kE (c := ((m : Nat) : Int)) rfl rfl (by rw [Int.sub_zero]; exact zy (by omega)) rfl (zK rfl (zA (zB ?_))))))))))))
   refine zD rfl (yo rfl rfl rfl (zA (zf rfl (fun c2 => ?_) (fun c2 => ?_))))
   ·
    refine zW (zD rfl (zD rfl (zHm rfl rfl rfl (zJv (v := .slice none 0 0) (sz := 1) (l := 0) (h := 0) (len := 0) (cs := []) (by kernel_rfl) rfl (fun _ _ => Sl.nil) rfl ⟨_, rfl⟩ (by omega) (by omega) rfl (zD rfl (zJO (g := I1) (z := (0 : Int)) (zv := .int .i64 0) (m := m) rfl rfl rfl rfl rfl rfl rfl (by omega) (by omega) (by show m * 8 ≤ _; omega) rfl (fun bz cz hz => zD rfl (zE7 (by kernel_rfl) rfl rfl (zCk (pV 0 rfl) 1 0 0 (by kernel_rfl) rfl rfl ⟨_, rfl⟩ (by omega) (by omega) rfl (zK rfl (zA (zB ?_))))))))))))
    refine zD rfl (zK rfl (zA ?_))
    exact zY (yD (v := (xi (.slice (some ⟨bz,0,none⟩) m cz) 0 0 1)) rfl rfl (fun w' hw => ⟨(xi (.slice (some ⟨bz, 0, none⟩) m cz) 0 0 1), rfl, hw.vecCutL 0 0 rfl (by omega)⟩))
   ·
    exact absurd (by omega) c2
theorem zG8 (lv : Value) (ps : List (Value × List Int)) (w : World) (hm : 1 ≤ (ps.flatMap Prod.snd).length ∧ (ps.flatMap Prod.snd).length ≤ 1000000) (hn : zd ps.length) (hl : Rd w [] (Res.sl lv ps.length (ps.flatMap pis))) (all_hl : ∀ p ∈ ps, IsRd p w []) : Rets Tryz.prog 162 #[lv] w fun u_ w' => ∃ (v : Value), u_ = v ∧ Own w [] [vI v (ps.flatMap Prod.snd)] w' := by
  refine zT Tryz.func162 rfl Tryz.ntmps162 (Own.start w) ?_
  refine zB (zK rfl (zA (zB (zK rfl (zA (zQ (zB (zD rfl (zq (pR hl) rfl rfl (zD rfl (zA (zc ?_))))))))))))
  refine xS (fun (k : Nat) => [(0, lv), (3, Vj (((ps.take k).flatMap Prod.snd).length)), (9, lv), (10, Vj ps.length), (11, Vj k)]) (fun (k : Nat) => k ≤ ps.length) (fun (k : Nat) => []) (fun (k : Nat) => ps.length - k) (fun w' hw => ⟨0, ⟨rfl, rfl, rfl, rfl, rfl, trivial⟩, Nat.zero_le _, hw⟩) (fun k g hΦ => ?_)
  have hle := xK (Prod.snd : Value × List Int → List Int) ps (k + 1)
  refine zB (yJ rfl rfl rfl (zA (zQ (zf rfl (fun c1 => ?_) (fun c1 => ?_)))))
  ·
   have hnx : (ps.take (k + 1)).flatMap Prod.snd = (ps.take k).flatMap Prod.snd ++ (zG ps k).2 := by rw [zu (by omega), List.flatMap_append]; simp
   rw [hnx, List.length_append] at hle
   refine zR (zQ (zc (zB (zm (pR hl) 1 k rfl rfl rfl (by omega) rfl (yR (pR hl) 1 k 0 (fun _ => rfl) rfl rfl (by omega) rfl rfl (zK rfl (zA (zB (zD rfl (zD rfl (zq (pR (all_hl _ (zl (by omega)))) rfl rfl (z3 rfl rfl (zy (by omega)) rfl ?_))))))))))))
   refine zK rfl (zA (zB (zD rfl (yJ rfl rfl rfl (zA (zf rfl (fun c2 => ?_) (fun c2 => ?_)))))))
   ·
    exact absurd c2 (by omega)
   ·
    refine zR (zW (z3 rfl rfl (zy (by omega)) rfl (zD rfl ?_)))
    exact zj (fun w' hw => ⟨k + 1, ⟨rfl, (by rw [hnx, List.length_append]; rfl), rfl, rfl, rfl, trivial⟩, (by omega), hw, (by omega)⟩)
  ·
   have hke : (ps.take k).flatMap Prod.snd = ps.flatMap Prod.snd := by rw [List.take_of_length_le (by omega)]
   refine yQ rfl (zB (zD rfl (zH rfl rfl (fun w' hw => (zJm (((ps.take k).flatMap Prod.snd).length) w' (by rw [hke]; exact hm)).mono ?_))))
   rintro v1_ w1 ⟨_, rfl, hO⟩
   refine (?_ : CL _ _ _ _ _ _ (Own w [] [vI v1_ ([] : List Int)])) w1 (hw.frame0 hO)
   refine zK rfl (zA (zQ (zB (zD rfl (zq (pR hl) rfl rfl (zD rfl (zA (zc ?_))))))))
   refine y9 (fun (k : Nat) (v : Value) => [(6, v), (25, lv), (26, Vj ps.length), (27, Vj k)]) (fun (k : Nat) (v : Value) => k ≤ ps.length) (fun (k : Nat) (v : Value) => [vI v ((ps.take k).flatMap Prod.snd)]) (fun (k : Nat) (v : Value) => ps.length - k) (fun w' hw => ⟨0, v1_, ⟨rfl, rfl, rfl, rfl, trivial⟩, Nat.zero_le _, hw⟩) (fun k v g hΦ => ?_)
   have hle := xK (Prod.snd : Value × List Int → List Int) ps (k + 1)
   refine zB (yJ rfl rfl rfl (zA (zQ (zf rfl (fun c3 => ?_) (fun c3 => ?_)))))
   ·
    have hnx : (ps.take (k + 1)).flatMap Prod.snd = (ps.take k).flatMap Prod.snd ++ (zG ps k).2 := by rw [zu (by omega), List.flatMap_append]; simp
    rw [hnx, List.length_append] at hle
    refine zR (zQ (zc (zB (zm (pR hl) 1 k rfl rfl rfl (by omega) rfl (yR (pR hl) 1 k 0 (fun _ => rfl) rfl rfl (by omega) rfl rfl (zK rfl (zA (zW (zD rfl (zD rfl (yO (g := I1) (sz := 1) (by' := 8) (fun _ => rfl) (l := ((ps.take k).flatMap Prod.snd)) (l' := (zG ps k).2) (by simp [cell1, I1]) 0 (by kernel_rfl) rfl rfl rfl (fun w' hw' => Own.rd (all_hl _ (zl (by omega))) hw') (by first | omega | (simp <;> omega)) (by decide) rfl (fun v33 => zK rfl ?_))))))))))))
    refine zA (zW (z3 rfl rfl (zy (by omega)) rfl (zD rfl ?_)))
    exact zj (fun w' hw => ⟨k + 1, v33, ⟨rfl, rfl, rfl, rfl, trivial⟩, (by omega), by rw [hnx]; exact hw, (by omega)⟩)
   ·
    have hke : (ps.take k).flatMap Prod.snd = ps.flatMap Prod.snd := by rw [List.take_of_length_le (by omega)]
    refine yQ rfl (zB (zD rfl (zK rfl (zA ?_))))
    exact zY (yD (v := v) rfl rfl (fun w' hw => ⟨v, rfl, by rw [← hke]; exact hw⟩))
theorem zFT {es : List EntD} : (LG 0 0 es).fits es.length (LG 0 0 es).end_ := by
  refine LogA.fits_of ⟨Nat.zero_le _, by rw [LG.last_eq]; omega⟩ ?_
  show jL 0 ((es.map EntD.toEntA).take (es.length - 0)) = _
  rw [List.take_of_length_le (by simp)]; rfl
theorem zI7 {es es' : List EntD} {x : EntA} (hg : (LG 0 0 es).good) (hx : x.ok) (hi : x.index = es.length + 1) (ht : (LG 0 0 es).end_ ≤ x.term) (he : LG 0 0 es' = (LG 0 0 es).append es.length (LG 0 0 es).end_ [x]) : (LG 0 0 es').good ∧ es'.map EntD.toEntA = es.map EntD.toEntA ++ [x] := by
  have hfol : folA es.length (LG 0 0 es).end_ [x] := ⟨⟨hx, hi, ht⟩, trivial⟩
  have hg2 : (LG 0 0 es').good := by rw [he]; exact LogA.append_good hg
  have hkn : (LG 0 0 es).kn [x] = 0 := (LG 0 0 es).kn_of (Nat.zero_le _) (by simp) fun _ q => by
    have := (LogA.fits_end q).1.2
    rw [LG.last_eq] at this
    have e : (zG [x] 0).index = es.length + 1 := hi
    omega
  refine ⟨hg2, ?_⟩
  have e2 : LG 0 0 es' = ⟨0, 0, es.map EntD.toEntA ++ [x]⟩ := by
    rw [he]
    unfold LogA.append LogA.put
    rw [if_pos ⟨hfol, zFT⟩, hkn, if_pos (by simp)]
    show (⟨0, 0, (es.map EntD.toEntA).take (x.index - 0 - 1) ++ [x].drop 0⟩ : LogA) = _
    rw [hi, List.take_of_length_le (by simp)]; rfl
  exact congrArg LogA.l e2
theorem zBf {α : Type} {p q : α → Bool} : ∀ {l : List α}, (∀ x ∈ l, p x = q x) → l.find? p = l.find? q
  | [], _ => rfl
  | x :: l, h => by rw [List.find?_cons, List.find?_cons, h x (by simp), zBf fun y hy => h y (by simp [hy])]
theorem zFR {vs : List Int} {E : List EntA} {x : EntA} (hf : folA 0 0 E) (hk : x.kind ≠ 3) : za vs (E ++ [x]) = za vs E := by
  unfold za kI
  have h1 : zBD (E ++ [x]).length x = false := by unfold zBD; simp [hk]
  rw [List.reverse_append, List.reverse_singleton, List.singleton_append, List.find?_cons, h1]
  rw [zBf (q := zBD E.length) fun y hy => ?_]
  obtain ⟨j, hj⟩ := List.mem_iff_getElem?.1 (List.mem_reverse.1 hy)
  have hjl : j < E.length := (List.getElem?_eq_some_iff.1 hj).1
  have h2 := folA.idx hf j hjl
  rw [xR hj] at h2
  unfold zBD
  rw [List.length_append, List.length_cons, List.length_nil]
  by_cases q : y.kind = 3
  · simp [q]; omega
  · simp [q]
def jc (es : Nat) (term : Nat) : EntA := ⟨es + 1, term, 1, 0, []⟩
theorem zHt {n term : Nat} (hn : n ≤ 1000000) (ht : 1 ≤ term ∧ term ≤ 4611686018427387904) : (jc n term).ok := by
  unfold EntA.ok
  rw [if_pos (by rfl)]
  refine ⟨⟨⟨?_, ht.1⟩, ⟨?_, ht.2⟩, ⟨Int.le_refl 0, by show (0 : Int) ≤ 1099511627776; omega⟩, Nat.zero_le _⟩, rfl⟩
  · show 1 ≤ n + 1; omega
  · show n + 1 ≤ _; omega
theorem zHW {ps : List PeerP} {ids : List Int} {last : Nat} (h : ps.map Prod.snd = ids.map (xJ last)) : ∀ p ∈ ps, p.2 = xJ last p.2.id := by
  intro p hp
  have h1 : p.2 ∈ ids.map (xJ last) := by rw [← h]; exact List.mem_map_of_mem hp
  obtain ⟨i, _, hi⟩ := List.mem_map.1 h1
  rw [← hi]; rfl
theorem zGi {S : List Nat} (cb jb : Nat) (t : TimD) (a : StA) (r : RolD) (b : StB) (yv : Value) (draw : Nat) (lv : Value) (es : List EntD) (ld : Nat) (ob : Nat) (o : OutD) (w : World) (hg : (LG 0 0 es).good) (hl : es.length ≤ 100000) (hvl : b.vs.length ≤ 12) (hcm : 1 ≤ ((za b.vs (es.map EntD.toEntA)).vs ++ (za b.vs (es.map EntD.toEntA)).ls).length ∧ ((za b.vs (es.map EntD.toEntA)).vs ++ (za b.vs (es.map EntD.toEntA)).ls).length ≤ 12) (htm : 1 ≤ t.term ∧ t.term ≤ 4611686018427387904) (hen : (LG 0 0 es).end_ ≤ t.term) (hn : 0 ≤ t.now ∧ t.now ≤ 1000000000000000) (ho : o.msgs.length ≤ 1000) (hin : Own w S [ze cb t (.pointer none) a r b yv jb draw (pt ob), Res.nl b lv es, Res.ou ob o] w) : Rets Tryz.prog 119 #[pt cb] w fun u_ w' => ∃ (ld : Nat) (pv lv' mv' rv' : Value) (es' : List EntD) (ids : List Int) (ps : List PeerP) (ms : List MsgD), u_ = .tuple #[] ∧ (LG 0 0 es').good ∧ es'.map EntD.toEntA = es.map EntD.toEntA ++ [jc es.length t.term] ∧ ids.Perm ((za b.vs (es.map EntD.toEntA)).vs ++ (za b.vs (es.map EntD.toEntA)).ls) ∧ ids.Pairwise (fun x y => kS x y) ∧ ps.map Prod.snd = (ids.filter (· ≠ a.id)).map (xJ es.length) ∧ ms.map MsgD.a = zAH (ju a t.term (yt a t.term b.vs (es'.map EntD.toEntA) ps r.commit) 1 (es'.map EntD.toEntA)) ps ∧ Own w S [ze cb ({ t with stamp := t.now, checked := t.now, beaten := t.now } : TimD) (pt ld) a ({ role := 4, who := a.id, commit := yt a t.term b.vs (es'.map EntD.toEntA) ps r.commit } : RolD) b (.slice none 0 0) jb draw (pt ob), Res.nl b lv' es', Res.ld ld ({ pv := pv, peers := ps.map fun q => (q.1, z5 (es'.map EntD.toEntA) q.2), av := .slice none 0 0, answered := [], rv := rv', rounds := [t.now], sure := if (za b.vs (es'.map EntD.toEntA)).quorum [a.id] then 1 else 0, kv := .slice none 0 0, looks := [], give := 0, given := false } : LdD), Res.ou ob ({ o with mv := mv', msgs := o.msgs ++ ms } : OutD)] w' := by
  refine zT Tryz.func119 rfl Tryz.ntmps119 hin ?_
  refine zB (zD rfl (zH rfl rfl (fun w' hw => (x2 cb jb t a r b yv (pt ob) draw 0 w' (hw.give [0] rfl (by decide))).mono ?_)))
  rintro _ w1 ⟨rfl, hO⟩
  refine (?_ : CL _ _ _ _ _ _ (Own w S [Res.nl b lv es, Res.ou ob o, ze cb t (.pointer none) a ({ role := 1, who := 0, commit := r.commit } : RolD) b (.slice none 0 0) jb draw (pt ob)])) w1 (hw.frameL [0] rfl hO)
  refine zA (zB (zD rfl (zD rfl (zD rfl (zD rfl (zh rfl rfl (zJ (o := 10) rfl rfl (zM 2 (v := Vi a.id) rfl rfl rfl rfl (yc (cs := [.slice none 0 0, .slice none 0 0, .slice none 0 0, Vn 0, .slice none 0 0, Vi 0, .bool false]) (z := [.slice none 0 0, .slice none 0 0, .slice none 0 0, Vn 0, .slice none 0 0, Vi 0, .bool false]) (pl := [(0, 1), (1, 1), (2, 1), (3, 1), (4, 1), (5, 1), (6, 1)]) (by kernel_rfl) (by kernel_rfl) rfl (z7 rfl rfl (fun b15 => zh rfl rfl (zJ (o := 21) rfl rfl ?_))))))))))))
  refine zo 2 rfl rfl rfl rfl rfl (zh rfl rfl (zJ (o := 22) rfl rfl (zo 2 rfl rfl rfl rfl rfl (zh rfl rfl (zJ (o := 9) rfl rfl (zo 2 rfl rfl rfl rfl rfl (zA (zAW ([(0, pt cb)]) (True) ([Res.nl b lv es, Res.ou ob o, ze cb ({ t with checked := t.now, stamp := t.now } : TimD) (pt b15) a ({ role := 4, who := a.id, commit := r.commit } : RolD) b (.slice none 0 0) jb draw (pt ob), Res.row b15 110 [.slice none 0 0, .slice none 0 0, .slice none 0 0, Vn 0, .slice none 0 0, Vi 0, .bool false]]) ?_ (fun g hΦ => ?_)))))))))
  ·
   refine zk [0, 1, 3] rfl (by decide) (by kernel_rfl) (fun w' hw hS => zC 0 rfl (zU) hS (zC 1 rfl (zU) hS (zC 2 rfl (zU) hS (zC 3 rfl (zP rfl) hS (zC 4 rfl (zI (o := 2) rfl) hS (zC 5 rfl (zI (o := 0) rfl) hS (zC 7 rfl (zU) hS (zC 8 rfl (zP rfl) hS (zC 9 rfl (zI (o := 2) rfl) hS (zC 10 rfl (zI (o := 0) rfl) hS (yA 6 11 ?_ ?_)))))))))))
   ·
    refine zr 6 rfl hw (zM 2 (v := Vi t.now) rfl rfl rfl rfl (zE [0, 1, 3] rfl (by decide) (fun w' hw hS => zN 11 rfl hw (zM 2 (v := Vi t.now) rfl rfl rfl rfl (zE [0, 1, 3] rfl (by decide) (fun w' hw hS => zC 12 rfl (zP rfl) hS (zC 13 rfl (zI (o := 2) rfl) hS (zC 14 rfl (zI (o := 4) rfl) hS (zN 15 rfl hw (zo 2 rfl rfl rfl rfl rfl (zE [0, 1, 3] rfl (by decide) (fun w' hw hS => zC 16 rfl (zP rfl) hS ?_))))))))))))
    refine zC 17 rfl (zI (o := 2) rfl) hS (zC 18 rfl (zI (o := 6) rfl) hS (zN 19 rfl hw (zo 2 rfl rfl rfl rfl rfl (zE [0, 1, 3] rfl (by decide) (fun w' hw hS => zX ?_)))))
    exact ⟨⟨rfl, trivial⟩, trivial, hw⟩
   ·
    refine zr 11 rfl hw (zM 2 (v := Vi t.now) rfl rfl rfl rfl (zE [0, 1, 3] rfl (by decide) (fun w' hw hS => zN 6 rfl hw (zM 2 (v := Vi t.now) rfl rfl rfl rfl (zE [0, 1, 3] rfl (by decide) (fun w' hw hS => zC 12 rfl (zP rfl) hS (zC 13 rfl (zI (o := 2) rfl) hS (zC 14 rfl (zI (o := 4) rfl) hS (zN 15 rfl hw (zo 2 rfl rfl rfl rfl rfl (zE [0, 1, 3] rfl (by decide) (fun w' hw hS => zC 16 rfl (zP rfl) hS ?_))))))))))))
    refine zC 17 rfl (zI (o := 2) rfl) hS (zC 18 rfl (zI (o := 6) rfl) hS (zN 19 rfl hw (zo 2 rfl rfl rfl rfl rfl (zE [0, 1, 3] rfl (by decide) (fun w' hw hS => zX ?_)))))
    exact ⟨⟨rfl, trivial⟩, trivial, hw⟩
  refine zB (zD rfl (zH rfl rfl (fun w' hw => (xW cb jb ({ t with checked := t.now, stamp := t.now } : TimD) a ({ role := 4, who := a.id, commit := r.commit } : RolD) b (pt b15) (.slice none 0 0) (pt ob) draw _ _ w' ‹_› (by first | omega | (simp <;> omega)) (by first | omega | (simp <;> omega)) (hw.give [2, 0] rfl (by decide))).mono ?_)))
  rintro _ w1 ⟨cv1_, cw2_, F3_, rfl, hf3_1, hO⟩
  have hcf : 1 ≤ (F3_.vs ++ F3_.ls).length ∧ (F3_.vs ++ F3_.ls).length ≤ 12 := by rw [hf3_1]; exact hcm
  have hfm : ([(cv1_, F3_.vs), (cw2_, F3_.ls)].flatMap Prod.snd) = F3_.vs ++ F3_.ls := by simp
  have hFl : F3_.vs.length ≤ 12 ∧ F3_.ls.length ≤ 12 := by rw [List.length_append] at hcf; omega
  refine (?_ : CL _ _ _ _ _ _ (Own w S [Res.ou ob o, Res.row b15 110 [.slice none 0 0, .slice none 0 0, .slice none 0 0, Vn 0, .slice none 0 0, Vi 0, .bool false], ze cb ({ t with checked := t.now, stamp := t.now } : TimD) (pt b15) a ({ role := 4, who := a.id, commit := r.commit } : RolD) b (.slice none 0 0) jb draw (pt ob), Res.nl b lv es, vI cv1_ F3_.vs, vI cw2_ F3_.ls])) w1 (hw.frameL [2, 0] rfl hO)
  refine yS (v := .agg #[.slice none 0 0, .slice none 0 0]) (by kernel_rfl) rfl (fun b2 => ?_)
  refine zg (fun w' hw => Own.cell1Vec (i := 4) rfl hw) (fun hc1_ => ?_)
  refine zg (fun w' hw => Own.cell1Vec (i := 5) rfl hw) (fun hc2_ => ?_)
  refine yH 6 rfl rfl rfl (zF hc1_ (zF hc2_ zw)) rfl (zA (zQ (zB (zJ (o := 0) rfl rfl (zM 6 (v := cv1_) rfl rfl rfl rfl (zJ (o := 1) rfl rfl (zM 6 (v := cw2_) rfl rfl rfl rfl (zCO (e := 33) (vs := [cv1_, cw2_]) (by kernel_rfl) rfl rfl (zF hc1_ (zF hc2_ zw)) (by decide) rfl (fun b46 => zH rfl rfl (fun w' hw => (zG8 (.slice (some ⟨b46, 0, none⟩) 2 2) [(cv1_, F3_.vs), (cw2_, F3_.ls)] w' (by rw [hfm]; omega) (by first | assumption | omega | (simp <;> omega) | (constructor <;> (first | omega | (simp only [zd]; omega) | (simp <;> omega)))) (hw.rdVec0 7 rfl) (all_cons (hw.rdVec0 4 rfl) (all_cons (hw.rdVec0 5 rfl) (fun p hp => by cases hp)))).mono ?_))))))))))
  rintro v4_ w1 ⟨_, rfl, hO⟩
  refine (?_ : CL _ _ _ _ _ _ (Own w S [Res.ou ob o, Res.row b15 110 [.slice none 0 0, .slice none 0 0, .slice none 0 0, Vn 0, .slice none 0 0, Vi 0, .bool false], ze cb ({ t with checked := t.now, stamp := t.now } : TimD) (pt b15) a ({ role := 4, who := a.id, commit := r.commit } : RolD) b (.slice none 0 0) jb draw (pt ob), Res.nl b lv es, vI cv1_ F3_.vs, vI cw2_ F3_.ls, Res.row b2 35 [cv1_, cw2_], Res.vec 33 1 (.slice (some ⟨b46, 0, none⟩) 2 2) [(cv1_, F3_.vs), (cw2_, F3_.ls)].length ([(cv1_, F3_.vs), (cw2_, F3_.ls)].flatMap pis), vI v4_ ([(cv1_, F3_.vs), (cw2_, F3_.ls)].flatMap Prod.snd)])) w1 (hw.frame0 hO)
  refine zH rfl rfl (fun w' hw => (zJ0 v4_ ([(cv1_, F3_.vs), (cw2_, F3_.ls)].flatMap Prod.snd) w' (hw.give [8] rfl (by decide))).mono ?_)
  rintro _ w1 ⟨b5_, rfl, hO⟩
  refine (?_ : CL _ _ _ _ _ _ (Own w S [Res.ou ob o, Res.row b15 110 [.slice none 0 0, .slice none 0 0, .slice none 0 0, Vn 0, .slice none 0 0, Vi 0, .bool false], ze cb ({ t with checked := t.now, stamp := t.now } : TimD) (pt b15) a ({ role := 4, who := a.id, commit := r.commit } : RolD) b (.slice none 0 0) jb draw (pt ob), Res.nl b lv es, vI cv1_ F3_.vs, vI cw2_ F3_.ls, Res.row b2 35 [cv1_, cw2_], Res.vec 33 1 (.slice (some ⟨b46, 0, none⟩) 2 2) [(cv1_, F3_.vs), (cw2_, F3_.ls)].length ([(cv1_, F3_.vs), (cw2_, F3_.ls)].flatMap pis), vI v4_ ([(cv1_, F3_.vs), (cw2_, F3_.ls)].flatMap Prod.snd), Res.row b5_ 33 [v4_]])) w1 (hw.frameL [8] rfl hO)
  refine zH rfl rfl (fun w' hw => (zFe b5_ v4_ ([(cv1_, F3_.vs), (cw2_, F3_.ls)].flatMap Prod.snd) w' (by rw [hfm]; omega) (hw.give [9, 8] rfl (by decide))).mono ?_)
  rintro v'6_ w1 ⟨_, l'7_, rfl, hf4_7, hf4_7_1, hO⟩
  have hsl := (hf4_7).length_eq
  rw [hfm] at hsl
  refine (?_ : CL _ _ _ _ _ _ (Own w S [Res.ou ob o, Res.row b15 110 [.slice none 0 0, .slice none 0 0, .slice none 0 0, Vn 0, .slice none 0 0, Vi 0, .bool false], ze cb ({ t with checked := t.now, stamp := t.now } : TimD) (pt b15) a ({ role := 4, who := a.id, commit := r.commit } : RolD) b (.slice none 0 0) jb draw (pt ob), Res.nl b lv es, vI cv1_ F3_.vs, vI cw2_ F3_.ls, Res.row b2 35 [cv1_, cw2_], Res.vec 33 1 (.slice (some ⟨b46, 0, none⟩) 2 2) [(cv1_, F3_.vs), (cw2_, F3_.ls)].length ([(cv1_, F3_.vs), (cw2_, F3_.ls)].flatMap pis), Res.row b5_ 33 [v4_], vI v4_ ([(cv1_, F3_.vs), (cw2_, F3_.ls)].flatMap Prod.snd), vI v'6_ l'7_])) w1 (hw.frameL [9, 8] rfl hO)
  refine zq (pV 10 rfl) rfl rfl (zD rfl (zA (zc ?_)))
  refine kY (fun (k : Nat) (ps : List PeerP) (pv : Value) => [(0, pt cb), (49, v'6_), (50, Vj l'7_.length), (51, Vj k)]) (fun (k : Nat) (ps : List PeerP) (pv : Value) => k ≤ l'7_.length ∧ ps.map Prod.snd = ((l'7_.take k).filter (· ≠ a.id)).map (xJ es.length)) (fun (k : Nat) (ps : List PeerP) (pv : Value) => [Res.ou ob o, Res.ld b15 ({ pv := pv, peers := ps, av := .slice none 0 0, answered := [], rv := .slice none 0 0, rounds := [], sure := 0, kv := .slice none 0 0, looks := [], give := 0, given := false } : LdD), ze cb ({ t with checked := t.now, stamp := t.now } : TimD) (pt b15) a ({ role := 4, who := a.id, commit := r.commit } : RolD) b (.slice none 0 0) jb draw (pt ob), Res.nl b lv es, vI v'6_ l'7_]) (fun (k : Nat) (ps : List PeerP) (pv : Value) => l'7_.length - k) (fun w' hw => ⟨0, [], .slice none 0 0, ⟨rfl, rfl, rfl, rfl, trivial⟩, ⟨Nat.zero_le _, rfl⟩, ((zt (zt (zt (Own.starNil (zt hw 160 1)) 3 1) 2 1) 116 3).starShut [1, 11, 12, 13, 14, 15] rfl (by decide)).sel [0, 10, 1, 2, 9] rfl (by decide)⟩) (fun k ps pv g hΦ => ?_)
  have hpl : ps.length ≤ 12 := by have h1 := congrArg List.length hΦ.2; rw [List.length_map, List.length_map] at h1; have h2 := List.length_filter_le (fun x => decide (x ≠ a.id)) (l'7_.take k); rw [List.length_take] at h2; omega
  have hps := hΦ.2
  refine zB (yJ rfl rfl rfl (zA (zQ (zf rfl (fun c1 => ?_) (fun c1 => ?_)))))
  ·
   refine zR (zQ (zc (zB (zm (pV 4 rfl) 1 k rfl rfl rfl (by omega) rfl (yR (pV 4 rfl) 1 k 0 (fun _ => rfl) rfl rfl (by omega) rfl rfl (zK rfl (zA (zB (zD rfl (zD rfl (zh rfl rfl (zJ (o := 10) rfl rfl ?_))))))))))))
   refine zM 2 (v := Vi a.id) rfl rfl rfl rfl (kR rfl rfl rfl (zA (zf rfl (fun c2 => ?_) (fun c2 => ?_))))
   ·
    refine zk [0, 2, 3, 4] rfl (by decide) (by kernel_rfl) (fun w' hw hS => zC 0 rfl (zU) hS (zC 1 rfl (zP rfl) hS (zC 2 rfl (zI (o := 9) rfl) hS (zC 3 rfl (zb 1 (v := pt b15) rfl rfl rfl) hS (zC 4 rfl (zU) hS (zC 5 rfl (zP rfl) hS (zC 6 rfl (zI (o := 9) rfl) hS (zC 7 rfl (zb 1 (v := pt b15) rfl rfl rfl) hS (zC 8 rfl (zP rfl) hS (zC 9 rfl (zI (o := 0) rfl) hS (zC 11 rfl (zU) hS (zC 12 rfl (zU) hS ?_))))))))))))
    refine yA 10 13 ?_ ?_
    ·
     refine zr 10 rfl hw (z6 (v := pv) 1 0 0 rfl rfl rfl rfl (by kernel_rfl) rfl (zE [0, 2, 3, 4] rfl (by decide) (fun w' hw hS => zN 13 rfl hw (zH rfl rfl (fun w' hw => (zCD cb jb ({ t with checked := t.now, stamp := t.now } : TimD) a ({ role := 4, who := a.id, commit := r.commit } : RolD) b (pt b15) (.slice none 0 0) (pt ob) draw _ _ (zG l'7_ k) w' ‹_› (by first | omega | (simp <;> omega)) (by first | omega | (simp <;> omega)) (hw.give [2, 3] rfl (by decide))).mono ?_)))))
     rintro _ w1 ⟨pb8_, rfl, hO⟩
     refine (?_ : CL _ _ _ _ _ _ (Own w S [Res.ou ob o, Res.ld b15 ({ pv := pv, peers := ps, av := .slice none 0 0, answered := [], rv := .slice none 0 0, rounds := [], sure := 0, kv := .slice none 0 0, looks := [], give := 0, given := false } : LdD), vI v'6_ l'7_, ze cb ({ t with checked := t.now, stamp := t.now } : TimD) (pt b15) a ({ role := 4, who := a.id, commit := r.commit } : RolD) b (.slice none 0 0) jb draw (pt ob), Res.nl b lv es, xa pb8_ (xJ es.length (zG l'7_ k))])) w1 (hw.frameL [2, 3] rfl hO)
     refine zE [0, 3, 4, 2] rfl (by decide) (fun w' hw hS => zN 14 rfl hw (z4 (e := 160) (sz := 1) (vs := [pt pb8_]) (by kernel_rfl) rfl rfl (by simp [Value.cells, pt, PeerP.cells]) (by decide) rfl (fun b75 => zE [0, 3, 4, 2] rfl (by decide) (fun w' hw hS => zN 15 rfl hw ?_))))
     refine zx [Res.ou ob o, vI v'6_ l'7_, ze cb ({ t with checked := t.now, stamp := t.now } : TimD) (pt b15) a ({ role := 4, who := a.id, commit := r.commit } : RolD) b (.slice none 0 0) jb draw (pt ob), Res.nl b lv es, xa pb8_ (xJ es.length (zG l'7_ k)), vP (.slice (some ⟨b75, 0, none⟩) 1 1) [(pb8_, (xJ es.length (zG l'7_ k)))], yB b15 ({ pv := pv, peers := ps, av := .slice none 0 0, answered := [], rv := .slice none 0 0, rounds := [], sure := 0, kv := .slice none 0 0, looks := [], give := 0, given := false } : LdD), vP pv ps, sP ps, vI (.slice none 0 0) ([] : List Int), vT (.slice none 0 0) ([] : List Int), vL (.slice none 0 0) ([] : List LookM)] (fun w' hw => hw.starOpen 1 rfl) ?_
     refine yO (g := PeerP.cells) (sz := 1) (by' := 8) (fun _ => rfl) (l := ps) (l' := [(pb8_, (xJ es.length (zG l'7_ k)))]) (by simp [cell1, PeerP.cells, vu]) 7 (by kernel_rfl) rfl rfl rfl (fun w' hw' => Vec.sl (Own.holds hw' 5 _ rfl)) (by first | omega | (simp <;> omega)) (by decide) rfl (fun v76 => zE [0, 2, 3, 1] rfl (by decide) (fun w' hw hS => zC 16 rfl (zP rfl) hS (zC 17 rfl (zI (o := 0) rfl) hS (zN 18 rfl hw ?_))))
     refine zg (fun w' hw => Own.cell1Vec (i := 7) rfl hw) (fun hc3_ => ?_)
     refine zo 6 rfl rfl rfl hc3_ rfl (zE [0, 2, 3, 1] rfl (by decide) (fun w' hw hS => zX ?_))
     refine (?_ : C _ _ _ _ _ _ _ (Own w S [Res.ou ob o, vI v'6_ l'7_, ze cb ({ t with checked := t.now, stamp := t.now } : TimD) (pt b15) a ({ role := 4, who := a.id, commit := r.commit } : RolD) b (.slice none 0 0) jb draw (pt ob), Res.nl b lv es, xa pb8_ (xJ es.length (zG l'7_ k)), vP (.slice (some ⟨b75, 0, none⟩) 1 1) [(pb8_, (xJ es.length (zG l'7_ k)))], yB b15 ({ pv := v76, peers := ps ++ [(pb8_, (xJ es.length (zG l'7_ k)))], av := .slice none 0 0, answered := [], rv := .slice none 0 0, rounds := [], sure := 0, kv := .slice none 0 0, looks := [], give := 0, given := false } : LdD), vP v76 (ps ++ [(pb8_, (xJ es.length (zG l'7_ k)))]), sP ps, vI (.slice none 0 0) ([] : List Int), vT (.slice none 0 0) ([] : List Int), vL (.slice none 0 0) ([] : List LookM)])) _ hw
     refine zW (z3 rfl rfl (zy (by omega)) rfl (zD rfl ?_))
     exact zj (fun w' hw => ⟨k + 1, ps ++ [(pb8_, xJ es.length (zG l'7_ k))], v76, ⟨rfl, rfl, rfl, rfl, trivial⟩, ⟨by omega, by rw [List.map_append, hps, zBP (P := fun x : Int => x ≠ a.id) (by omega) c2, List.map_append]; rfl⟩, ((Own.starMap (x := (pb8_, (xJ es.length (zG l'7_ k)))) 8 4 (by decide) rfl rfl hw).starShut [5, 6, 7, 8, 9, 10] rfl (by decide)).sel [0, 5, 2, 3, 1] rfl (by decide), (by omega)⟩)
    ·
     refine zr 13 rfl hw (zH rfl rfl (fun w' hw => (zCD cb jb ({ t with checked := t.now, stamp := t.now } : TimD) a ({ role := 4, who := a.id, commit := r.commit } : RolD) b (pt b15) (.slice none 0 0) (pt ob) draw _ _ (zG l'7_ k) w' ‹_› (by first | omega | (simp <;> omega)) (by first | omega | (simp <;> omega)) (hw.give [2, 3] rfl (by decide))).mono ?_))
     rintro _ w1 ⟨pb9_, rfl, hO⟩
     refine (?_ : CL _ _ _ _ _ _ (Own w S [Res.ou ob o, Res.ld b15 ({ pv := pv, peers := ps, av := .slice none 0 0, answered := [], rv := .slice none 0 0, rounds := [], sure := 0, kv := .slice none 0 0, looks := [], give := 0, given := false } : LdD), vI v'6_ l'7_, ze cb ({ t with checked := t.now, stamp := t.now } : TimD) (pt b15) a ({ role := 4, who := a.id, commit := r.commit } : RolD) b (.slice none 0 0) jb draw (pt ob), Res.nl b lv es, xa pb9_ (xJ es.length (zG l'7_ k))])) w1 (hw.frameL [2, 3] rfl hO)
     refine zE [0, 3, 4, 2] rfl (by decide) (fun w' hw hS => yA 10 14 ?_ ?_)
     ·
      refine zr 10 rfl hw (z6 (v := pv) 1 0 0 rfl rfl rfl rfl (by kernel_rfl) rfl (zE [0, 3, 4, 2] rfl (by decide) (fun w' hw hS => zN 14 rfl hw (z4 (e := 160) (sz := 1) (vs := [pt pb9_]) (by kernel_rfl) rfl rfl (by simp [Value.cells, pt, PeerP.cells]) (by decide) rfl (fun b75 => zE [0, 3, 4, 2] rfl (by decide) (fun w' hw hS => zN 15 rfl hw ?_))))))
      refine zx [Res.ou ob o, vI v'6_ l'7_, ze cb ({ t with checked := t.now, stamp := t.now } : TimD) (pt b15) a ({ role := 4, who := a.id, commit := r.commit } : RolD) b (.slice none 0 0) jb draw (pt ob), Res.nl b lv es, xa pb9_ (xJ es.length (zG l'7_ k)), vP (.slice (some ⟨b75, 0, none⟩) 1 1) [(pb9_, (xJ es.length (zG l'7_ k)))], yB b15 ({ pv := pv, peers := ps, av := .slice none 0 0, answered := [], rv := .slice none 0 0, rounds := [], sure := 0, kv := .slice none 0 0, looks := [], give := 0, given := false } : LdD), vP pv ps, sP ps, vI (.slice none 0 0) ([] : List Int), vT (.slice none 0 0) ([] : List Int), vL (.slice none 0 0) ([] : List LookM)] (fun w' hw => hw.starOpen 1 rfl) ?_
      refine yO (g := PeerP.cells) (sz := 1) (by' := 8) (fun _ => rfl) (l := ps) (l' := [(pb9_, (xJ es.length (zG l'7_ k)))]) (by simp [cell1, PeerP.cells, vu]) 7 (by kernel_rfl) rfl rfl rfl (fun w' hw' => Vec.sl (Own.holds hw' 5 _ rfl)) (by first | omega | (simp <;> omega)) (by decide) rfl (fun v76 => zE [0, 2, 3, 1] rfl (by decide) (fun w' hw hS => zC 16 rfl (zP rfl) hS (zC 17 rfl (zI (o := 0) rfl) hS (zN 18 rfl hw ?_))))
      refine zg (fun w' hw => Own.cell1Vec (i := 7) rfl hw) (fun hc4_ => ?_)
      refine zo 6 rfl rfl rfl hc4_ rfl (zE [0, 2, 3, 1] rfl (by decide) (fun w' hw hS => zX ?_))
      refine (?_ : C _ _ _ _ _ _ _ (Own w S [Res.ou ob o, vI v'6_ l'7_, ze cb ({ t with checked := t.now, stamp := t.now } : TimD) (pt b15) a ({ role := 4, who := a.id, commit := r.commit } : RolD) b (.slice none 0 0) jb draw (pt ob), Res.nl b lv es, xa pb9_ (xJ es.length (zG l'7_ k)), vP (.slice (some ⟨b75, 0, none⟩) 1 1) [(pb9_, (xJ es.length (zG l'7_ k)))], yB b15 ({ pv := v76, peers := ps ++ [(pb9_, (xJ es.length (zG l'7_ k)))], av := .slice none 0 0, answered := [], rv := .slice none 0 0, rounds := [], sure := 0, kv := .slice none 0 0, looks := [], give := 0, given := false } : LdD), vP v76 (ps ++ [(pb9_, (xJ es.length (zG l'7_ k)))]), sP ps, vI (.slice none 0 0) ([] : List Int), vT (.slice none 0 0) ([] : List Int), vL (.slice none 0 0) ([] : List LookM)])) _ hw
      refine zW (z3 rfl rfl (zy (by omega)) rfl (zD rfl ?_))
      exact zj (fun w' hw => ⟨k + 1, ps ++ [(pb9_, xJ es.length (zG l'7_ k))], v76, ⟨rfl, rfl, rfl, rfl, trivial⟩, ⟨by omega, by rw [List.map_append, hps, zBP (P := fun x : Int => x ≠ a.id) (by omega) c2, List.map_append]; rfl⟩, ((Own.starMap (x := (pb9_, (xJ es.length (zG l'7_ k)))) 8 4 (by decide) rfl rfl hw).starShut [5, 6, 7, 8, 9, 10] rfl (by decide)).sel [0, 5, 2, 3, 1] rfl (by decide), (by omega)⟩)
     ·
      refine zr 14 rfl hw (z4 (e := 160) (sz := 1) (vs := [pt pb9_]) (by kernel_rfl) rfl rfl (by simp [Value.cells, pt, PeerP.cells]) (by decide) rfl (fun b75 => zE [0, 3, 4, 2] rfl (by decide) (fun w' hw hS => zN 10 rfl hw (z6 (v := pv) 1 0 0 rfl rfl rfl rfl (by kernel_rfl) rfl (zE [0, 3, 4, 2] rfl (by decide) (fun w' hw hS => zN 15 rfl hw ?_))))))
      refine zx [Res.ou ob o, vI v'6_ l'7_, ze cb ({ t with checked := t.now, stamp := t.now } : TimD) (pt b15) a ({ role := 4, who := a.id, commit := r.commit } : RolD) b (.slice none 0 0) jb draw (pt ob), Res.nl b lv es, xa pb9_ (xJ es.length (zG l'7_ k)), vP (.slice (some ⟨b75, 0, none⟩) 1 1) [(pb9_, (xJ es.length (zG l'7_ k)))], yB b15 ({ pv := pv, peers := ps, av := .slice none 0 0, answered := [], rv := .slice none 0 0, rounds := [], sure := 0, kv := .slice none 0 0, looks := [], give := 0, given := false } : LdD), vP pv ps, sP ps, vI (.slice none 0 0) ([] : List Int), vT (.slice none 0 0) ([] : List Int), vL (.slice none 0 0) ([] : List LookM)] (fun w' hw => hw.starOpen 1 rfl) ?_
      refine yO (g := PeerP.cells) (sz := 1) (by' := 8) (fun _ => rfl) (l := ps) (l' := [(pb9_, (xJ es.length (zG l'7_ k)))]) (by simp [cell1, PeerP.cells, vu]) 7 (by kernel_rfl) rfl rfl rfl (fun w' hw' => Vec.sl (Own.holds hw' 5 _ rfl)) (by first | omega | (simp <;> omega)) (by decide) rfl (fun v76 => zE [0, 2, 3, 1] rfl (by decide) (fun w' hw hS => zC 16 rfl (zP rfl) hS (zC 17 rfl (zI (o := 0) rfl) hS (zN 18 rfl hw ?_))))
      refine zg (fun w' hw => Own.cell1Vec (i := 7) rfl hw) (fun hc5_ => ?_)
      refine zo 6 rfl rfl rfl hc5_ rfl (zE [0, 2, 3, 1] rfl (by decide) (fun w' hw hS => zX ?_))
      refine (?_ : C _ _ _ _ _ _ _ (Own w S [Res.ou ob o, vI v'6_ l'7_, ze cb ({ t with checked := t.now, stamp := t.now } : TimD) (pt b15) a ({ role := 4, who := a.id, commit := r.commit } : RolD) b (.slice none 0 0) jb draw (pt ob), Res.nl b lv es, xa pb9_ (xJ es.length (zG l'7_ k)), vP (.slice (some ⟨b75, 0, none⟩) 1 1) [(pb9_, (xJ es.length (zG l'7_ k)))], yB b15 ({ pv := v76, peers := ps ++ [(pb9_, (xJ es.length (zG l'7_ k)))], av := .slice none 0 0, answered := [], rv := .slice none 0 0, rounds := [], sure := 0, kv := .slice none 0 0, looks := [], give := 0, given := false } : LdD), vP v76 (ps ++ [(pb9_, (xJ es.length (zG l'7_ k)))]), sP ps, vI (.slice none 0 0) ([] : List Int), vT (.slice none 0 0) ([] : List Int), vL (.slice none 0 0) ([] : List LookM)])) _ hw
      refine zW (z3 rfl rfl (zy (by omega)) rfl (zD rfl ?_))
      exact zj (fun w' hw => ⟨k + 1, ps ++ [(pb9_, xJ es.length (zG l'7_ k))], v76, ⟨rfl, rfl, rfl, rfl, trivial⟩, ⟨by omega, by rw [List.map_append, hps, zBP (P := fun x : Int => x ≠ a.id) (by omega) c2, List.map_append]; rfl⟩, ((Own.starMap (x := (pb9_, (xJ es.length (zG l'7_ k)))) 8 4 (by decide) rfl rfl hw).starShut [5, 6, 7, 8, 9, 10] rfl (by decide)).sel [0, 5, 2, 3, 1] rfl (by decide), (by omega)⟩)
   ·
    refine zR (zW (z3 rfl rfl (zy (by omega)) rfl (zD rfl ?_)))
    exact zj (fun w' hw => ⟨k + 1, ps, pv, ⟨rfl, rfl, rfl, rfl, trivial⟩, ⟨by omega, by rw [hps, zEQ (P := fun x : Int => x ≠ a.id) (by omega) c2]⟩, hw, (by omega)⟩)
  ·
   have hke : l'7_.take k = l'7_ := List.take_of_length_le (by omega)
   rw [hke] at hps
   have hnp := zHW hps
   refine yQ rfl (zB (zD rfl (zH rfl rfl (fun w' hw => (zI6 cb jb ({ t with checked := t.now, stamp := t.now } : TimD) a ({ role := 4, who := a.id, commit := r.commit } : RolD) b (pt b15) (.slice none 0 0) (pt ob) draw _ _ 1 (.slice none 0 0) [] w' ‹_› (by first | omega | (simp <;> omega)) (by first | omega | (simp <;> omega)) hn hn (by first | omega | (simp <;> omega)) htm.2 (hw.give [2, 3] rfl (by decide)) Rd.nil).mono ?_))))
   rintro _ w1 ⟨lv'10_, es'11_, rfl, hf10_1, hO⟩
   have hG := zI7 (x := jc es.length t.term) hg (zHt (by omega) htm) rfl hen (hf10_1.trans (by show (LG 0 0 es).append _ _ [⟨_, _, _, min (t.now - t.now) 1099511627776, _⟩] = _; rw [show min (t.now - t.now) (1099511627776 : Int) = 0 by omega]; rfl))
   have hle : es'11_.length = es.length + 1 := by have h1 := congrArg List.length hG.2; simpa using h1
   have hcl : (za b.vs (es'11_.map EntD.toEntA)).vs.length ≤ 12 := by rw [hG.2, zFR (E := es.map EntD.toEntA) hg.fol (show (1 : Int) ≠ 3 by decide)]; rw [List.length_append] at hcm; omega
   have hps0 : ∀ p ∈ ps, p.2.mtch ≤ 1000000 := fun p h => by rw [hnp p h]; exact Nat.zero_le _
   have hpbd : ∀ p ∈ ps, p.2.bd 1000000 := fun p h => by rw [hnp p h]; exact ⟨⟨by show 1 ≤ es.length + 1; omega, by show es.length + 1 ≤ _; omega⟩, Nat.zero_le _, ⟨Int.le_refl 0, by show (0 : Int) ≤ 4; omega⟩⟩
   refine (?_ : CL _ _ _ _ _ _ (Own w S [Res.ou ob o, Res.ld b15 ({ pv := pv, peers := ps, av := .slice none 0 0, answered := [], rv := .slice none 0 0, rounds := [], sure := 0, kv := .slice none 0 0, looks := [], give := 0, given := false } : LdD), vI v'6_ l'7_, ze cb ({ ({ t with checked := t.now, stamp := t.now } : TimD) with stamp := ({ t with checked := t.now, stamp := t.now } : TimD).now } : TimD) (pt b15) a ({ role := 4, who := a.id, commit := r.commit } : RolD) b (.slice none 0 0) jb draw (pt ob), Res.nl b lv'10_ es'11_])) w1 (hw.frameL [2, 3] rfl hO)
   refine zA (zB (zD rfl (zH rfl rfl (fun w' hw => (zE4 cb jb ({ t with checked := t.now, stamp := t.now } : TimD) a ({ role := 4, who := a.id, commit := r.commit } : RolD) b (.slice none 0 0) (pt ob) draw lv'10_ es'11_ b15 ({ pv := pv, peers := ps, av := .slice none 0 0, answered := [], rv := .slice none 0 0, rounds := [], sure := 0, kv := .slice none 0 0, looks := [], give := 0, given := false } : LdD) w' hG.1 (by omega) (by first | omega | (simp <;> omega)) (by show ps.length ≤ _; omega) hcl hps0 (hw.give [3, 4, 1] rfl (by decide))).mono ?_))))
   rintro _ w1 ⟨rfl, hO⟩
   refine (?_ : CL _ _ _ _ _ _ (Own w S [Res.ou ob o, vI v'6_ l'7_, ze cb ({ t with checked := t.now, stamp := t.now } : TimD) (pt b15) a ({ ({ role := 4, who := a.id, commit := r.commit } : RolD) with commit := yt a ({ t with checked := t.now, stamp := t.now } : TimD).term b.vs (es'11_.map EntD.toEntA) ({ pv := pv, peers := ps, av := .slice none 0 0, answered := [], rv := .slice none 0 0, rounds := [], sure := 0, kv := .slice none 0 0, looks := [], give := 0, given := false } : LdD).peers ({ role := 4, who := a.id, commit := r.commit } : RolD).commit } : RolD) b (.slice none 0 0) jb draw (pt ob), Res.nl b lv'10_ es'11_, Res.ld b15 ({ pv := pv, peers := ps, av := .slice none 0 0, answered := [], rv := .slice none 0 0, rounds := [], sure := 0, kv := .slice none 0 0, looks := [], give := 0, given := false } : LdD)])) w1 (hw.frameL [3, 4, 1] rfl hO)
   refine zA (zW (zD rfl (zH rfl rfl (fun w' hw => (zDq cb jb ({ t with checked := t.now, stamp := t.now } : TimD) a ({ role := 4, who := a.id, commit := yt a ({ t with checked := t.now, stamp := t.now } : TimD).term b.vs (es'11_.map EntD.toEntA) ({ pv := pv, peers := ps, av := .slice none 0 0, answered := [], rv := .slice none 0 0, rounds := [], sure := 0, kv := .slice none 0 0, looks := [], give := 0, given := false } : LdD).peers ({ role := 4, who := a.id, commit := r.commit } : RolD).commit } : RolD) b (.slice none 0 0) draw lv'10_ es'11_ b15 ({ pv := pv, peers := ps, av := .slice none 0 0, answered := [], rv := .slice none 0 0, rounds := [], sure := 0, kv := .slice none 0 0, looks := [], give := 0, given := false } : LdD) ob _ w' hG.1 (by omega) (by first | omega | (simp <;> omega)) (by show ps.length ≤ _; omega) (by first | omega | (simp <;> omega)) hpbd (by show ([] : List Int).length ≤ _; decide) (hw.give [2, 3, 4, 0] rfl (by decide))).mono ?_))))
   rintro _ w1 ⟨mv'12_, rv'13_, ms14_, rfl, hf12_1, hO⟩
   refine (?_ : CL _ _ _ _ _ _ (Own w S [vI v'6_ l'7_, ze cb ({ ({ t with checked := t.now, stamp := t.now } : TimD) with beaten := ({ t with checked := t.now, stamp := t.now } : TimD).now } : TimD) (pt b15) a ({ role := 4, who := a.id, commit := yt a ({ t with checked := t.now, stamp := t.now } : TimD).term b.vs (es'11_.map EntD.toEntA) ({ pv := pv, peers := ps, av := .slice none 0 0, answered := [], rv := .slice none 0 0, rounds := [], sure := 0, kv := .slice none 0 0, looks := [], give := 0, given := false } : LdD).peers ({ role := 4, who := a.id, commit := r.commit } : RolD).commit } : RolD) b (.slice none 0 0) jb draw (pt ob), Res.nl b lv'10_ es'11_, Res.ld b15 ({ ({ pv := pv, peers := ps, av := .slice none 0 0, answered := [], rv := .slice none 0 0, rounds := [], sure := 0, kv := .slice none 0 0, looks := [], give := 0, given := false } : LdD) with peers := ({ pv := pv, peers := ps, av := .slice none 0 0, answered := [], rv := .slice none 0 0, rounds := [], sure := 0, kv := .slice none 0 0, looks := [], give := 0, given := false } : LdD).peers.map fun q => (q.1, z5 (es'11_.map EntD.toEntA) q.2), rv := rv'13_, rounds := ({ pv := pv, peers := ps, av := .slice none 0 0, answered := [], rv := .slice none 0 0, rounds := [], sure := 0, kv := .slice none 0 0, looks := [], give := 0, given := false } : LdD).rounds ++ [({ t with checked := t.now, stamp := t.now } : TimD).now], sure := if (za b.vs (es'11_.map EntD.toEntA)).quorum [a.id] then ({ pv := pv, peers := ps, av := .slice none 0 0, answered := [], rv := .slice none 0 0, rounds := [], sure := 0, kv := .slice none 0 0, looks := [], give := 0, given := false } : LdD).rounds.length + 1 else ({ pv := pv, peers := ps, av := .slice none 0 0, answered := [], rv := .slice none 0 0, rounds := [], sure := 0, kv := .slice none 0 0, looks := [], give := 0, given := false } : LdD).sure } : LdD), Res.ou ob ({ o with mv := mv'12_, msgs := o.msgs ++ ms14_ } : OutD)])) w1 (hw.frameL [2, 3, 4, 0] rfl hO)
   exact zj (yM rfl (fun w' hw => ⟨b15, pv, lv'10_, mv'12_, rv'13_, es'11_, l'7_, ps, ms14_, rfl, hG.1, hG.2, (by have h := hf4_7; rw [hfm, hf3_1] at h; exact h), hf4_7_1, hps, hf12_1, hw.sel [1, 2, 3, 4] rfl (by decide)⟩))
end Go.Proofs.YtkkeknmkipkbmaaGreat
