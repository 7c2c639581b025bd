import Derived.Test.YtkkeknmkipkbmaaGreatFwU
import Derived.Test.YtkkeknmkipkbmaaGreatEnc2
set_option linter.unusedSectionVars false
set_option linter.unusedSimpArgs false
set_option linter.unusedVariables false
set_option maxRecDepth 10000
namespace Go.Proofs.YtkkeknmkipkbmaaGreat
open Go Go.Sc Go.Proofs
abbrev LG (i t : Nat) (es : List EntD) : LogA := ⟨i, t, es.map EntD.toEntA⟩
theorem LG.last_eq {i t : Nat} {es : List EntD} : (LG i t es).last = i + es.length := by simp [LogA.last]
theorem LG.le {i t : Nat} {es : List EntD} (h : (LG i t es).good) : i + es.length ≤ 4611686018427387904 ∧ t ≤ 4611686018427387904 ∧ (LG i t es).end_ ≤ 4611686018427387904 := ⟨LG.last_eq ▸ h.last_le, h.t, h.end_le⟩
theorem zCb {es : List EntD} {k : Nat} (h : k < es.length) : zG (es.map EntD.toEntA) k = (zG es k).toEntA := jv h
theorem LG.data {i t : Nat} {es : List EntD} (h : (LG i t es).good) : ∀ e ∈ es, e.data.length ≤ 4096 := fun e he => (h.fol.ok _ (List.mem_map_of_mem (f := EntD.toEntA) he)).1.2.2.2
theorem LG.termE_eq {i t k : Nat} {es : List EntD} : (LG i t es).termE k = if k < i then (0, 13) else if k = i then (t, 0) else if k ≤ i + es.length then ((zG (es.map EntD.toEntA) (k - i - 1)).term, 0) else (0, 8) := by
  unfold LogA.termE; rw [LG.last_eq]
theorem LG.term_lo {i t k : Nat} {es : List EntD} (h : k < i) : (LG i t es).termE k = (0, 13) := if_pos h
theorem LG.term_at {i t k : Nat} {es : List EntD} (h : k = i) : (LG i t es).termE k = (t, 0) := by
  rw [LG.termE_eq, if_neg (by omega), if_pos h]
theorem LG.term_in {i t k j : Nat} {es : List EntD} (h : i < k) (h2 : k ≤ i + es.length) (hj : j = k - i - 1) : (LG i t es).termE k = ((zG es j).term, 0) := by
  rw [LG.termE_eq, if_neg (by omega), if_neg (by omega), if_pos h2, ← hj, zCb (by omega)]
theorem LG.term_hi {i t k : Nat} {es : List EntD} (h : i + es.length < k) : (LG i t es).termE k = (0, 8) := by
  rw [LG.termE_eq, if_neg (by omega), if_neg (by omega), if_neg (by omega)]
theorem LG.fromE_eq {i t k : Nat} {n : Int} {es : List EntD} : (LG i t es).fromE k n = if k ≤ i then ([], 13) else if i + es.length + 1 < k then ([], 8) else if n < 0 then ([], 1) else (((es.map EntD.toEntA).drop (k - i - 1)).take n.toNat, 0) := by
  unfold LogA.fromE; rw [LG.last_eq]
theorem LG.end_eq {i t x : Nat} {e : Int} {es : List EntD} (h : (LG i t es).termE (i + es.length) = (x, e)) : x = (LG i t es).end_ := by
  by_cases hl : es.length = 0
  · rw [LG.term_at (by omega)] at h
    cases h
    unfold LogA.end_; rw [List.eq_nil_of_length_eq_zero hl]; rfl
  · rw [LG.term_in (j := es.length - 1) (by omega) (by omega) (by omega)] at h
    cases h
    unfold LogA.end_; rw [zA4 (by simpa using (by omega : 0 < es.length)), List.length_map, zCb (by omega)]
theorem EntD.c1all {l : List EntD} {w : World} {S : List Nat} (h : ∀ p ∈ l, EntD.rd p w S) : ∀ x ∈ l, ∀ v ∈ EntD.cells x, cell1 v = true := by
  intro x hx v hv
  simp only [EntD.cells, List.mem_cons, List.not_mem_nil, or_false] at hv
  rcases hv with rfl | rfl | rfl | rfl | rfl
  · rfl
  · rfl
  · rfl
  · rfl
  · exact Sl.cell1 (Rd.φ (h x hx).dv)
theorem zGM {i t k u n : Nat} {es : List EntD} (hn : 0 < n) (hl : n ≤ es.length) (h : (zG es (n - 1)).index ≤ k ∧ (zG es (n - 1)).term ≤ u) : (LG i t es).hintN k u n = ((zG es (n - 1)).index, (zG es (n - 1)).term) := by
  obtain ⟨n, rfl⟩ : ∃ q, n = q + 1 := ⟨n - 1, by omega⟩
  simp only [Nat.add_sub_cancel] at h ⊢
  unfold LogA.hintN; rw [zCb (by omega), if_pos h]
theorem zF3 {i t k u n : Nat} {es : List EntD} (hn : 0 < n) (hl : n ≤ es.length) (h : ¬ ((zG es (n - 1)).index ≤ k ∧ (zG es (n - 1)).term ≤ u)) : (LG i t es).hintN k u n = (LG i t es).hintN k u (n - 1) := by
  obtain ⟨n, rfl⟩ : ∃ q, n = q + 1 := ⟨n - 1, by omega⟩
  simp only [Nat.add_sub_cancel] at h ⊢
  rw [LogA.hintN, zCb (by omega), if_neg h]
theorem zFO {i t k u n : Nat} {es : List EntD} (h : (LG i t es).hint k u = (LG i t es).hintN k u n) (hn : n = 0) : (LG i t es).hint k u = (i, t) := by rw [h, hn]; rfl
theorem zAE {i t k j u : Nat} {m : List EntD} (hk : k < m.length) (h : folA i t ((m.take k).map EntD.toEntA)) (hj : j = jB i ((m.take k).map EntD.toEntA)) (hu : u = jL t ((m.take k).map EntD.toEntA)) :
    (folA i t ((m.take (k + 1)).map EntD.toEntA) ↔ (zG m k).ok ∧ (zG m k).index = j + 1 ∧ u ≤ (zG m k).term) ∧ ((zG m k).index = j + 1 → (zG m k).index = jB i ((m.take (k + 1)).map EntD.toEntA)) ∧ (zG m k).term = jL t ((m.take (k + 1)).map EntD.toEntA) := by
  rw [zu hk, List.map_append, List.map_cons, List.map_nil, folA.snoc, zAV]
  refine ⟨⟨fun q => ⟨q.2.1, by rw [hj]; exact q.2.2.1, by rw [hu]; exact q.2.2.2⟩, fun q => ⟨h, q.1, by rw [← hj]; exact q.2.1, by rw [← hu]; exact q.2.2⟩⟩, fun q => ?_, rfl⟩
  rw [q, hj]; simp only [jB, List.length_append, List.length_cons, List.length_nil]; omega
theorem zJu {i t k j u : Nat} {m : List EntD} (hk : k < m.length) (h : folA i t ((m.take k).map EntD.toEntA)) (hj : j = jB i ((m.take k).map EntD.toEntA)) (hu : u = jL t ((m.take k).map EntD.toEntA)) (hn : ¬ ((zG m k).ok ∧ (zG m k).index = j + 1 ∧ u ≤ (zG m k).term)) : ¬ folA i t (m.map EntD.toEntA) := by
  intro q
  apply hn
  rw [← (zAE hk h hj hu).1, List.map_take]
  exact q.take _
theorem zD6 {i t index term k : Nat} {es m : List EntD} (hm : folA index term (m.map EntD.toEntA)) (hf : (LG i t es).fits index term) (hk : k < m.length) (h1 : ∀ e ∈ m.take k, (LG i t es).fits e.index e.term) (h2 : ¬ (LG i t es).fits (zG m k).index (zG m k).term) :
    (LG i t es).kn (m.map EntD.toEntA) = k ∧ (zG m k).index = index + k + 1 ∧ i ≤ index + k ∧ index + k ≤ i + es.length := by
  have hkn : (LG i t es).kn (m.map EntD.toEntA) = k := (LG i t es).kn_of (by simp; omega) (fun e he => by
    rw [← List.map_take] at he; obtain ⟨x, hx, rfl⟩ := List.mem_map.1 he; exact h1 x hx) (fun _ => by rw [zCb hk]; exact h2)
  have h3 := hm.idx k (by simpa using hk)
  rw [zCb hk] at h3
  have h4 := (LogA.fits_end (zEs hm hf)).1
  rw [hkn, LG.last_eq] at h4
  have e : jB index ((m.map EntD.toEntA).take k) = index + k := by unfold jB; simp; omega
  rw [e] at h4
  exact ⟨hkn, h3, h4⟩
theorem zEi {i t index term k : Nat} {es m es' : List EntD} (hm : folA index term (m.map EntD.toEntA)) (hf : (LG i t es).fits index term) (hk : k < m.length) (h1 : ∀ e ∈ m.take k, (LG i t es).fits e.index e.term) (h2 : ¬ (LG i t es).fits (zG m k).index (zG m k).term)
    (he : es'.map EntD.toEntA = (es.map EntD.toEntA).take ((zG m k).index - i - 1) ++ (m.map EntD.toEntA).drop k) : LG i t es' = (LG i t es).append index term (m.map EntD.toEntA) ∧ (LG i t es).ans index term (m.map EntD.toEntA) = (index + m.length, (zG m k).index, 0) := by
  have h := (zD6 hm hf hk h1 h2).1
  constructor
  · unfold LogA.append LogA.put
    rw [if_pos ⟨hm, hf⟩, h, if_pos (by simpa using hk), zCb hk, ← he]
  · unfold LogA.ans LogA.put0
    rw [if_pos hm, if_pos hf, h, if_pos (by simpa using hk), zCb hk, List.length_map]
theorem zE9 {i t index term k : Nat} {es m : List EntD} (hm : folA index term (m.map EntD.toEntA)) (hf : (LG i t es).fits index term) (hk : k < m.length) (h1 : ∀ e ∈ m.take k, (LG i t es).fits e.index e.term) (h2 : ¬ (LG i t es).fits (zG m k).index (zG m k).term) : (LG i t es).ans index term (m.map EntD.toEntA) = (index + m.length, (zG m k).index, 0) := by
  have h := (zD6 hm hf hk h1 h2).1
  unfold LogA.ans LogA.put0
  rw [if_pos hm, if_pos hf, h, if_pos (by simpa using hk), zCb hk, List.length_map]
theorem put_none {i t index term : Nat} {es m : List EntD} (hm : folA index term (m.map EntD.toEntA)) (hf : (LG i t es).fits index term) (h1 : ∀ e ∈ m, (LG i t es).fits e.index e.term) :
    LG i t es = (LG i t es).append index term (m.map EntD.toEntA) ∧ (LG i t es).ans index term (m.map EntD.toEntA) = (index + m.length, 0, 0) := by
  have h := LogA.put_same (x := LG i t es) (m := m.map EntD.toEntA) (fun e he => by obtain ⟨x, hx, rfl⟩ := List.mem_map.1 he; exact h1 x hx)
  constructor
  · unfold LogA.append; rw [if_pos ⟨hm, hf⟩, h.1]
  · unfold LogA.ans; rw [if_pos hm, if_pos hf, h.2, List.length_map]
theorem zDG {x : LogA} {index term : Nat} {m : List EntA} (h : ¬ folA index term m) : x = x.append index term m ∧ x.ans index term m = (0, 0, 2) :=
  ⟨by unfold LogA.append; rw [if_neg fun q => h q.1], by unfold LogA.ans; rw [if_neg h]⟩
theorem zEf {x : LogA} {index term : Nat} {m : List EntA} (hm : folA index term m) (h : ¬ x.fits index term) : x = x.append index term m ∧ x.ans index term m = (0, 0, 12) :=
  ⟨by unfold LogA.append; rw [if_neg fun q => h q.2], by unfold LogA.ans; rw [if_pos hm, if_neg h]⟩
theorem zKi (i t : Nat) (w : World) (hi : i ≤ 4611686018427387904) (ht : t ≤ 4611686018427387904) : Rets Tryz.prog 27 #[Vn i, Vn t] w fun u_ w' => ∃ (b : Nat), u_ = .pointer (some ⟨b, 0, none⟩) ∧ Own w [] [Res.row b 144 [Vn i, Vn t, (.slice none 0 0)], Res.vec 81 5 (.slice none 0 0) ([] : List EntD).length (([] : List EntD).flatMap EntD.cells), Res.star (([] : List EntD).map EntD.dres)] w' := by
  refine zT Tryz.func27 rfl Tryz.ntmps27 (Own.start w) ?_
  refine zB (zK rfl (zA (zQ (zB (zD rfl (zD rfl (zBU (c := ((max i t : Nat) : Int)) rfl rfl (zCR _ _) rfl (yo rfl rfl rfl (zA (zf rfl (fun c1 => ?_) (fun c1 => ?_)))))))))))
  ·
   exact absurd c1 (by omega)
  ·
   refine zR (zB (zD rfl (zD rfl (yc (cs := [Vn i, Vn t]) (z := [Vn 0, Vn 0]) (pl := [(0, 1), (1, 1)]) (by kernel_rfl) (by kernel_rfl) rfl (yc (cs := [Vn i, Vn t, .slice none 0 0]) (z := [Vn 0, Vn 0, .slice none 0 0]) (pl := [(0, 2), (2, 1)]) (by kernel_rfl) (by kernel_rfl) rfl (z7 rfl rfl (fun b13 => zK rfl (zA ?_))))))))
   exact zY (yD (v := .pointer (some ⟨b13, 0, none⟩)) rfl rfl (fun w' hw => ⟨b13, rfl, (zt hw 81 5).starNil⟩))
theorem zAM (lb i t : Nat) (lv : Value) (es : List EntD) (w : World) (hb : i + es.length ≤ 4611686018427387904) (hlb : Rd w [] (Res.row lb 144 [Vn i, Vn t, lv])) (hlv : Rd w [] (Res.sl lv es.length (es.flatMap EntD.cells))) (all_hlv : ∀ p ∈ es, EntD.rd p w []) : Rets Tryz.prog 67 #[.pointer (some ⟨lb, 0, none⟩)] w fun u_ w' => u_ = Vn (i + es.length) ∧ Own w [] [] w' := by
  refine zT Tryz.func67 rfl Tryz.ntmps67 (Own.start w) ?_
  refine zB (zK rfl (zA (yV (by kernel_rfl) (by kernel_rfl) (zL rfl (zU) (zL rfl (zP rfl) (zL rfl (zI (o := 0) rfl) (zL rfl (zI (o := 0) rfl) (zL rfl (zAq (v := Vn i) rfl (hlb.φ.cell rfl) (hlb.far _ (by simp [Res.row])) (by kernel_rfl)) (zL rfl (zU) (zL rfl (zP rfl) (zL rfl (zI (o := 2) rfl) (zL rfl (zAq (v := lv) rfl (hlb.φ.cell rfl) (hlb.far _ (by simp [Res.row])) (by kernel_rfl)) ?_))))))))))))
  refine zL rfl (zAc (pR hlv) rfl) (zL rfl (kj (by kernel_rfl) rfl (y6 (by omega)) (by kernel_rfl)) (zL rfl (yw rfl rfl (y6 (by omega))) (zL rfl (ya) (xN ?_))))
  exact zY (yD (v := Vn (i + es.length)) rfl rfl (fun w' hw => ⟨rfl, hw.drop⟩))
theorem zET (lb i t : Nat) (lv : Value) (es : List EntD) (k : Nat) (w : World) (hl : zd es.length) (hb : i + es.length ≤ 4611686018427387904) (hk : k < 18446744073709551616) (hlb : Rd w [] (Res.row lb 144 [Vn i, Vn t, lv])) (hlv : Rd w [] (Res.sl lv es.length (es.flatMap EntD.cells))) (all_hlv : ∀ p ∈ es, EntD.rd p w []) : Rets Tryz.prog 57 #[.pointer (some ⟨lb, 0, none⟩), Vn k] w fun u_ w' => ∃ (x : Nat) (e : Int), u_ = .tuple #[Vn x, Vi e] ∧ (LG i t es).termE k = (x, e) ∧ Own w [] [] w' := by
  refine zT Tryz.func57 rfl Tryz.ntmps57 (Own.start w) ?_
  refine zB (zK rfl (zK rfl (zA (zQ (zc (zB (zD rfl (xy (by kernel_rfl) rfl rfl rfl (zK rfl (zA (x8 rfl (zB ?_))))))))))))
  refine zD rfl (zD rfl (zh rfl rfl (zJ (o := 0) rfl rfl (zJ (o := 0) rfl rfl (xq (v := Vn i) rfl (hlb.φ.cell rfl) (hlb.far _ (by simp [Res.row])) (by kernel_rfl) rfl (yJ rfl rfl rfl (zK rfl (zA (zf rfl (fun c2 => ?_) (fun c2 => ?_))))))))))
  ·
   refine zB (zK rfl (zK rfl (zA ?_)))
   exact zY (xP (v := Vn 0) (v' := Vi 13) rfl rfl rfl (fun w' hw => ⟨0, 13, rfl, LG.term_lo (by omega), hw.drop⟩))
  ·
   refine zB (zD rfl (zD rfl (zH rfl rfl (fun w' hw => (zAM lb i t lv es w' (by first | omega | (simp <;> omega)) (hw.rd0 hlb) (hw.rd0 hlv) (fun p hp => EntD.rd.at0 (all_hlv p hp) hw)).mono ?_))))
   rintro _ w1 ⟨rfl, hO⟩
   refine (?_ : CL _ _ _ _ _ _ (Own w [] [])) w1 (hw.frame0 hO)
   refine yo rfl rfl rfl (zK rfl (zA (zf rfl (fun c3 => ?_) (fun c3 => ?_))))
   ·
    refine zB (zK rfl (zK rfl (zA ?_)))
    exact zY (xP (v := Vn 0) (v' := Vi 8) rfl rfl rfl (fun w' hw => ⟨0, 8, rfl, LG.term_hi (by omega), hw.drop⟩))
   ·
    refine zB (zD rfl (zD rfl (zh rfl rfl (zJ (o := 0) rfl rfl (zJ (o := 0) rfl rfl (xq (v := Vn i) rfl (hlb.φ.cell rfl) (hlb.far _ (by simp [Res.row])) (by kernel_rfl) rfl (yZ rfl rfl rfl (zK rfl (zA (zf rfl (fun c4 => ?_) (fun c4 => ?_)))))))))))
    ·
     refine zB (zD rfl (zh rfl rfl (zJ (o := 0) rfl rfl (zJ (o := 1) rfl rfl (xq (v := Vn t) rfl (hlb.φ.cell rfl) (hlb.far _ (by simp [Res.row])) (by kernel_rfl) rfl (zK rfl (zK rfl (zA ?_))))))))
     exact zY (xP (v := Vn t) (v' := Vi 0) rfl rfl rfl (fun w' hw => ⟨t, 0, rfl, LG.term_at (by omega), hw.drop⟩))
    ·
     refine zR (yV (by kernel_rfl) (by kernel_rfl) (zL rfl (zU) (zL rfl (zP rfl) (zL rfl (zI (o := 2) rfl) (zL rfl (zAq (v := lv) rfl (hlb.φ.cell rfl) (hlb.far _ (by simp [Res.row])) (by kernel_rfl)) (zL rfl (zU) (zL rfl (zU) (zL rfl (zP rfl) (zL rfl (zI (o := 0) rfl) (zL rfl (zI (o := 0) rfl) (zL rfl (zAq (v := Vn i) rfl (hlb.φ.cell rfl) (hlb.far _ (by simp [Res.row])) (by kernel_rfl)) (zL rfl (xb (c := ((k - i : Nat) : Int)) rfl rfl (ws (by omega) (by omega))) ?_))))))))))))
     refine zL rfl (xb (c := ((k - i - 1 : Nat) : Int)) rfl rfl (ws (a := k - i) (b := 1) (by omega) (by omega))) (zL rfl (zAZ (pR hlv) 5 (k - i - 1) rfl rfl rfl (by omega)) (zL rfl (zI (o := 1) rfl) (zL rfl (zDS (pR hlv) 5 (k - i - 1) 1 (off := xF lv + (k - i - 1) * 5 + 1) (fun _ => rfl) rfl (by omega) (by omega) rfl) (zL rfl (ya) (zL rfl (ya) (xN ?_))))))
     exact zY (xP (v := Vn ((zG es (k - i - 1)).term)) (v' := Vi 0) rfl rfl rfl (fun w' hw => ⟨(zG es (k - i - 1)).term, 0, rfl, LG.term_in (by omega) (by omega) rfl, hw.drop⟩))
theorem kQ (lb i t : Nat) (lv : Value) (es : List EntD) (w : World) (hl : zd es.length) (hb : i + es.length ≤ 4611686018427387904) (hlb : Rd w [] (Res.row lb 144 [Vn i, Vn t, lv])) (hlv : Rd w [] (Res.sl lv es.length (es.flatMap EntD.cells))) (all_hlv : ∀ p ∈ es, EntD.rd p w []) : Rets Tryz.prog 29 #[.pointer (some ⟨lb, 0, none⟩)] w fun u_ w' => u_ = .tuple #[Vn (i + es.length), Vn ((LG i t es).end_)] ∧ Own w [] [] w' := by
  refine zT Tryz.func29 rfl Tryz.ntmps29 (Own.start w) ?_
  refine zB (zK rfl (zK rfl (zA (zQ (zB (zD rfl (xy (by kernel_rfl) rfl rfl rfl (zA (x8 rfl (zR (zB (zD rfl ?_))))))))))))
  refine zD rfl (zH rfl rfl (fun w' hw => (zAM lb i t lv es w' (by first | omega | (simp <;> omega)) (hw.rd0 hlb) (hw.rd0 hlv) (fun p hp => EntD.rd.at0 (all_hlv p hp) hw)).mono ?_))
  rintro _ w1 ⟨rfl, hO⟩
  refine (?_ : CL _ _ _ _ _ _ (Own w [] [])) w1 (hw.frame0 hO)
  refine zH rfl rfl (fun w' hw => (zET lb i t lv es (i + es.length) w' (by first | assumption | omega | (simp <;> omega) | (constructor <;> (first | omega | (simp only [zd]; omega) | (simp <;> omega)))) (by first | omega | (simp <;> omega)) (by first | omega | (simp <;> omega)) (hw.rd0 hlb) (hw.rd0 hlv) (fun p hp => EntD.rd.at0 (all_hlv p hp) hw)).mono ?_)
  rintro _ w1 ⟨x1_, e2_, rfl, hf3_3, hO⟩
  refine (?_ : CL _ _ _ _ _ _ (Own w [] [])) w1 (hw.frame0 hO)
  refine zD rfl (yE (vs := [Vn x1_, Vi e2_]) rfl rfl rfl (yE (vs := [Vn x1_, Vi e2_]) rfl rfl rfl (zK rfl (zK rfl (zA (zB (zD rfl (zH rfl rfl (fun w' hw => (zAM lb i t lv es w' (by first | omega | (simp <;> omega)) (hw.rd0 hlb) (hw.rd0 hlv) (fun p hp => EntD.rd.at0 (all_hlv p hp) hw)).mono ?_)))))))))
  rintro _ w1 ⟨rfl, hO⟩
  refine (?_ : CL _ _ _ _ _ _ (Own w [] [])) w1 (hw.frame0 hO)
  refine zD rfl (zK rfl (zK rfl (zA ?_)))
  exact zY (xP (v := Vn (i + es.length)) (v' := Vn x1_) rfl rfl rfl (fun w' hw => ⟨(by rw [LG.end_eq hf3_3]), hw.drop⟩))
theorem zA2 (lb i t : Nat) (lv : Value) (es : List EntD) (k u : Nat) (w : World) (hl : zd es.length) (hb : i + es.length ≤ 4611686018427387904) (hk : k < 18446744073709551616) (hlb : Rd w [] (Res.row lb 144 [Vn i, Vn t, lv])) (hlv : Rd w [] (Res.sl lv es.length (es.flatMap EntD.cells))) (all_hlv : ∀ p ∈ es, EntD.rd p w []) : Rets Tryz.prog 22 #[.pointer (some ⟨lb, 0, none⟩), Vn k, Vn u] w fun u_ w' => u_ = .bool (decide ((LG i t es).fits k u)) ∧ Own w [] [] w' := by
  refine zT Tryz.func22 rfl Tryz.ntmps22 (Own.start w) ?_
  refine zB (zK rfl (zA (zB (zD rfl (zD rfl (zH rfl rfl (fun w' hw => (zET lb i t lv es k w' (by first | assumption | omega | (simp <;> omega) | (constructor <;> (first | omega | (simp only [zd]; omega) | (simp <;> omega)))) (by first | omega | (simp <;> omega)) (by first | omega | (simp <;> omega)) (hw.rd0 hlb) (hw.rd0 hlv) (fun p hp => EntD.rd.at0 (all_hlv p hp) hw)).mono ?_)))))))
  rintro _ w1 ⟨x1_, e2_, rfl, hf1_2, hO⟩
  refine (?_ : CL _ _ _ _ _ _ (Own w [] [])) w1 (hw.frame0 hO)
  refine zD rfl (yE (vs := [Vn x1_, Vi e2_]) rfl rfl rfl (yE (vs := [Vn x1_, Vi e2_]) rfl rfl rfl (zK rfl (zK rfl (zA (zB (zD rfl (yZ rfl rfl rfl (zD rfl (yd (q := e2_ = 0) 3 2 [20, 19, 18] (((x1_ : Nat) : Int) = ((u : Nat) : Int)) rfl rfl rfl rfl rfl rfl trivial rfl (fun h2_2 => ?_) (fun g2_6 => ?_)))))))))))
  ·
   refine zO rfl (gT h2_2) (zD rfl (zO rfl (gT h2_2) (zD rfl (zO rfl (gT h2_2) (yZ rfl rfl rfl ?_)))))
   exact yK rfl (fun _ hw => hw)
  refine zK rfl (zA ?_)
  exact zY (yD (v := .bool (decide ((e2_ = 0) ∧ (((x1_ : Nat) : Int) = ((u : Nat) : Int))))) rfl rfl (fun w' hw => ⟨(by congr 1; exact decide_eq_decide.2 (by unfold LogA.fits; rw [hf1_2]; exact ⟨fun h => ⟨h.1, by have := h.2; dsimp only; omega⟩, fun h => ⟨h.1, by have := h.2; dsimp only at this; omega⟩⟩)), hw.drop⟩))
theorem zCU (lb i t : Nat) (lv : Value) (es : List EntD) (k u : Nat) (w : World) (hl : zd es.length) (hb : i + es.length ≤ 4611686018427387904) (hlb : Rd w [] (Res.row lb 144 [Vn i, Vn t, lv])) (hlv : Rd w [] (Res.sl lv es.length (es.flatMap EntD.cells))) (all_hlv : ∀ p ∈ es, EntD.rd p w []) : Rets Tryz.prog 83 #[.pointer (some ⟨lb, 0, none⟩), Vn k, Vn u] w fun u_ w' => u_ = .bool (decide ((LG i t es).fresh k u)) ∧ Own w [] [] w' := by
  refine zT Tryz.func83 rfl Tryz.ntmps83 (Own.start w) ?_
  refine zB (zK rfl (zA (zQ (zB (zD rfl (xy (by kernel_rfl) rfl rfl rfl (zA (x8 rfl (zR (zB (zD rfl (zH rfl rfl (fun w' hw => ?_)))))))))))))
  refine (kQ lb i t lv es w' (by first | assumption | omega | (simp <;> omega) | (constructor <;> (first | omega | (simp only [zd]; omega) | (simp <;> omega)))) (by first | omega | (simp <;> omega)) (hw.rd0 hlb) (hw.rd0 hlv) (fun p hp => EntD.rd.at0 (all_hlv p hp) hw)).mono ?_
  rintro _ w1 ⟨rfl, hO⟩
  refine (?_ : CL _ _ _ _ _ _ (Own w [] [])) w1 (hw.frame0 hO)
  refine zD rfl (yE (vs := [Vn (i + es.length), Vn ((LG i t es).end_)]) rfl rfl rfl (yE (vs := [Vn (i + es.length), Vn ((LG i t es).end_)]) rfl rfl rfl (zK rfl (zK rfl (zA (zB (zD rfl (zD rfl (yo rfl rfl rfl (zD rfl (yT (q := (((LG i t es).end_ : Nat) : Int) < ((u : Nat) : Int)) 8 3 [27, 26, 25, 24, 23, 22, 21, 20] ((((u : Nat) : Int) = (((LG i t es).end_ : Nat) : Int)) ∧ (((i + es.length : Nat) : Int) ≤ ((k : Nat) : Int))) rfl rfl rfl rfl rfl rfl trivial rfl (fun h4_3 => ?_) (fun g4_12 => ?_))))))))))))
  ·
   refine zO rfl (gF h4_3) (zD rfl (zO rfl (gF h4_3) (zD rfl (zO rfl (gF h4_3) (yZ rfl rfl rfl (zO rfl (gF h4_3) (zD rfl (yd (q := ((u : Nat) : Int) = (((LG i t es).end_ : Nat) : Int)) 3 7 [26, 25, 24] (((i + es.length : Nat) : Int) ≤ ((k : Nat) : Int)) rfl rfl rfl rfl rfl rfl ⟨_, rfl, rfl, gF h4_3⟩ rfl (fun h4_7 => ?_) (fun g4_11 => ?_)))))))))
   ·
    refine zO rfl (gT h4_7) (zD rfl (zO rfl (gT h4_7) (zD rfl (zO rfl (gT h4_7) (kK rfl rfl rfl ?_)))))
    exact yK rfl (fun _ hw => hw)
   exact yK rfl (fun _ hw => hw)
  refine zK rfl (zA ?_)
  exact zY (yD (v := .bool (decide (((((LG i t es).end_ : Nat) : Int) < ((u : Nat) : Int)) ∨ ((((u : Nat) : Int) = (((LG i t es).end_ : Nat) : Int)) ∧ (((i + es.length : Nat) : Int) ≤ ((k : Nat) : Int)))))) rfl rfl (fun w' hw => ⟨(by congr 1; exact decide_eq_decide.2 (by unfold LogA.fresh; rw [LG.last_eq]; omega)), hw.drop⟩))
theorem zDE (v : Value) (l : List EntD) (w : World) (hl : l.length ≤ 100000000000) (hv : Rd w [] (Res.sl v l.length (l.flatMap EntD.cells))) (all_hv : ∀ p ∈ l, EntD.rd p w []) : Rets Tryz.prog 65 #[v] w fun u_ w' => ∃ (r : Value), u_ = r ∧ Own w [] [Res.vec 81 5 r l.length (l.flatMap EntD.cells)] w' := by
  refine zT Tryz.func65 rfl Tryz.ntmps65 (Own.start w) ?_
  refine zB (zK rfl (zA (zQ (zB (zD rfl (zCc (len := l.length) (cs := (l.flatMap EntD.cells)) (by kernel_rfl) rfl rfl (fun w' hw' => Own.rd hv hw') rfl (zA (ja rfl (fun c1 => ?_) (fun c1 => ?_)))))))))
  ·
   refine zB (zK rfl (zA ?_))
   exact zY (yD (v := .slice none 0 0) rfl rfl (fun w' hw => ⟨.slice none 0 0, rfl, by obtain ⟨_, h0⟩ := Sl.isNil hv.φ c1; rw [List.eq_nil_of_length_eq_zero h0]; exact zt hw 81 5⟩))
  ·
   refine zR (zB (z4 (e := 81) (sz := 5) (vs := []) (by kernel_rfl) rfl rfl (by simp [Value.cells, EntD.cells]) (by decide) rfl (fun b5 => zD rfl (yO (g := EntD.cells) (sz := 5) (by' := 56) (fun _ => rfl) (l := []) (l' := l) (EntD.c1all all_hv) 0 (by kernel_rfl) rfl rfl rfl (fun w' hw' => Own.rd hv hw') (by first | omega | (simp <;> omega)) (by decide) rfl (fun v7 => zK rfl (zA ?_))))))
   exact zY (yD (v := v7) rfl rfl (fun w' hw => ⟨v7, rfl, hw⟩))
theorem zGo (x : EntD) (w : World) (hx : x.data.length ≤ 1000000000) (rd_x : EntD.rd x w []) : Rets Tryz.prog 114 #[.agg (EntD.cells x).toArray] w fun u_ w' => ∃ (r : Value), u_ = .agg #[Vn x.index, Vn x.term, Vi x.kind, Vi x.delta, r] ∧ Own w [] [Res.vec 5 1 r x.data.length (x.data.map vb)] w' := by
  refine zT Tryz.func114 rfl Tryz.ntmps114 (Own.start w) ?_
  refine zB (z7 rfl rfl (fun b1 => yS (v := .agg #[Vn 0, Vn 0, Vi 0, Vi 0, .slice none 0 0]) (by kernel_rfl) rfl (fun b2 => zA (zB (zJ (o := 4) rfl rfl (zM 0 (v := x.dv) rfl rfl rfl rfl (zH rfl rfl (fun w' hw => (zBd x.dv x.data w' (by first | assumption | omega | (simp <;> omega) | (constructor <;> (first | omega | (simp only [zd]; omega) | (simp <;> omega)))) (hw.rd0 rd_x.dv)).mono ?_))))))))
  rintro r1_ w1 ⟨_, rfl, hO⟩
  refine (?_ : CL _ _ _ _ _ _ (Own w [] [Res.row b1 81 (EntD.cells x), Res.row b2 81 [Vn 0, Vn 0, Vi 0, Vi 0, .slice none 0 0], Res.vec 5 1 r1_ x.data.length (x.data.map vb)])) w1 (hw.frame0 hO)
  refine zJ (o := 4) rfl rfl ?_
  refine zg (fun w' hw => Own.cell1Vec (i := 2) rfl hw) (fun hc1_ => ?_)
  refine zo (cs := (EntD.cells x)) 0 rfl rfl rfl hc1_ rfl (zA (zB (yY (cs := [Vn x.index, Vn x.term, Vi x.kind, Vi x.delta, r1_]) 0 rfl rfl rfl (yH 1 rfl rfl rfl (zF rfl (zF rfl (zF rfl (zF rfl (zF hc1_ zw))))) rfl (zA ?_)))))
  exact zY (jt (cs := [Vn x.index, Vn x.term, Vi x.kind, Vi x.delta, r1_]) rfl rfl (by kernel_rfl) (Own.rowCells (i := 1) rfl) (fun w' hw => ⟨r1_, rfl, hw.sel [2] rfl (by decide)⟩))
theorem zBq (v : Value) (l : List EntD) (w : World) (hl : l.length ≤ 100000000000) (hd : ∀ x ∈ l, x.data.length ≤ 1000000000) (hv : Rd w [] (Res.sl v l.length (l.flatMap EntD.cells))) (all_hv : ∀ p ∈ l, EntD.rd p w []) : Rets Tryz.prog 66 #[v] w fun u_ w' => ∃ (r : Value) (es : List EntD), u_ = r ∧ es.map EntD.toEntA = l.map EntD.toEntA ∧ Own w [] [Res.vec 81 5 r es.length (es.flatMap EntD.cells), Res.star (es.map EntD.dres)] w' := by
  refine zT Tryz.func66 rfl Tryz.ntmps66 (Own.start w) ?_
  refine zB (zK rfl (zA (zB (zK rfl (zA (zQ (zB (zD rfl (zq (pR hv) rfl rfl (zD rfl (zA (zc ?_))))))))))))
  refine kY (fun (k : Nat) (lv : Value) (es : List EntD) => [(3, lv), (6, v), (7, Vj l.length), (8, Vj k)]) (fun (k : Nat) (lv : Value) (es : List EntD) => k ≤ l.length ∧ es.map EntD.toEntA = (l.take k).map EntD.toEntA) (fun (k : Nat) (lv : Value) (es : List EntD) => [Res.vec 81 5 lv es.length (es.flatMap EntD.cells), Res.star (es.map EntD.dres)]) (fun (k : Nat) (lv : Value) (es : List EntD) => l.length - k) (fun w' hw => ⟨0, .slice none 0 0, [], ⟨rfl, rfl, rfl, rfl, trivial⟩, ⟨Nat.zero_le _, rfl⟩, (zt hw 81 5).starNil⟩) (fun k lv es g hΦ => ?_)
  have hlen : es.length = min k l.length := by have := congrArg List.length hΦ.2; simpa using this
  refine zB (yJ rfl rfl rfl (zA (zQ (zf rfl (fun c1 => ?_) (fun c1 => ?_)))))
  ·
   have hnd := hd _ (zl (l := l) (j := k) (by omega))
   refine zR (zQ (zc (zB (zm (pR hv) 5 k rfl rfl rfl (by omega) rfl (kd (pR hv) 5 k (off := xF v + k * 5) (fun _ => rfl) rfl rfl (by omega) rfl (yS (v := .agg #[Vn 0, Vn 0, Vi 0, Vi 0, .slice none 0 0]) (by kernel_rfl) rfl (fun b5 => yH 2 rfl rfl rfl (zF rfl (zF rfl (zF rfl (zF rfl (zF (Sl.cell1 (Rd.φ ((all_hv _ (zl (by omega))).dv))) zw))))) rfl (zA (zW (zD rfl (yY (cs := (EntD.cells (zG l k))) 2 rfl rfl rfl (zH rfl rfl (fun w' hw => ?_)))))))))))))
   refine (zGo (zG l k) w' (by first | omega | (simp <;> omega)) ((all_hv _ (zl (by omega))).at0 hw)).mono ?_
   rintro _ w1 ⟨r1_, rfl, hO⟩
   refine (?_ : CL _ _ _ _ _ _ (Own w [] [Res.vec 81 5 lv es.length (es.flatMap EntD.cells), Res.star (es.map EntD.dres), Res.row b5 81 (EntD.cells (zG l k)), Res.vec 5 1 r1_ ((zG l k).data).length (((zG l k).data).map vb)])) w1 (hw.frame0 hO)
   refine z4 (e := 81) (sz := 5) (vs := [.agg #[Vn ((zG l k).index), Vn ((zG l k).term), Vi ((zG l k).kind), Vi ((zG l k).delta), r1_]]) (by kernel_rfl) rfl rfl (by simp [Value.cells, EntD.cells]) (by decide) rfl (fun b15 => ?_)
   refine zg (fun w' hw => Own.cell1Vec (i := 3) rfl hw) (fun hc1_ => ?_)
   refine yO (g := EntD.cells) (sz := 5) (by' := 56) (fun _ => rfl) (l := es) (l' := [({ (zG l k) with dv := r1_ } : EntD)]) (all_cons ((zF rfl (zF rfl (zF rfl (zF rfl (zF hc1_ zw)))))) (by simp)) 0 (by kernel_rfl) rfl rfl rfl (fun w' hw' => Vec.sl (Own.holds hw' 4 _ rfl)) (by first | omega | (simp <;> omega)) (by decide) rfl (fun v16 => zK rfl (zA (zW (z3 rfl rfl (zy (by omega)) rfl (zD rfl ?_)))))
   exact zj (fun w' hw => ⟨k + 1, v16, es ++ [({ (zG l k) with dv := r1_ } : EntD)], ⟨rfl, rfl, rfl, rfl, trivial⟩, ⟨by omega, by rw [List.map_append, zu (by omega), List.map_append, hΦ.2]; rfl⟩, ((hw.starMap (x := ({ (zG l k) with dv := r1_ } : EntD)) 1 3 (by decide) rfl rfl).sel [0, 1] rfl (by decide)), (by omega)⟩)
  ·
   refine yQ rfl (zB (zD rfl (zK rfl (zA ?_))))
   exact zY (yD (v := lv) rfl rfl (fun w' hw => ⟨lv, es, rfl, by rw [hΦ.2, List.take_of_length_le (by omega)], hw⟩))
theorem zGG (lb i t : Nat) (lv : Value) (es : List EntD) (k : Nat) (n : Int) (w : World) (hl : es.length ≤ 100000000000) (hg : (LG i t es).good) (hlb : Rd w [] (Res.row lb 144 [Vn i, Vn t, lv])) (hlv : Rd w [] (Res.sl lv es.length (es.flatMap EntD.cells))) (all_hlv : ∀ p ∈ es, EntD.rd p w []) : Rets Tryz.prog 54 #[.pointer (some ⟨lb, 0, none⟩), Vn k, Vi n] w fun u_ w' => ∃ (r : Value) (rs : List EntD) (e : Int), u_ = .tuple #[r, Vi e] ∧ (LG i t es).fromE k n = (rs.map EntD.toEntA, e) ∧ Own w [] [Res.vec 81 5 r rs.length (rs.flatMap EntD.cells), Res.star (rs.map EntD.dres)] w' := by
  have hb := (LG.le hg).1
  refine zT Tryz.func54 rfl Tryz.ntmps54 (Own.start w) ?_
  refine zB (zK rfl (zK rfl (zA (zQ (zc (zB (zD rfl (xy (by kernel_rfl) rfl rfl rfl (zD rfl (zO rfl rfl (zD rfl (zO rfl rfl ?_))))))))))))
  refine yJ rfl rfl rfl (zO rfl rfl (zD rfl (yd (q := n < 0) 7 5 [22, 21, 20, 19, 18, 17, 16] (((i : Nat) : Int) < ((k : Nat) : Int)) rfl rfl rfl rfl rfl rfl ⟨_, rfl, rfl, rfl⟩ rfl (fun h1_5 => ?_) (fun g1_13 => ?_))))
  ·
   refine zO rfl (gT h1_5) (zD rfl (zO rfl (gT h1_5) (zD rfl (zO rfl (gT h1_5) (zh rfl rfl (zO rfl (gT h1_5) (zJ (o := 0) rfl rfl (zO rfl (gT h1_5) (zJ (o := 0) rfl rfl (zO rfl (gT h1_5) (xq (v := Vn i) rfl (hlb.φ.cell rfl) (hlb.far _ (by simp [Res.row])) (by kernel_rfl) rfl (zO rfl (gT h1_5) ?_))))))))))))
   refine yo rfl rfl rfl ?_
   exact yK rfl (fun _ hw => hw)
  refine zO rfl rfl (zD rfl (yd (q := (n < 0) ∧ (((i : Nat) : Int) < ((k : Nat) : Int))) 5 14 [29, 28, 27, 26, 25] (((k : Nat) : Int) ≤ (((i + es.length) + 1 : Nat) : Int)) rfl rfl rfl rfl rfl rfl ⟨_, rfl, rfl, rfl⟩ rfl (fun h1_14 => ?_) (fun g1_20 => ?_)))
  ·
   refine zO rfl (gT h1_14) (zD rfl (zO rfl (gT h1_14) (zD rfl (zO rfl (gT h1_14) (zH rfl rfl (fun w' hw => (zAM lb i t lv es w' (by first | omega | (simp <;> omega)) (hw.rd0 hlb) (hw.rd0 hlv) (fun p hp => EntD.rd.at0 (all_hlv p hp) hw)).mono ?_))))))
   rintro _ w1 ⟨rfl, hO⟩
   refine (?_ : CL _ _ _ _ _ _ (Own w [] [])) w1 (hw.frame0 hO)
   refine zO rfl (gT h1_14) (z3 rfl rfl (y6 (by omega)) rfl (zO rfl (gT h1_14) (x4 rfl rfl rfl ?_)))
   exact yK rfl (fun _ hw => hw)
  refine kX rfl rfl (zK rfl (zA (zf rfl (fun c1 => ?_) (fun c1 => ?_))))
  ·
   refine zB (zK rfl (zK rfl (zA ?_)))
   exact zY (xP (v := .slice none 0 0) (v' := Vi 1) rfl rfl rfl (fun w' hw => ⟨.slice none 0 0, [], 1, rfl, by rw [LG.fromE_eq, if_neg (by omega), if_neg (by omega), if_pos (by omega)]; rfl, (Own.starNil (zt hw 81 5))⟩))
  ·
   refine zB (zD rfl (zD rfl (zh rfl rfl (zJ (o := 0) rfl rfl (zJ (o := 0) rfl rfl (xq (v := Vn i) rfl (hlb.φ.cell rfl) (hlb.far _ (by simp [Res.row])) (by kernel_rfl) rfl (x4 rfl rfl rfl (zK rfl (zA (zf rfl (fun c2 => ?_) (fun c2 => ?_)))))))))))
   ·
    refine zB (zK rfl (zK rfl (zA ?_)))
    exact zY (xP (v := .slice none 0 0) (v' := Vi 13) rfl rfl rfl (fun w' hw => ⟨.slice none 0 0, [], 13, rfl, by rw [LG.fromE_eq, if_pos (by omega)]; rfl, (Own.starNil (zt hw 81 5))⟩))
   ·
    refine zB (zD rfl (zD rfl (zH rfl rfl (fun w' hw => (zAM lb i t lv es w' (by first | omega | (simp <;> omega)) (hw.rd0 hlb) (hw.rd0 hlv) (fun p hp => EntD.rd.at0 (all_hlv p hp) hw)).mono ?_))))
    rintro _ w1 ⟨rfl, hO⟩
    refine (?_ : CL _ _ _ _ _ _ (Own w [] [])) w1 (hw.frame0 hO)
    refine z3 rfl rfl (y6 (by omega)) rfl (yo rfl rfl rfl (zK rfl (zA (zf rfl (fun c3 => ?_) (fun c3 => ?_)))))
    ·
     refine zB (zK rfl (zK rfl (zA ?_)))
     exact zY (xP (v := .slice none 0 0) (v' := Vi 8) rfl rfl rfl (fun w' hw => ⟨.slice none 0 0, [], 8, rfl, by rw [LG.fromE_eq, if_neg (by omega), if_pos (by omega)]; rfl, (Own.starNil (zt hw 81 5))⟩))
    ·
     refine zR (yV (by kernel_rfl) (by kernel_rfl) (zL rfl (zU) (zL rfl (zP rfl) (zL rfl (zI (o := 2) rfl) (zL rfl (zAq (v := lv) rfl (hlb.φ.cell rfl) (hlb.far _ (by simp [Res.row])) (by kernel_rfl)) (zL rfl (zU) (zL rfl (zU) (zL rfl (zP rfl) (zL rfl (zI (o := 0) rfl) (zL rfl (zI (o := 0) rfl) (zL rfl (zAq (v := Vn i) rfl (hlb.φ.cell rfl) (hlb.far _ (by simp [Res.row])) (by kernel_rfl)) (zL rfl (xb (c := ((k - i : Nat) : Int)) rfl rfl (ws (by omega) (by omega))) ?_))))))))))))
     refine zL rfl (xb (c := ((k - i - 1 : Nat) : Int)) rfl rfl (ws (a := k - i) (b := 1) (by omega) (by omega))) (zL rfl (zA5 (pR hlv) 5 (k - i - 1) es.length (by kernel_rfl) rfl ⟨_, rfl⟩ rfl (by omega) (by omega)) ?_)
     have hs1_ := Rd.dropL_f (g := EntD.cells) (xs := es) (sz := 5) (fun _ => rfl) hlv (l := k - i - 1) (by omega)
     refine zL rfl (ya) (xN (zB (zD rfl (zD rfl (zD rfl (zq (pR hs1_) rfl rfl (zKf (c := min n (((es.drop (k - i - 1)).length : Nat) : Int)) rfl rfl (zJ8 _ _) rfl (zCk (pR hs1_) 5 0 ((min n (((es.drop (k - i - 1)).length : Nat) : Int)).toNat) (by kernel_rfl) rfl rfl ⟨_, (show Value.int .i64 _ = Value.int .i64 _ by congr 1; omega)⟩ (by omega) (by omega) rfl ?_))))))))
     have hs2_ := Rd.subL_f (g := EntD.cells) (xs := (es.drop (k - i - 1))) (sz := 5) (fun _ => rfl) hs1_ (l := 0) (h := (min n (((es.drop (k - i - 1)).length : Nat) : Int)).toNat) (by omega) (by omega)
     refine zH rfl rfl (fun w' hw => (zBq (xi (xi lv (k - i - 1) es.length 5) 0 ((min n (((es.drop (k - i - 1)).length : Nat) : Int)).toNat) 5) (((es.drop (k - i - 1)).take ((min n (((es.drop (k - i - 1)).length : Nat) : Int)).toNat)).drop 0) w' (by first | omega | (simp <;> omega) | (constructor <;> (first | omega | (simp <;> omega)))) (fun e he => by have := LG.data hg e (List.mem_of_mem_drop (List.mem_of_mem_take (List.mem_of_mem_drop he))); omega) (hw.rd0 hs2_) (kp (zBh (kp (fun p hp => EntD.rd.at0 (all_hlv p hp) hw))))).mono ?_)
     rintro r3_ w1 ⟨_, es4_, rfl, hf8_6, hO⟩
     refine (?_ : CL _ _ _ _ _ _ (Own w [] [Res.vec 81 5 r3_ es4_.length (es4_.flatMap EntD.cells), Res.star (es4_.map EntD.dres)])) w1 (hw.frame0 hO)
     refine zK rfl (zK rfl (zA ?_))
     exact zY (xP (v := r3_) (v' := Vi 0) rfl rfl rfl (fun w' hw => ⟨r3_, es4_, 0, rfl, by rw [LG.fromE_eq, if_neg (by omega), if_neg (by omega), if_neg (by omega), hf8_6, List.drop_zero, List.map_take, List.map_drop]; congr 1; rw [List.take_eq_take_iff]; simp; omega, hw⟩))
theorem zHO (i t : Nat) (v : Value) (m : List EntD) (w : World) (hl : zd m.length) (hx : ∀ e ∈ m, e.wf) (hi : i < 18446744073709551616) (hv : Rd w [] (Res.sl v m.length (m.flatMap EntD.cells))) (all_hv : ∀ p ∈ m, EntD.rd p w []) : Rets Tryz.prog 64 #[.agg #[Vn i, Vn t], v] w fun u_ w' => u_ = .bool (decide (folA i t (m.map EntD.toEntA))) ∧ Own w [] [] w' := by
  refine zT Tryz.func64 rfl Tryz.ntmps64 (Own.start w) ?_
  refine zB (z7 rfl rfl (fun b2 => zK rfl (zA (zQ (zB (zD rfl (zq (pR hv) rfl rfl (zD rfl (zA (zc ?_))))))))))
  refine kY (fun (k : Nat) (j : Nat) (u : Nat) => [(2, .pointer (some ⟨b2, 0, none⟩)), (9, v), (10, Vj m.length), (11, Vj k)]) (fun (k : Nat) (j : Nat) (u : Nat) => (k ≤ m.length ∧ j < 18446744073709551616) ∧ folA i t ((m.take k).map EntD.toEntA) ∧ j = jB i ((m.take k).map EntD.toEntA) ∧ u = jL t ((m.take k).map EntD.toEntA)) (fun (k : Nat) (j : Nat) (u : Nat) => [Res.row b2 142 [Vn j, Vn u]]) (fun (k : Nat) (j : Nat) (u : Nat) => m.length - k) (fun w' hw => ⟨0, i, t, ⟨rfl, rfl, rfl, rfl, trivial⟩, ⟨⟨Nat.zero_le _, hi⟩, trivial, rfl, rfl⟩, hw⟩) (fun k j u g hΦ => ?_)
  refine zB (yJ rfl rfl rfl (zA (zQ (zf rfl (fun c1 => ?_) (fun c1 => ?_)))))
  ·
   refine zR (zQ (zc (zB (zm (pR hv) 5 k rfl rfl rfl (by omega) rfl (kd (pR hv) 5 k (off := xF v + k * 5) (fun _ => rfl) rfl rfl (by omega) rfl (yS (v := .agg #[Vn 0, Vn 0, Vi 0, Vi 0, .slice none 0 0]) (by kernel_rfl) rfl (fun b6 => yH 1 rfl rfl rfl (zF rfl (zF rfl (zF rfl (zF rfl (zF (Sl.cell1 (Rd.φ ((all_hv _ (zl (by omega))).dv))) zw))))) rfl (zA (zQ (zB (yY (cs := (EntD.cells (zG m k))) 1 rfl rfl rfl (zH rfl rfl (fun w' hw => ?_)))))))))))))
   refine (zDw (zG m k) w' (hx _ (zl (by omega))) ((all_hv _ (zl (by omega))).at0 hw)).mono ?_
   rintro _ w1 ⟨r1_, rfl, hO⟩
   refine (?_ : CL _ _ _ _ _ _ (Own w [] [Res.row b2 142 [Vn j, Vn u], Res.row b6 81 (EntD.cells (zG m k)), Res.vec 5 1 r1_ (if (zG m k).ok then (zG m k).enc else []).length ((if (zG m k).ok then (zG m k).enc else []).map vb)])) w1 (hw.frame0 hO)
   refine zD rfl (yE (vs := [r1_, Vi (yC (zG m k).ok)]) rfl rfl rfl (yE (vs := [r1_, Vi (yC (zG m k).ok)]) rfl rfl rfl (zK rfl (zK rfl (zA (zB (zD rfl (kR rfl rfl rfl (zD rfl (yT (q := (yC (zG m k).ok) ≠ 0) 6 2 [28, 27, 26, 25, 24, 23] ((((zG m k).index : Nat) : Int) ≠ (((j + 1) % 18446744073709551616 : Nat) : Int)) rfl rfl rfl rfl rfl rfl trivial rfl (fun h5_2 => ?_) (fun g5_9 => ?_)))))))))))
   ·
    refine zO rfl (gF h5_2) (zJ (o := 0) rfl rfl (zO rfl (gF h5_2) (zM 1 (v := Vn ((zG m k).index)) rfl rfl rfl rfl (zO rfl (gF h5_2) (zJ (o := 0) rfl rfl (zO rfl (gF h5_2) (zM 0 (v := Vn j) rfl rfl rfl rfl (zO rfl (gF h5_2) (z3 (c := (((j + 1) % 18446744073709551616 : Nat) : Int)) rfl rfl (zLK _ _) rfl (zO rfl (gF h5_2) (kR rfl rfl rfl ?_)))))))))))
    exact yK rfl (fun _ hw => hw)
   refine zD rfl (yT (q := ((yC (zG m k).ok) ≠ 0) ∨ ((((zG m k).index : Nat) : Int) ≠ (((j + 1) % 18446744073709551616 : Nat) : Int))) 5 10 [35, 34, 33, 32, 31] ((((zG m k).term : Nat) : Int) < ((u : Nat) : Int)) rfl rfl rfl rfl rfl rfl trivial rfl (fun h5_10 => ?_) (fun g5_16 => ?_))
   ·
    refine zO rfl (gF h5_10) (zJ (o := 1) rfl rfl (zO rfl (gF h5_10) (zM 1 (v := Vn ((zG m k).term)) rfl rfl rfl rfl (zO rfl (gF h5_10) (zJ (o := 1) rfl rfl (zO rfl (gF h5_10) (zM 0 (v := Vn u) rfl rfl rfl rfl (zO rfl (gF h5_10) (yJ rfl rfl rfl ?_)))))))))
    exact yK rfl (fun _ hw => hw)
   refine zA (zf rfl (fun c2 => ?_) (fun c2 => ?_))
   ·
    refine zB (zK rfl (zA ?_))
    exact zY (yD (v := .bool false) rfl rfl (fun w' hw => ⟨(by rw [decide_eq_false]; exact zJu (by omega) hΦ.2.1 hΦ.2.2.1 hΦ.2.2.2 (fun q => by have q1 := q.1.1; have q2 := errOf_zero.2 q.1; have q3 := q1.2.1.1; omega)), hw.drop⟩))
   ·
    have hok := errOf_zero.1 (show yC (zG m k).ok = 0 by omega)
    have hok1 := hok.1.1.1
    refine zR (zW (zJ (o := 0) rfl rfl (zM 1 (v := Vn ((zG m k).index)) rfl rfl rfl rfl (zJ (o := 1) rfl rfl (zM 1 (v := Vn ((zG m k).term)) rfl rfl rfl rfl (yc (cs := [Vn ((zG m k).index), Vn ((zG m k).term)]) (z := [Vn 0, Vn 0]) (pl := [(0, 1), (1, 1)]) (by kernel_rfl) (by kernel_rfl) rfl (yH 0 rfl rfl rfl (xx rfl) rfl (zA (zW (z3 rfl rfl (zy (by omega)) rfl (zD rfl ?_)))))))))))
    exact zj (fun w' hw => ⟨k + 1, (zG m k).index, (zG m k).term, ⟨rfl, rfl, rfl, rfl, trivial⟩, ⟨⟨by omega, (hx _ (zl (by omega))).index⟩, (zAE (by omega) hΦ.2.1 hΦ.2.2.1 hΦ.2.2.2).1.2 ⟨errOf_zero.1 (by omega), by omega, by omega⟩, (zAE (by omega) hΦ.2.1 hΦ.2.2.1 hΦ.2.2.2).2.1 (by omega), (zAE (by omega) hΦ.2.1 hΦ.2.2.1 hΦ.2.2.2).2.2⟩, hw.sel [0] rfl (by decide), (by omega)⟩)
  ·
   refine yQ rfl (zB (zK rfl (zA ?_)))
   exact zY (yD (v := .bool true) rfl rfl (fun w' hw => ⟨(by rw [decide_eq_true]; have h := hΦ.2.1; rwa [List.take_of_length_le (by omega)] at h), hw.drop⟩))
theorem zBZ {S : List Nat} (lb i t : Nat) (lv : Value) (es : List EntD) (index term : Nat) (v : Value) (m : List EntD) (w : World) (hl : es.length + m.length ≤ 100000000000) (hg : (LG i t es).good) (hx : ∀ e ∈ m, e.wf) (hi : index < 18446744073709551616) (hin : Own w S [Res.row lb 144 [Vn i, Vn t, lv], Res.vec 81 5 lv es.length (es.flatMap EntD.cells), Res.star (es.map EntD.dres)] w) (hv : Rd w S (Res.sl v m.length (m.flatMap EntD.cells))) (all_hv : ∀ p ∈ m, EntD.rd p w S) : Rets Tryz.prog 28 #[.pointer (some ⟨lb, 0, none⟩), Vn index, Vn term, v] w fun u_ w' => ∃ (lv' : Value) (es' : List EntD) (x : Nat) (y : Nat) (e : Int), u_ = .tuple #[Vn x, Vn y, Vi e] ∧ LG i t es' = (LG i t es).append index term (m.map EntD.toEntA) ∧ (LG i t es).ans index term (m.map EntD.toEntA) = (x, y, e) ∧ Own w S [Res.row lb 144 [Vn i, Vn t, lv'], Res.vec 81 5 lv' es'.length (es'.flatMap EntD.cells), Res.star (es'.map EntD.dres)] w' := by
  have hb := (LG.le hg).1
  refine zT Tryz.func28 rfl Tryz.ntmps28 hin ?_
  refine zB (zK rfl (zK rfl (zK rfl (zA (zQ (zc (zB (zD rfl (xy (by kernel_rfl) rfl rfl rfl (zK rfl (zA (x8 rfl ?_))))))))))))
  refine zB (zD rfl (zD rfl (yc (cs := [Vn index, Vn term]) (z := [Vn 0, Vn 0]) (pl := [(0, 1), (1, 1)]) (by kernel_rfl) (by kernel_rfl) rfl (zD rfl (zH rfl rfl (fun w' hw => (zHO index term v m w' (by first | assumption | omega | (simp <;> omega) | (constructor <;> (first | omega | (simp only [zd]; omega) | (simp <;> omega)))) ‹_› (by first | omega | (simp <;> omega)) (hw.rd0 hv) (fun p hp => EntD.rd.at0 (all_hv p hp) hw)).mono ?_))))))
  rintro _ w1 ⟨rfl, hO⟩
  refine (?_ : CL _ _ _ _ _ _ (Own w S [Res.row lb 144 [Vn i, Vn t, lv], Res.vec 81 5 lv es.length (es.flatMap EntD.cells), Res.star (es.map EntD.dres)])) w1 (hw.frame0 hO)
  refine xM (q := folA index term (m.map EntD.toEntA)) rfl rfl (zK rfl (zA (zf rfl (fun c2 => ?_) (fun c2 => ?_))))
  ·
   refine zB (zK rfl (zK rfl (zK rfl (zA ?_))))
   exact zY (zCo (v := Vn 0) (v' := Vn 0) (v'' := Vi 2) rfl rfl rfl rfl (fun w' hw => ⟨lv, es, 0, 0, 2, rfl, (zDG c2).1, (zDG c2).2, hw⟩))
  ·
   refine zB (zD rfl (zD rfl (zD rfl (zH rfl rfl (fun w' hw => (zA2 lb i t lv es index term w' (by first | assumption | omega | (simp <;> omega) | (constructor <;> (first | omega | (simp only [zd]; omega) | (simp <;> omega)))) (by first | omega | (simp <;> omega)) (by first | omega | (simp <;> omega)) (hw.rdRes0 0 rfl) (hw.rdVec0 1 rfl) (EntD.rd.star0 2 rfl hw)).mono ?_)))))
   rintro _ w1 ⟨rfl, hO⟩
   refine (?_ : CL _ _ _ _ _ _ (Own w S [Res.row lb 144 [Vn i, Vn t, lv], Res.vec 81 5 lv es.length (es.flatMap EntD.cells), Res.star (es.map EntD.dres)])) w1 (hw.frame0 hO)
   refine xM (q := (LG i t es).fits index term) rfl rfl (zK rfl (zA (zf rfl (fun c3 => ?_) (fun c3 => ?_))))
   ·
    refine zB (zK rfl (zK rfl (zK rfl (zA ?_))))
    exact zY (zCo (v := Vn 0) (v' := Vn 0) (v'' := Vi 12) rfl rfl rfl rfl (fun w' hw => ⟨lv, es, 0, 0, 12, rfl, (zEf (Decidable.not_not.1 c2) c3).1, (zEf (Decidable.not_not.1 c2) c3).2, hw⟩))
   ·
    have hi3 := (LogA.fits_end (Decidable.not_not.1 c3)).1
    rw [LG.last_eq] at hi3
    have hi3' : i ≤ index := hi3.1
    refine zR (zQ (zB (zD rfl (zq (pR hv) rfl rfl (zD rfl (zA (zc ?_)))))))
    refine xS (fun (k : Nat) => [(0, .pointer (some ⟨lb, 0, none⟩)), (1, Vn index), (3, v), (9, Vn 0), (29, v), (30, Vj m.length), (31, Vj k)]) (fun (k : Nat) => k ≤ m.length ∧ ∀ e ∈ m.take k, (LG i t es).fits e.index e.term) (fun (k : Nat) => [Res.row lb 144 [Vn i, Vn t, lv], Res.vec 81 5 lv es.length (es.flatMap EntD.cells), Res.star (es.map EntD.dres)]) (fun (k : Nat) => m.length - k) (fun w' hw => ⟨0, ⟨rfl, rfl, rfl, rfl, rfl, rfl, rfl, trivial⟩, ⟨Nat.zero_le _, by simp⟩, hw⟩) (fun k g hΦ => ?_)
    refine zB (yJ rfl rfl rfl (zA (zQ (zf rfl (fun c4 => ?_) (fun c4 => ?_)))))
    ·
     have hxk := (hx _ (zl (l := m) (j := k) (by omega))).index
     refine zR (zQ (zc (zB (zD rfl (zm (pR hv) 5 k rfl rfl rfl (by omega) rfl (kd (pR hv) 5 k (off := xF v + k * 5) (fun _ => rfl) rfl rfl (by omega) rfl (yS (v := .agg #[Vn 0, Vn 0, Vi 0, Vi 0, .slice none 0 0]) (by kernel_rfl) rfl (fun b12 => zK rfl (yH 3 rfl rfl rfl (zF rfl (zF rfl (zF rfl (zF rfl (zF (Sl.cell1 (Rd.φ ((all_hv _ (zl (by omega))).dv))) zw))))) rfl (zA (zQ (zB ?_))))))))))))
     refine zD rfl (zJ (o := 0) rfl rfl (zM 3 (v := Vn ((zG m k).index)) rfl rfl rfl rfl (zJ (o := 1) rfl rfl (zM 3 (v := Vn ((zG m k).term)) rfl rfl rfl rfl (zH rfl rfl (fun w' hw => (zA2 lb i t lv es ((zG m k).index) ((zG m k).term) w' (by first | assumption | omega | (simp <;> omega) | (constructor <;> (first | omega | (simp only [zd]; omega) | (simp <;> omega)))) (by first | omega | (simp <;> omega)) (by first | omega | (simp <;> omega)) (hw.rdRes0 0 rfl) (hw.rdVec0 1 rfl) (EntD.rd.star0 2 rfl hw)).mono ?_))))))
     rintro _ w1 ⟨rfl, hO⟩
     refine (?_ : CL _ _ _ _ _ _ (Own w S [Res.row lb 144 [Vn i, Vn t, lv], Res.vec 81 5 lv es.length (es.flatMap EntD.cells), Res.star (es.map EntD.dres), Res.row b12 81 (EntD.cells (zG m k))])) w1 (hw.frame0 hO)
     refine zA (zf rfl (fun c5 => ?_) (fun c5 => ?_))
     ·
      refine yQ rfl (zW (z3 rfl rfl (zy (by omega)) rfl (zD rfl ?_)))
      exact zj (fun w' hw => ⟨k + 1, ⟨rfl, rfl, rfl, rfl, rfl, rfl, rfl, trivial⟩, ⟨by omega, by rw [zu (by omega)]; intro v hv; rcases List.mem_append.1 hv with h | h; exact hΦ.2 v h; simp at h; rw [h]; exact c5⟩, hw.sel [0, 1, 2] rfl (by decide), (by omega)⟩)
     ·
      have hm := Decidable.not_not.1 c2
      have hf := Decidable.not_not.1 c3
      have hp := zD6 hm hf (by omega) hΦ.2 c5
      refine zR (zQ (zk [1, 3] rfl (by decide) (by kernel_rfl) (fun w' hw hS => zC 0 rfl (zU) hS (zC 1 rfl (zU) hS (zC 2 rfl (zP rfl) hS (zC 3 rfl (zI (o := 2) rfl) hS (zC 5 rfl (zI (o := 0) rfl) hS (zC 6 rfl (zb 1 (v := Vn ((zG m k).index)) rfl rfl rfl) hS (zC 7 rfl (zU) hS (zC 8 rfl (zP rfl) hS (zC 9 rfl (zI (o := 0) rfl) hS (zC 10 rfl (zI (o := 0) rfl) hS ?_))))))))))))
      refine zC 16 rfl (zU) hS (zC 17 rfl (zU) hS ?_)
      have hs1_ := Rd.dropL_f (g := EntD.cells) (xs := m) (sz := 5) (fun _ => rfl) hv (l := k) (by omega)
      refine zC 18 rfl (zA5 (pR hv) 5 k m.length (by kernel_rfl) rfl ⟨_, rfl⟩ rfl (by omega) (by omega)) hS (yA 4 11 ?_ ?_)
      ·
       refine zr 4 rfl hw (zM 0 (v := lv) rfl rfl rfl rfl (zE [1, 3] rfl (by decide) (fun w' hw hS => zN 11 rfl hw (zM 0 (v := Vn i) rfl rfl rfl rfl (zE [1, 3] rfl (by decide) (fun w' hw hS => zC 12 rfl (xb (c := (((zG m k).index - i : Nat) : Int)) rfl rfl (ws (by omega) (by omega))) hS (zC 13 rfl (xb (c := (((zG m k).index - i - 1 : Nat) : Int)) rfl rfl (ws (a := (zG m k).index - i) (b := 1) (by omega) (by omega))) hS (zC 14 rfl (zA5 (pV 0 rfl) 5 0 ((zG m k).index - i - 1) (by kernel_rfl) rfl rfl ⟨_, rfl⟩ (by omega) (by omega)) hS (zN 15 rfl hw (zH rfl rfl (fun w' hw => (zDE (xi lv 0 ((zG m k).index - i - 1) 5) ((es.take ((zG m k).index - i - 1)).drop 0) w' (by first | omega | (simp <;> omega) | (constructor <;> (first | omega | (simp <;> omega)))) (Rd.subL_f (g := EntD.cells) (xs := es) (sz := 5) (fun _ => rfl) (hw.rdVec0 1 rfl) (l := 0) (h := (zG m k).index - i - 1) (by omega) (by omega)) (kp (zBh (EntD.rd.star0 2 rfl hw)))).mono ?_)))))))))))
       rintro r3_ w1 ⟨_, rfl, hO⟩
       refine (?_ : CL _ _ _ _ _ _ (Own w S [Res.row lb 144 [Vn i, Vn t, lv], Res.vec 81 5 lv es.length (es.flatMap EntD.cells), Res.star (es.map EntD.dres), Res.row b12 81 (EntD.cells (zG m k)), Res.vec 81 5 r3_ ((es.take ((zG m k).index - i - 1)).drop 0).length (((es.take ((zG m k).index - i - 1)).drop 0).flatMap EntD.cells)])) w1 (hw.frame0 hO)
       refine zE [1, 3] rfl (by decide) (fun w' hw hS => zN 19 rfl hw (zH rfl rfl (fun w' hw => (zBq (xi v k m.length 5) (m.drop k) w' (by first | omega | (simp <;> omega) | (constructor <;> (first | omega | (simp <;> omega)))) (fun x hx' => (hx x (List.mem_of_mem_drop hx')).data) (hw.rd0 hs1_) (kp (fun p hp => EntD.rd.at0 (all_hv p hp) hw))).mono ?_)))
       rintro r4_ w1 ⟨_, es5_, rfl, hf11_19, hO⟩
       have hl5 := congrArg List.length hf11_19; simp only [List.length_map, List.length_drop] at hl5
       refine (?_ : CL _ _ _ _ _ _ (Own w S [Res.row lb 144 [Vn i, Vn t, lv], Res.vec 81 5 lv es.length (es.flatMap EntD.cells), Res.star (es.map EntD.dres), Res.row b12 81 (EntD.cells (zG m k)), Res.vec 81 5 r3_ ((es.take ((zG m k).index - i - 1)).drop 0).length (((es.take ((zG m k).index - i - 1)).drop 0).flatMap EntD.cells), Res.vec 81 5 r4_ es5_.length (es5_.flatMap EntD.cells), Res.star (es5_.map EntD.dres)])) w1 (hw.frame0 hO)
       refine zE [1, 3] rfl (by decide) (fun w' hw hS => zN 20 rfl hw ?_)
       refine zg (fun w' hw => EntD.c1all (EntD.rd.star0 6 rfl hw)) (fun hc3_ => ?_)
       refine yO (g := EntD.cells) (sz := 5) (by' := 56) (fun _ => rfl) (l := ((es.take ((zG m k).index - i - 1)).drop 0)) (l' := es5_) hc3_ 4 (by kernel_rfl) rfl rfl rfl (fun w' hw' => Vec.sl (Own.holds hw' 5 _ rfl)) (by first | omega | (simp <;> omega)) (by decide) rfl (fun v62 => zE [1, 3] rfl (by decide) (fun w' hw hS => zC 21 rfl (zP rfl) hS (zC 22 rfl (zI (o := 2) rfl) hS (zN 23 rfl hw ?_))))
       refine zg (fun w' hw => Own.cell1Vec (i := 4) rfl hw) (fun hc4_ => ?_)
       refine zo (cs := [Vn i, Vn t, lv]) 0 rfl rfl rfl hc4_ rfl (zE [1, 3] rfl (by decide) (fun w' hw hS => zX ?_))
       refine (?_ : C _ _ _ _ _ _ _ (Own w S [Res.row lb 144 [Vn i, Vn t, v62], Res.vec 81 5 lv es.length (es.flatMap EntD.cells), Res.star (es.map EntD.dres), Res.row b12 81 (EntD.cells (zG m k)), Res.vec 81 5 v62 (((es.take ((zG m k).index - i - 1)).drop 0) ++ es5_).length ((((es.take ((zG m k).index - i - 1)).drop 0) ++ es5_).flatMap EntD.cells), Res.vec 81 5 r4_ es5_.length (es5_.flatMap EntD.cells), Res.star (es5_.map EntD.dres)])) _ hw
       refine zB (zJ (o := 0) rfl rfl (zM 3 (v := Vn ((zG m k).index)) rfl rfl rfl rfl (zK rfl (zA (yQ rfl (zB (zD rfl (zD rfl (zq (pR hv) rfl rfl (xe (by kernel_rfl) rfl (y6 (by omega)) rfl ?_ (by kernel_rfl)))))))))))
       refine z3 rfl rfl (y6 (by omega)) rfl (zD rfl (zK rfl (zK rfl (zK rfl (zA ?_)))))
       exact zY (zCo (v := Vn (index + m.length)) (v' := Vn ((zG m k).index)) (v'' := Vi 0) rfl rfl rfl rfl (fun w' hw => ⟨v62, ((es.take ((zG m k).index - i - 1)).drop 0) ++ es5_, index + m.length, (zG m k).index, 0, rfl, (zEi hm hf (by omega) hΦ.2 c5 (by rw [List.map_append, List.drop_zero, hf11_19, List.map_take, List.map_drop])).1, zE9 hm hf (by omega) hΦ.2 c5, ((((hw.starTake 2 ((zG m k).index - i - 1) rfl).starDrop 2 0 rfl).starApp 2 6 (by decide) rfl rfl).sel [0, 4, 2] rfl (by decide))⟩))
      ·
       refine zr 11 rfl hw (zM 0 (v := Vn i) rfl rfl rfl rfl (zE [1, 3] rfl (by decide) (fun w' hw hS => zC 12 rfl (xb (c := (((zG m k).index - i : Nat) : Int)) rfl rfl (ws (by omega) (by omega))) hS (zC 13 rfl (xb (c := (((zG m k).index - i - 1 : Nat) : Int)) rfl rfl (ws (a := (zG m k).index - i) (b := 1) (by omega) (by omega))) hS (zN 4 rfl hw (zM 0 (v := lv) rfl rfl rfl rfl (zE [1, 3] rfl (by decide) (fun w' hw hS => zC 14 rfl (zA5 (pV 0 rfl) 5 0 ((zG m k).index - i - 1) (by kernel_rfl) rfl rfl ⟨_, rfl⟩ (by omega) (by omega)) hS (zN 15 rfl hw (zH rfl rfl (fun w' hw => (zDE (xi lv 0 ((zG m k).index - i - 1) 5) ((es.take ((zG m k).index - i - 1)).drop 0) w' (by first | omega | (simp <;> omega) | (constructor <;> (first | omega | (simp <;> omega)))) (Rd.subL_f (g := EntD.cells) (xs := es) (sz := 5) (fun _ => rfl) (hw.rdVec0 1 rfl) (l := 0) (h := (zG m k).index - i - 1) (by omega) (by omega)) (kp (zBh (EntD.rd.star0 2 rfl hw)))).mono ?_)))))))))))
       rintro r7_ w1 ⟨_, rfl, hO⟩
       refine (?_ : CL _ _ _ _ _ _ (Own w S [Res.row lb 144 [Vn i, Vn t, lv], Res.vec 81 5 lv es.length (es.flatMap EntD.cells), Res.star (es.map EntD.dres), Res.row b12 81 (EntD.cells (zG m k)), Res.vec 81 5 r7_ ((es.take ((zG m k).index - i - 1)).drop 0).length (((es.take ((zG m k).index - i - 1)).drop 0).flatMap EntD.cells)])) w1 (hw.frame0 hO)
       refine zE [1, 3] rfl (by decide) (fun w' hw hS => zN 19 rfl hw (zH rfl rfl (fun w' hw => (zBq (xi v k m.length 5) (m.drop k) w' (by first | omega | (simp <;> omega) | (constructor <;> (first | omega | (simp <;> omega)))) (fun x hx' => (hx x (List.mem_of_mem_drop hx')).data) (hw.rd0 hs1_) (kp (fun p hp => EntD.rd.at0 (all_hv p hp) hw))).mono ?_)))
       rintro r8_ w1 ⟨_, es9_, rfl, hf11_19, hO⟩
       have hl5 := congrArg List.length hf11_19; simp only [List.length_map, List.length_drop] at hl5
       refine (?_ : CL _ _ _ _ _ _ (Own w S [Res.row lb 144 [Vn i, Vn t, lv], Res.vec 81 5 lv es.length (es.flatMap EntD.cells), Res.star (es.map EntD.dres), Res.row b12 81 (EntD.cells (zG m k)), Res.vec 81 5 r7_ ((es.take ((zG m k).index - i - 1)).drop 0).length (((es.take ((zG m k).index - i - 1)).drop 0).flatMap EntD.cells), Res.vec 81 5 r8_ es9_.length (es9_.flatMap EntD.cells), Res.star (es9_.map EntD.dres)])) w1 (hw.frame0 hO)
       refine zE [1, 3] rfl (by decide) (fun w' hw hS => zN 20 rfl hw ?_)
       refine zg (fun w' hw => EntD.c1all (EntD.rd.star0 6 rfl hw)) (fun hc5_ => ?_)
       refine yO (g := EntD.cells) (sz := 5) (by' := 56) (fun _ => rfl) (l := ((es.take ((zG m k).index - i - 1)).drop 0)) (l' := es9_) hc5_ 4 (by kernel_rfl) rfl rfl rfl (fun w' hw' => Vec.sl (Own.holds hw' 5 _ rfl)) (by first | omega | (simp <;> omega)) (by decide) rfl (fun v62 => zE [1, 3] rfl (by decide) (fun w' hw hS => zC 21 rfl (zP rfl) hS (zC 22 rfl (zI (o := 2) rfl) hS (zN 23 rfl hw ?_))))
       refine zg (fun w' hw => Own.cell1Vec (i := 4) rfl hw) (fun hc6_ => ?_)
       refine zo (cs := [Vn i, Vn t, lv]) 0 rfl rfl rfl hc6_ rfl (zE [1, 3] rfl (by decide) (fun w' hw hS => zX ?_))
       refine (?_ : C _ _ _ _ _ _ _ (Own w S [Res.row lb 144 [Vn i, Vn t, v62], Res.vec 81 5 lv es.length (es.flatMap EntD.cells), Res.star (es.map EntD.dres), Res.row b12 81 (EntD.cells (zG m k)), Res.vec 81 5 v62 (((es.take ((zG m k).index - i - 1)).drop 0) ++ es9_).length ((((es.take ((zG m k).index - i - 1)).drop 0) ++ es9_).flatMap EntD.cells), Res.vec 81 5 r8_ es9_.length (es9_.flatMap EntD.cells), Res.star (es9_.map EntD.dres)])) _ hw
       refine zB (zJ (o := 0) rfl rfl (zM 3 (v := Vn ((zG m k).index)) rfl rfl rfl rfl (zK rfl (zA (yQ rfl (zB (zD rfl (zD rfl (zq (pR hv) rfl rfl (xe (by kernel_rfl) rfl (y6 (by omega)) rfl ?_ (by kernel_rfl)))))))))))
       refine z3 rfl rfl (y6 (by omega)) rfl (zD rfl (zK rfl (zK rfl (zK rfl (zA ?_)))))
       exact zY (zCo (v := Vn (index + m.length)) (v' := Vn ((zG m k).index)) (v'' := Vi 0) rfl rfl rfl rfl (fun w' hw => ⟨v62, ((es.take ((zG m k).index - i - 1)).drop 0) ++ es9_, index + m.length, (zG m k).index, 0, rfl, (zEi hm hf (by omega) hΦ.2 c5 (by rw [List.map_append, List.drop_zero, hf11_19, List.map_take, List.map_drop])).1, zE9 hm hf (by omega) hΦ.2 c5, ((((hw.starTake 2 ((zG m k).index - i - 1) rfl).starDrop 2 0 rfl).starApp 2 6 (by decide) rfl rfl).sel [0, 4, 2] rfl (by decide))⟩))
    ·
     refine yQ rfl (zB (zD rfl (zD rfl (zq (pR hv) rfl rfl (xe (by kernel_rfl) rfl (y6 (by omega)) rfl ?_ (by kernel_rfl))))))
     refine z3 rfl rfl (y6 (by omega)) rfl (zD rfl (zK rfl (zK rfl (zK rfl (zA ?_)))))
     exact zY (zCo (v := Vn (index + m.length)) (v' := Vn 0) (v'' := Vi 0) rfl rfl rfl rfl (fun w' hw => ⟨lv, es, index + m.length, 0, 0, rfl, (put_none (Decidable.not_not.1 c2) (Decidable.not_not.1 c3) (by have h := hΦ.2; rwa [List.take_of_length_le (by omega)] at h)).1, (put_none (Decidable.not_not.1 c2) (Decidable.not_not.1 c3) (by have h := hΦ.2; rwa [List.take_of_length_le (by omega)] at h)).2, hw⟩))
theorem zHB (lb i t : Nat) (lv : Value) (es : List EntD) (k u : Nat) (w : World) (hl : zd es.length) (hlb : Rd w [] (Res.row lb 144 [Vn i, Vn t, lv])) (hlv : Rd w [] (Res.sl lv es.length (es.flatMap EntD.cells))) (all_hlv : ∀ p ∈ es, EntD.rd p w []) : Rets Tryz.prog 172 #[.pointer (some ⟨lb, 0, none⟩), Vn k, Vn u] w fun u_ w' => ∃ (x : Nat) (y : Nat), u_ = .tuple #[Vn x, Vn y] ∧ (LG i t es).hint k u = (x, y) ∧ Own w [] [] w' := by
  refine zT Tryz.func172 rfl Tryz.ntmps172 (Own.start w) ?_
  refine zB (zK rfl (zK rfl (zA (zQ (zB (zD rfl (xy (by kernel_rfl) rfl rfl rfl (zA (x8 rfl (zR (zQ (zB ?_))))))))))))
  refine zD rfl (zh rfl rfl (zJ (o := 2) rfl rfl (xq (v := lv) rfl (hlb.φ.cell rfl) (hlb.far _ (by simp [Res.row])) (by kernel_rfl) rfl (zq (pR hlv) rfl rfl (kE rfl rfl (zy (by omega)) rfl (zK rfl (zA (zc ?_))))))))
  refine xS (fun (k' : Nat) => [(0, .pointer (some ⟨lb, 0, none⟩)), (1, Vn k), (2, Vn u), (8, Vi ((k' : Int) - 1))]) (fun (k' : Nat) => k' ≤ es.length ∧ (LG i t es).hint k u = (LG i t es).hintN k u k') (fun (k' : Nat) => []) (fun (k' : Nat) => k') (fun w' hw => ⟨es.length, ⟨rfl, rfl, rfl, rfl, trivial⟩, ⟨Nat.le_refl _, by unfold LogA.hint; rw [List.length_map]⟩, hw⟩) (fun k' g hΦ => ?_)
  refine zQ (zB (zD rfl (kK rfl rfl rfl (zA (zf rfl (fun c2 => ?_) (fun c2 => ?_))))))
  ·
   refine zR (zQ (zc (zB (zD rfl (zh rfl rfl (zJ (o := 2) rfl rfl (xq (v := lv) rfl (hlb.φ.cell rfl) (hlb.far _ (by simp [Res.row])) (by kernel_rfl) rfl (zD rfl (zm (pR hlv) 5 (k' - 1) rfl rfl (by omega) (by omega) rfl (kd (pR hlv) 5 (k' - 1) (off := xF lv + (k' - 1) * 5) (fun _ => rfl) rfl rfl (by omega) rfl (yS (v := .agg #[Vn 0, Vn 0, Vi 0, Vi 0, .slice none 0 0]) (by kernel_rfl) rfl (fun b9 => yH 0 rfl rfl rfl (zF rfl (zF rfl (zF rfl (zF rfl (zF (Sl.cell1 (Rd.φ ((all_hlv _ (zl (by omega))).dv))) zw))))) rfl ?_))))))))))))
   refine zA (zB (zJ (o := 0) rfl rfl (zM 0 (v := Vn ((zG es (k' - 1)).index)) rfl rfl rfl rfl (zD rfl (x4 rfl rfl rfl (zD rfl (yd (q := (((zG es (k' - 1)).index : Nat) : Int) ≤ ((k : Nat) : Int)) 4 4 [37, 36, 35, 34] ((((zG es (k' - 1)).term : Nat) : Int) ≤ ((u : Nat) : Int)) rfl rfl rfl rfl rfl rfl trivial rfl (fun h7_4 => ?_) (fun g7_9 => ?_))))))))
   ·
    refine zO rfl (gT h7_4) (zJ (o := 1) rfl rfl (zO rfl (gT h7_4) (zM 0 (v := Vn ((zG es (k' - 1)).term)) rfl rfl rfl rfl (zO rfl (gT h7_4) (zD rfl (zO rfl (gT h7_4) (x4 rfl rfl rfl ?_)))))))
    exact yK rfl (fun _ hw => hw)
   refine zA (zf rfl (fun c3 => ?_) (fun c3 => ?_))
   ·
    refine yV (by kernel_rfl) (by kernel_rfl) (zL rfl (zI (o := 0) rfl) (zL rfl (zb 0 (v := Vn ((zG es (k' - 1)).index)) rfl rfl rfl) (zL rfl (zI (o := 1) rfl) (zL rfl (zb 0 (v := Vn ((zG es (k' - 1)).term)) rfl rfl rfl) (zL rfl (ya) (zL rfl (ya) (xN ?_)))))))
    exact zY (xP (v := Vn ((zG es (k' - 1)).index)) (v' := Vn ((zG es (k' - 1)).term)) rfl rfl rfl (fun w' hw => ⟨(zG es (k' - 1)).index, (zG es (k' - 1)).term, rfl, by rw [hΦ.2, zGM (by omega) hΦ.1 (by omega)], hw.drop⟩))
   ·
    refine zR (zW (zD rfl (kE rfl rfl (zy (by omega)) rfl (zK rfl ?_))))
    exact zj (fun w' hw => ⟨k' - 1, ⟨rfl, rfl, rfl, (congrArg (Value.int .i64) (show (((k' : Int) - 1) - 1) = (((k' - 1 : Nat) : Int) - 1) by omega)), trivial⟩, ⟨by omega, by rw [hΦ.2, zF3 (by omega) hΦ.1 (by omega)]⟩, hw.sel [] rfl (by decide), (by omega)⟩)
  ·
   refine yQ rfl (yV (by kernel_rfl) (by kernel_rfl) (zL rfl (zU) (zL rfl (zP rfl) (zL rfl (zI (o := 0) rfl) (zL rfl (zI (o := 0) rfl) (zL rfl (zAq (v := Vn i) rfl (hlb.φ.cell rfl) (hlb.far _ (by simp [Res.row])) (by kernel_rfl)) (zL rfl (zU) (zL rfl (zP rfl) (zL rfl (zI (o := 0) rfl) (zL rfl (zI (o := 1) rfl) (zL rfl (zAq (v := Vn t) rfl (hlb.φ.cell rfl) (hlb.far _ (by simp [Res.row])) (by kernel_rfl)) (zL rfl (ya) ?_))))))))))))
   refine zL rfl (ya) (xN ?_)
   exact zY (xP (v := Vn i) (v' := Vn t) rfl rfl rfl (fun w' hw => ⟨i, t, rfl, zFO hΦ.2 (by omega), hw.drop⟩))
end Go.Proofs.YtkkeknmkipkbmaaGreat
