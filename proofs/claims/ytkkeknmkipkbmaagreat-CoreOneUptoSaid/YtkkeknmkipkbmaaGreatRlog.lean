import Derived.Test.YtkkeknmkipkbmaaGreatRlogA
import Derived.Test.YtkkeknmkipkbmaaGreatEnc2
import Derived.Test.YtkkeknmkipkbmaaGreatFwU
set_option linter.unusedSectionVars false
set_option linter.unusedSimpArgs false
set_option linter.unusedVariables false
set_option maxRecDepth 10000
namespace Go.Proofs.YtkkeknmkipkbmaaGreat
open Go Go.Sc Go.Proofs
abbrev LG (i t : Nat) (es : List EntD) : LogA := ⟨i, t, es.map EntD.toEntA⟩
theorem LG.last_eq {i t : Nat} {es : List EntD} : (LG i t es).last = i + es.length := by simp [LogA.last]
theorem LG.le {i t : Nat} {es : List EntD} (h : (LG i t es).good) : i + es.length ≤ 4611686018427387904 ∧ t ≤ 4611686018427387904 ∧ (LG i t es).end_ ≤ 4611686018427387904 := ⟨LG.last_eq ▸ h.last_le, h.t, h.end_le⟩
theorem zAM {es : List EntD} {k : Nat} (h : k < es.length) : zU (es.map EntD.toEntA) k = (zU es k).toEntA := zBP h
theorem LG.data {i t : Nat} {es : List EntD} (h : (LG i t es).good) : ∀ e ∈ es, e.data.length ≤ 4096 := fun e he => (h.fol.ok _ (List.mem_map_of_mem (f := EntD.toEntA) he)).1.2.2.2
theorem LG.termE_eq {i t k : Nat} {es : List EntD} : (LG i t es).termE k = if k < i then (0, 13) else if k = i then (t, 0) else if k ≤ i + es.length then ((zU (es.map EntD.toEntA) (k - i - 1)).term, 0) else (0, 8) := by
  unfold LogA.termE; rw [LG.last_eq]
theorem LG.term_lo {i t k : Nat} {es : List EntD} (h : k < i) : (LG i t es).termE k = (0, 13) := if_pos h
theorem LG.term_at {i t k : Nat} {es : List EntD} (h : k = i) : (LG i t es).termE k = (t, 0) := by
  rw [LG.termE_eq, if_neg (by omega), if_pos h]
theorem LG.term_in {i t k j : Nat} {es : List EntD} (h : i < k) (h2 : k ≤ i + es.length) (hj : j = k - i - 1) : (LG i t es).termE k = ((zU es j).term, 0) := by
  rw [LG.termE_eq, if_neg (by omega), if_neg (by omega), if_pos h2, ← hj, zAM (by omega)]
theorem LG.term_hi {i t k : Nat} {es : List EntD} (h : i + es.length < k) : (LG i t es).termE k = (0, 8) := by
  rw [LG.termE_eq, if_neg (by omega), if_neg (by omega), if_neg (by omega)]
theorem LG.fromE_eq {i t k : Nat} {n : Int} {es : List EntD} : (LG i t es).fromE k n = if k ≤ i then ([], 13) else if i + es.length + 1 < k then ([], 8) else if n < 0 then ([], 1) else (((es.map EntD.toEntA).drop (k - i - 1)).take n.toNat, 0) := by
  unfold LogA.fromE; rw [LG.last_eq]
theorem LG.end_eq {i t x : Nat} {e : Int} {es : List EntD} (h : (LG i t es).termE (i + es.length) = (x, e)) : x = (LG i t es).end_ := by
  by_cases hl : es.length = 0
  · rw [LG.term_at (by omega)] at h
    cases h
    unfold LogA.end_; rw [List.eq_nil_of_length_eq_zero hl]; rfl
  · rw [LG.term_in (j := es.length - 1) (by omega) (by omega) (by omega)] at h
    cases h
    unfold LogA.end_; rw [x2 (by simpa using (by omega : 0 < es.length)), List.length_map, zAM (by omega)]
theorem EntD.c1all {l : List EntD} {w : World} {S : List Nat} (h : ∀ p ∈ l, EntD.rd p w S) : ∀ x ∈ l, ∀ v ∈ EntD.cells x, cell1 v = true := by
  intro x hx v hv
  simp only [EntD.cells, List.mem_cons, List.not_mem_nil, or_false] at hv
  rcases hv with rfl | rfl | rfl | rfl | rfl
  · rfl
  · rfl
  · rfl
  · rfl
  · exact Sl.cell1 (Rd.φ (h x hx).dv)
theorem x5 {i t k j u : Nat} {m : List EntD} (hk : k < m.length) (h : folA i t ((m.take k).map EntD.toEntA)) (hj : j = xI i ((m.take k).map EntD.toEntA)) (hu : u = xK t ((m.take k).map EntD.toEntA)) :
    (folA i t ((m.take (k + 1)).map EntD.toEntA) ↔ (zU m k).ok ∧ (zU m k).index = j + 1 ∧ u ≤ (zU m k).term) ∧ ((zU m k).index = j + 1 → (zU m k).index = xI i ((m.take (k + 1)).map EntD.toEntA)) ∧ (zU m k).term = xK t ((m.take (k + 1)).map EntD.toEntA) := by
  rw [z5 hk, List.map_append, List.map_cons, List.map_nil, folA.snoc, kF]
  refine ⟨⟨fun q => ⟨q.2.1, by rw [hj]; exact q.2.2.1, by rw [hu]; exact q.2.2.2⟩, fun q => ⟨h, q.1, by rw [← hj]; exact q.2.1, by rw [← hu]; exact q.2.2⟩⟩, fun q => ?_, rfl⟩
  rw [q, hj]; simp only [xI, List.length_append, List.length_cons, List.length_nil]; omega
theorem zEh {i t k j u : Nat} {m : List EntD} (hk : k < m.length) (h : folA i t ((m.take k).map EntD.toEntA)) (hj : j = xI i ((m.take k).map EntD.toEntA)) (hu : u = xK t ((m.take k).map EntD.toEntA)) (hn : ¬ ((zU m k).ok ∧ (zU m k).index = j + 1 ∧ u ≤ (zU m k).term)) : ¬ folA i t (m.map EntD.toEntA) := by
  intro q
  apply hn
  rw [← (x5 hk h hj hu).1, List.map_take]
  exact q.take _
theorem zAd {i t index term k : Nat} {es m : List EntD} (hm : folA index term (m.map EntD.toEntA)) (hf : (LG i t es).fits index term) (hk : k < m.length) (h1 : ∀ e ∈ m.take k, (LG i t es).fits e.index e.term) (h2 : ¬ (LG i t es).fits (zU m k).index (zU m k).term) :
    (LG i t es).kn (m.map EntD.toEntA) = k ∧ (zU m k).index = index + k + 1 ∧ i ≤ index + k ∧ index + k ≤ i + es.length := by
  have hkn : (LG i t es).kn (m.map EntD.toEntA) = k := (LG i t es).kn_of (by simp; omega) (fun e he => by
    rw [← List.map_take] at he; obtain ⟨x, hx, rfl⟩ := List.mem_map.1 he; exact h1 x hx) (fun _ => by rw [zAM hk]; exact h2)
  have h3 := hm.idx k (by simpa using hk)
  rw [zAM hk] at h3
  have h4 := (LogA.fits_end (zBE hm hf)).1
  rw [hkn, LG.last_eq] at h4
  have e : xI index ((m.map EntD.toEntA).take k) = index + k := by unfold xI; simp; omega
  rw [e] at h4
  exact ⟨hkn, h3, h4⟩
theorem zBV {i t index term k : Nat} {es m es' : List EntD} (hm : folA index term (m.map EntD.toEntA)) (hf : (LG i t es).fits index term) (hk : k < m.length) (h1 : ∀ e ∈ m.take k, (LG i t es).fits e.index e.term) (h2 : ¬ (LG i t es).fits (zU m k).index (zU m k).term)
    (he : es'.map EntD.toEntA = (es.map EntD.toEntA).take ((zU m k).index - i - 1) ++ (m.map EntD.toEntA).drop k) : LG i t es' = (LG i t es).append index term (m.map EntD.toEntA) ∧ (LG i t es).ans index term (m.map EntD.toEntA) = (index + m.length, (zU m k).index, 0) := by
  have h := (zAd hm hf hk h1 h2).1
  constructor
  · unfold LogA.append LogA.put
    rw [if_pos ⟨hm, hf⟩, h, if_pos (by simpa using hk), zAM hk, ← he]
  · unfold LogA.ans LogA.put0
    rw [if_pos hm, if_pos hf, h, if_pos (by simpa using hk), zAM hk, List.length_map]
theorem zBM {i t index term k : Nat} {es m : List EntD} (hm : folA index term (m.map EntD.toEntA)) (hf : (LG i t es).fits index term) (hk : k < m.length) (h1 : ∀ e ∈ m.take k, (LG i t es).fits e.index e.term) (h2 : ¬ (LG i t es).fits (zU m k).index (zU m k).term) : (LG i t es).ans index term (m.map EntD.toEntA) = (index + m.length, (zU m k).index, 0) := by
  have h := (zAd hm hf hk h1 h2).1
  unfold LogA.ans LogA.put0
  rw [if_pos hm, if_pos hf, h, if_pos (by simpa using hk), zAM hk, List.length_map]
theorem put_none {i t index term : Nat} {es m : List EntD} (hm : folA index term (m.map EntD.toEntA)) (hf : (LG i t es).fits index term) (h1 : ∀ e ∈ m, (LG i t es).fits e.index e.term) :
    LG i t es = (LG i t es).append index term (m.map EntD.toEntA) ∧ (LG i t es).ans index term (m.map EntD.toEntA) = (index + m.length, 0, 0) := by
  have h := LogA.put_same (x := LG i t es) (m := m.map EntD.toEntA) (fun e he => by obtain ⟨x, hx, rfl⟩ := List.mem_map.1 he; exact h1 x hx)
  constructor
  · unfold LogA.append; rw [if_pos ⟨hm, hf⟩, h.1]
  · unfold LogA.ans; rw [if_pos hm, if_pos hf, h.2, List.length_map]
theorem zAR {x : LogA} {index term : Nat} {m : List EntA} (h : ¬ folA index term m) : x = x.append index term m ∧ x.ans index term m = (0, 0, 2) :=
  ⟨by unfold LogA.append; rw [if_neg fun q => h q.1], by unfold LogA.ans; rw [if_neg h]⟩
theorem zBK {x : LogA} {index term : Nat} {m : List EntA} (hm : folA index term m) (h : ¬ x.fits index term) : x = x.append index term m ∧ x.ans index term m = (0, 0, 12) :=
  ⟨by unfold LogA.append; rw [if_neg fun q => h q.2], by unfold LogA.ans; rw [if_pos hm, if_neg h]⟩
theorem zEy (i t : Nat) (w : World) (hi : i ≤ 4611686018427387904) (ht : t ≤ 4611686018427387904) : Rets Tryz.prog 27 #[Vn i, Vn t] w fun u_ w' => ∃ (b : Nat), u_ = .pointer (some ⟨b, 0, none⟩) ∧ Own w [] [Res.row b 144 [Vn i, Vn t, (.slice none 0 0)], Res.vec 81 5 (.slice none 0 0) ([] : List EntD).length (([] : List EntD).flatMap EntD.cells), Res.star (([] : List EntD).map EntD.dres)] w' := by
  refine zR Tryz.func27 rfl Tryz.ntmps27 (Own.start w) ?_
  refine zB (zH rfl (zA (zQ (zB (zC rfl (zC rfl (zBF (c := ((max i t : Nat) : Int)) rfl rfl (zEO _ _) rfl (yP rfl rfl rfl (zA (zV rfl (fun c1 => ?_) (fun c1 => ?_)))))))))))
  ·
   exact absurd c1 (by omega)
  ·
   refine zP (zB (zC rfl (zC rfl (yN (cs := [Vn i, Vn t]) (z := [Vn 0, Vn 0]) (pl := [(0, 1), (1, 1)]) (by kernel_rfl) (by kernel_rfl) rfl (yN (cs := [Vn i, Vn t, .slice none 0 0]) (z := [Vn 0, Vn 0, .slice none 0 0]) (pl := [(0, 2), (2, 1)]) (by kernel_rfl) (by kernel_rfl) rfl (zr rfl rfl (fun b13 => zH rfl (zA ?_))))))))
   exact zS (zx (v := .pointer (some ⟨b13, 0, none⟩)) rfl rfl (fun w' hw => ⟨b13, rfl, (zz hw 81 5).starNil⟩))
theorem kD (lb i t : Nat) (lv : Value) (es : List EntD) (w : World) (hb : i + es.length ≤ 4611686018427387904) (hlb : Rd w [] (Res.row lb 144 [Vn i, Vn t, lv])) (hlv : Rd w [] (Res.sl lv es.length (es.flatMap EntD.cells))) (all_hlv : ∀ p ∈ es, EntD.rd p w []) : Rets Tryz.prog 67 #[.pointer (some ⟨lb, 0, none⟩)] w fun u_ w' => u_ = Vn (i + es.length) ∧ Own w [] [] w' := by
  refine zR Tryz.func67 rfl Tryz.ntmps67 (Own.start w) ?_
  refine zB (zH rfl (zA (yS (by kernel_rfl) (by kernel_rfl) (zO rfl (zX) (zO rfl (zM rfl) (zO rfl (zG (o := 0) rfl) (zO rfl (zG (o := 0) rfl) (zO rfl (jc (v := Vn i) rfl (hlb.φ.cell rfl) (hlb.far _ (by simp [Res.row])) (by kernel_rfl)) (zO rfl (zX) (zO rfl (zM rfl) (zO rfl (zG (o := 2) rfl) (zO rfl (jc (v := lv) rfl (hlb.φ.cell rfl) (hlb.far _ (by simp [Res.row])) (by kernel_rfl)) ?_))))))))))))
  refine zO rfl (zA5 (pR hlv) rfl) (zO rfl (x0 (by kernel_rfl) rfl (yn (by omega)) (by kernel_rfl)) (zO rfl (yd rfl rfl (yn (by omega))) (zO rfl (yU) (xV ?_))))
  exact zS (zx (v := Vn (i + es.length)) rfl rfl (fun w' hw => ⟨rfl, hw.drop⟩))
theorem zCQ (lb i t : Nat) (lv : Value) (es : List EntD) (k : Nat) (w : World) (hl : zT es.length) (hb : i + es.length ≤ 4611686018427387904) (hk : k < 18446744073709551616) (hlb : Rd w [] (Res.row lb 144 [Vn i, Vn t, lv])) (hlv : Rd w [] (Res.sl lv es.length (es.flatMap EntD.cells))) (all_hlv : ∀ p ∈ es, EntD.rd p w []) : Rets Tryz.prog 57 #[.pointer (some ⟨lb, 0, none⟩), Vn k] w fun u_ w' => ∃ (x : Nat) (e : Int), u_ = .tuple #[Vn x, Vi e] ∧ (LG i t es).termE k = (x, e) ∧ Own w [] [] w' := by
  refine zR Tryz.func57 rfl Tryz.ntmps57 (Own.start w) ?_
  refine zB (zH rfl (zH rfl (zA (zQ (zY (zB (zC rfl (y0 (by kernel_rfl) rfl rfl rfl (zH rfl (zA (xO rfl (zB ?_))))))))))))
  refine zC rfl (zC rfl (za rfl rfl (zL (o := 0) rfl rfl (zL (o := 0) rfl rfl (kY (v := Vn i) rfl (hlb.φ.cell rfl) (hlb.far _ (by simp [Res.row])) (by kernel_rfl) rfl (z4 rfl rfl rfl (zH rfl (zA (zV rfl (fun c2 => ?_) (fun c2 => ?_))))))))))
  ·
   refine zB (zH rfl (zH rfl (zA ?_)))
   exact zS (yj (v := Vn 0) (v' := Vi 13) rfl rfl rfl (fun w' hw => ⟨0, 13, rfl, LG.term_lo (by omega), hw.drop⟩))
  ·
   refine zB (zC rfl (zC rfl (zF rfl rfl (fun w' hw => (kD lb i t lv es w' (by first | omega | (simp <;> omega)) (hw.rd0 hlb) (hw.rd0 hlv) (fun p hp => EntD.rd.at0 (all_hlv p hp) hw)).mono ?_))))
   rintro _ w1 ⟨rfl, hO⟩
   refine (?_ : CL _ _ _ _ _ _ (Own w [] [])) w1 (hw.frame0 hO)
   refine yP rfl rfl rfl (zH rfl (zA (zV rfl (fun c3 => ?_) (fun c3 => ?_))))
   ·
    refine zB (zH rfl (zH rfl (zA ?_)))
    exact zS (yj (v := Vn 0) (v' := Vi 8) rfl rfl rfl (fun w' hw => ⟨0, 8, rfl, LG.term_hi (by omega), hw.drop⟩))
   ·
    refine zB (zC rfl (zC rfl (za rfl rfl (zL (o := 0) rfl rfl (zL (o := 0) rfl rfl (kY (v := Vn i) rfl (hlb.φ.cell rfl) (hlb.far _ (by simp [Res.row])) (by kernel_rfl) rfl (yk rfl rfl rfl (zH rfl (zA (zV rfl (fun c4 => ?_) (fun c4 => ?_)))))))))))
    ·
     refine zB (zC rfl (za rfl rfl (zL (o := 0) rfl rfl (zL (o := 1) rfl rfl (kY (v := Vn t) rfl (hlb.φ.cell rfl) (hlb.far _ (by simp [Res.row])) (by kernel_rfl) rfl (zH rfl (zH rfl (zA ?_))))))))
     exact zS (yj (v := Vn t) (v' := Vi 0) rfl rfl rfl (fun w' hw => ⟨t, 0, rfl, LG.term_at (by omega), hw.drop⟩))
    ·
     refine zP (yS (by kernel_rfl) (by kernel_rfl) (zO rfl (zX) (zO rfl (zM rfl) (zO rfl (zG (o := 2) rfl) (zO rfl (jc (v := lv) rfl (hlb.φ.cell rfl) (hlb.far _ (by simp [Res.row])) (by kernel_rfl)) (zO rfl (zX) (zO rfl (zX) (zO rfl (zM rfl) (zO rfl (zG (o := 0) rfl) (zO rfl (zG (o := 0) rfl) (zO rfl (jc (v := Vn i) rfl (hlb.φ.cell rfl) (hlb.far _ (by simp [Res.row])) (by kernel_rfl)) (zO rfl (xx (c := ((k - i : Nat) : Int)) rfl rfl (ws (by omega) (by omega))) ?_))))))))))))
     refine zO rfl (xx (c := ((k - i - 1 : Nat) : Int)) rfl rfl (ws (a := k - i) (b := 1) (by omega) (by omega))) (zO rfl (zCo (pR hlv) 5 (k - i - 1) rfl rfl rfl (by omega)) (zO rfl (zG (o := 1) rfl) (zO rfl (zE6 (pR hlv) 5 (k - i - 1) 1 (off := y4 lv + (k - i - 1) * 5 + 1) (fun _ => rfl) rfl (by omega) (by omega) rfl) (zO rfl (yU) (zO rfl (yU) (xV ?_))))))
     exact zS (yj (v := Vn ((zU es (k - i - 1)).term)) (v' := Vi 0) rfl rfl rfl (fun w' hw => ⟨(zU es (k - i - 1)).term, 0, rfl, LG.term_in (by omega) (by omega) rfl, hw.drop⟩))
theorem jI (lb i t : Nat) (lv : Value) (es : List EntD) (w : World) (hl : zT es.length) (hb : i + es.length ≤ 4611686018427387904) (hlb : Rd w [] (Res.row lb 144 [Vn i, Vn t, lv])) (hlv : Rd w [] (Res.sl lv es.length (es.flatMap EntD.cells))) (all_hlv : ∀ p ∈ es, EntD.rd p w []) : Rets Tryz.prog 29 #[.pointer (some ⟨lb, 0, none⟩)] w fun u_ w' => u_ = .tuple #[Vn (i + es.length), Vn ((LG i t es).end_)] ∧ Own w [] [] w' := by
  refine zR Tryz.func29 rfl Tryz.ntmps29 (Own.start w) ?_
  refine zB (zH rfl (zH rfl (zA (zQ (zB (zC rfl (y0 (by kernel_rfl) rfl rfl rfl (zA (xO rfl (zP (zB (zC rfl ?_))))))))))))
  refine zC rfl (zF rfl rfl (fun w' hw => (kD lb i t lv es w' (by first | omega | (simp <;> omega)) (hw.rd0 hlb) (hw.rd0 hlv) (fun p hp => EntD.rd.at0 (all_hlv p hp) hw)).mono ?_))
  rintro _ w1 ⟨rfl, hO⟩
  refine (?_ : CL _ _ _ _ _ _ (Own w [] [])) w1 (hw.frame0 hO)
  refine zF rfl rfl (fun w' hw => (zCQ lb i t lv es (i + es.length) w' (by first | assumption | omega | (simp <;> omega) | (constructor <;> (first | omega | (simp only [zT]; omega) | (simp <;> omega)))) (by first | omega | (simp <;> omega)) (by first | omega | (simp <;> omega)) (hw.rd0 hlb) (hw.rd0 hlv) (fun p hp => EntD.rd.at0 (all_hlv p hp) hw)).mono ?_)
  rintro _ w1 ⟨x1_, e2_, rfl, hf3_3, hO⟩
  refine (?_ : CL _ _ _ _ _ _ (Own w [] [])) w1 (hw.frame0 hO)
  refine zC rfl (zh (vs := [Vn x1_, Vi e2_]) rfl rfl rfl (zh (vs := [Vn x1_, Vi e2_]) rfl rfl rfl (zH rfl (zH rfl (zA (zB (zC rfl (zF rfl rfl (fun w' hw => (kD lb i t lv es w' (by first | omega | (simp <;> omega)) (hw.rd0 hlb) (hw.rd0 hlv) (fun p hp => EntD.rd.at0 (all_hlv p hp) hw)).mono ?_)))))))))
  rintro _ w1 ⟨rfl, hO⟩
  refine (?_ : CL _ _ _ _ _ _ (Own w [] [])) w1 (hw.frame0 hO)
  refine zC rfl (zH rfl (zH rfl (zA ?_)))
  exact zS (yj (v := Vn (i + es.length)) (v' := Vn x1_) rfl rfl rfl (fun w' hw => ⟨(by rw [LG.end_eq hf3_3]), hw.drop⟩))
theorem ki (lb i t : Nat) (lv : Value) (es : List EntD) (k u : Nat) (w : World) (hl : zT es.length) (hb : i + es.length ≤ 4611686018427387904) (hk : k < 18446744073709551616) (hlb : Rd w [] (Res.row lb 144 [Vn i, Vn t, lv])) (hlv : Rd w [] (Res.sl lv es.length (es.flatMap EntD.cells))) (all_hlv : ∀ p ∈ es, EntD.rd p w []) : Rets Tryz.prog 22 #[.pointer (some ⟨lb, 0, none⟩), Vn k, Vn u] w fun u_ w' => u_ = .bool (decide ((LG i t es).fits k u)) ∧ Own w [] [] w' := by
  refine zR Tryz.func22 rfl Tryz.ntmps22 (Own.start w) ?_
  refine zB (zH rfl (zA (zB (zC rfl (zC rfl (zF rfl rfl (fun w' hw => (zCQ lb i t lv es k w' (by first | assumption | omega | (simp <;> omega) | (constructor <;> (first | omega | (simp only [zT]; omega) | (simp <;> omega)))) (by first | omega | (simp <;> omega)) (by first | omega | (simp <;> omega)) (hw.rd0 hlb) (hw.rd0 hlv) (fun p hp => EntD.rd.at0 (all_hlv p hp) hw)).mono ?_)))))))
  rintro _ w1 ⟨x1_, e2_, rfl, hf1_2, hO⟩
  refine (?_ : CL _ _ _ _ _ _ (Own w [] [])) w1 (hw.frame0 hO)
  refine zC rfl (zh (vs := [Vn x1_, Vi e2_]) rfl rfl rfl (zh (vs := [Vn x1_, Vi e2_]) rfl rfl rfl (zH rfl (zH rfl (zA (zB (zC rfl (yk rfl rfl rfl (zC rfl (yE (q := e2_ = 0) 3 2 [20, 19, 18] (((x1_ : Nat) : Int) = ((u : Nat) : Int)) rfl rfl rfl rfl rfl rfl trivial rfl (fun h2_2 => ?_) (fun g2_6 => ?_)))))))))))
  ·
   refine zN rfl (gT h2_2) (zC rfl (zN rfl (gT h2_2) (zC rfl (zN rfl (gT h2_2) (yk rfl rfl rfl ?_)))))
   exact z7 rfl (fun _ hw => hw)
  refine zH rfl (zA ?_)
  exact zS (zx (v := .bool (decide ((e2_ = 0) ∧ (((x1_ : Nat) : Int) = ((u : Nat) : Int))))) rfl rfl (fun w' hw => ⟨(by congr 1; exact decide_eq_decide.2 (by unfold LogA.fits; rw [hf1_2]; exact ⟨fun h => ⟨h.1, by have := h.2; dsimp only; omega⟩, fun h => ⟨h.1, by have := h.2; dsimp only at this; omega⟩⟩)), hw.drop⟩))
theorem zAU (v : Value) (l : List EntD) (w : World) (hl : l.length ≤ 100000000000) (hv : Rd w [] (Res.sl v l.length (l.flatMap EntD.cells))) (all_hv : ∀ p ∈ l, EntD.rd p w []) : Rets Tryz.prog 65 #[v] w fun u_ w' => ∃ (r : Value), u_ = r ∧ Own w [] [Res.vec 81 5 r l.length (l.flatMap EntD.cells)] w' := by
  refine zR Tryz.func65 rfl Tryz.ntmps65 (Own.start w) ?_
  refine zB (zH rfl (zA (zQ (zB (zC rfl (j6 (len := l.length) (cs := (l.flatMap EntD.cells)) (by kernel_rfl) rfl rfl (fun w' hw' => Own.rd hv hw') rfl (zA (zCc rfl (fun c1 => ?_) (fun c1 => ?_)))))))))
  ·
   refine zB (zH rfl (zA ?_))
   exact zS (zx (v := .slice none 0 0) rfl rfl (fun w' hw => ⟨.slice none 0 0, rfl, by obtain ⟨_, h0⟩ := Sl.isNil hv.φ c1; rw [List.eq_nil_of_length_eq_zero h0]; exact zz hw 81 5⟩))
  ·
   refine zP (zB (zy (e := 81) (sz := 5) (vs := []) (by kernel_rfl) rfl rfl (by simp [Value.cells, EntD.cells]) (by decide) rfl (fun b5 => zC rfl (yB (g := EntD.cells) (sz := 5) (by' := 56) (fun _ => rfl) (l := []) (l' := l) (EntD.c1all all_hv) 0 (by kernel_rfl) rfl rfl rfl (fun w' hw' => Own.rd hv hw') (by first | omega | (simp <;> omega)) (by decide) rfl (fun v7 => zH rfl (zA ?_))))))
   exact zS (zx (v := v7) rfl rfl (fun w' hw => ⟨v7, rfl, hw⟩))
theorem zCl (x : EntD) (w : World) (hx : x.data.length ≤ 1000000000) (rd_x : EntD.rd x w []) : Rets Tryz.prog 114 #[.agg (EntD.cells x).toArray] w fun u_ w' => ∃ (r : Value), u_ = .agg #[Vn x.index, Vn x.term, Vi x.kind, Vi x.delta, r] ∧ Own w [] [Res.vec 5 1 r x.data.length (x.data.map vb)] w' := by
  refine zR Tryz.func114 rfl Tryz.ntmps114 (Own.start w) ?_
  refine zB (zr rfl rfl (fun b1 => z3 (v := .agg #[Vn 0, Vn 0, Vi 0, Vi 0, .slice none 0 0]) (by kernel_rfl) rfl (fun b2 => zA (zB (zL (o := 4) rfl rfl (zI 0 (v := x.dv) rfl rfl rfl rfl (zF rfl rfl (fun w' hw => (kB x.dv x.data w' (by first | assumption | omega | (simp <;> omega) | (constructor <;> (first | omega | (simp only [zT]; omega) | (simp <;> omega)))) (hw.rd0 rd_x.dv)).mono ?_))))))))
  rintro r1_ w1 ⟨_, rfl, hO⟩
  refine (?_ : CL _ _ _ _ _ _ (Own w [] [Res.row b1 81 (EntD.cells x), Res.row b2 81 [Vn 0, Vn 0, Vi 0, Vi 0, .slice none 0 0], Res.vec 5 1 r1_ x.data.length (x.data.map vb)])) w1 (hw.frame0 hO)
  refine zL (o := 4) rfl rfl ?_
  refine zd (fun w' hw => Own.cell1Vec (i := 2) rfl hw) (fun hc1_ => ?_)
  refine zf (cs := (EntD.cells x)) 0 rfl rfl rfl hc1_ rfl (zA (zB (yO (cs := [Vn x.index, Vn x.term, Vi x.kind, Vi x.delta, r1_]) 0 rfl rfl rfl (zn 1 rfl rfl rfl (zJ rfl (zJ rfl (zJ rfl (zJ rfl (zJ hc1_ zj))))) rfl (zA ?_)))))
  exact zS (xp (cs := [Vn x.index, Vn x.term, Vi x.kind, Vi x.delta, r1_]) rfl rfl (by kernel_rfl) (Own.rowCells (i := 1) rfl) (fun w' hw => ⟨r1_, rfl, hw.sel [2] rfl (by decide)⟩))
theorem jJ (v : Value) (l : List EntD) (w : World) (hl : l.length ≤ 100000000000) (hd : ∀ x ∈ l, x.data.length ≤ 1000000000) (hv : Rd w [] (Res.sl v l.length (l.flatMap EntD.cells))) (all_hv : ∀ p ∈ l, EntD.rd p w []) : Rets Tryz.prog 66 #[v] w fun u_ w' => ∃ (r : Value) (es : List EntD), u_ = r ∧ es.map EntD.toEntA = l.map EntD.toEntA ∧ Own w [] [Res.vec 81 5 r es.length (es.flatMap EntD.cells), Res.star (es.map EntD.dres)] w' := by
  refine zR Tryz.func66 rfl Tryz.ntmps66 (Own.start w) ?_
  refine zB (zH rfl (zA (zB (zH rfl (zA (zQ (zB (zC rfl (zk (pR hv) rfl rfl (zC rfl (zA (zY ?_))))))))))))
  refine xd (fun (k : Nat) (lv : Value) (es : List EntD) => [(3, lv), (6, v), (7, Vj l.length), (8, Vj k)]) (fun (k : Nat) (lv : Value) (es : List EntD) => k ≤ l.length ∧ es.map EntD.toEntA = (l.take k).map EntD.toEntA) (fun (k : Nat) (lv : Value) (es : List EntD) => [Res.vec 81 5 lv es.length (es.flatMap EntD.cells), Res.star (es.map EntD.dres)]) (fun (k : Nat) (lv : Value) (es : List EntD) => l.length - k) (fun w' hw => ⟨0, .slice none 0 0, [], ⟨rfl, rfl, rfl, rfl, trivial⟩, ⟨Nat.zero_le _, rfl⟩, (zz hw 81 5).starNil⟩) (fun k lv es g hΦ => ?_)
  have hlen : es.length = min k l.length := by have := congrArg List.length hΦ.2; simpa using this
  refine zB (z4 rfl rfl rfl (zA (zQ (zV rfl (fun c1 => ?_) (fun c1 => ?_)))))
  ·
   have hnd := hd _ (zt (l := l) (j := k) (by omega))
   refine zP (zQ (zY (zB (z6 (pR hv) 5 k rfl rfl rfl (by omega) rfl (zAy (pR hv) 5 k (off := y4 v + k * 5) (fun _ => rfl) rfl rfl (by omega) rfl (z3 (v := .agg #[Vn 0, Vn 0, Vi 0, Vi 0, .slice none 0 0]) (by kernel_rfl) rfl (fun b5 => zn 2 rfl rfl rfl (zJ rfl (zJ rfl (zJ rfl (zJ rfl (zJ (Sl.cell1 (Rd.φ ((all_hv _ (zt (by omega))).dv))) zj))))) rfl (zA (zZ (zC rfl (yO (cs := (EntD.cells (zU l k))) 2 rfl rfl rfl (zF rfl rfl (fun w' hw => ?_)))))))))))))
   refine (zCl (zU l k) w' (by first | omega | (simp <;> omega)) ((all_hv _ (zt (by omega))).at0 hw)).mono ?_
   rintro _ w1 ⟨r1_, rfl, hO⟩
   refine (?_ : CL _ _ _ _ _ _ (Own w [] [Res.vec 81 5 lv es.length (es.flatMap EntD.cells), Res.star (es.map EntD.dres), Res.row b5 81 (EntD.cells (zU l k)), Res.vec 5 1 r1_ ((zU l k).data).length (((zU l k).data).map vb)])) w1 (hw.frame0 hO)
   refine zy (e := 81) (sz := 5) (vs := [.agg #[Vn ((zU l k).index), Vn ((zU l k).term), Vi ((zU l k).kind), Vi ((zU l k).delta), r1_]]) (by kernel_rfl) rfl rfl (by simp [Value.cells, EntD.cells]) (by decide) rfl (fun b15 => ?_)
   refine zd (fun w' hw => Own.cell1Vec (i := 3) rfl hw) (fun hc1_ => ?_)
   refine yB (g := EntD.cells) (sz := 5) (by' := 56) (fun _ => rfl) (l := es) (l' := [({ (zU l k) with dv := r1_ } : EntD)]) (all_cons ((zJ rfl (zJ rfl (zJ rfl (zJ rfl (zJ hc1_ zj)))))) (by simp)) 0 (by kernel_rfl) rfl rfl rfl (fun w' hw' => Vec.sl (Own.holds hw' 4 _ rfl)) (by first | omega | (simp <;> omega)) (by decide) rfl (fun v16 => zH rfl (zA (zZ (zu rfl rfl (zo (by omega)) rfl (zC rfl ?_)))))
   exact zl (fun w' hw => ⟨k + 1, v16, es ++ [({ (zU l k) with dv := r1_ } : EntD)], ⟨rfl, rfl, rfl, rfl, trivial⟩, ⟨by omega, by rw [List.map_append, z5 (by omega), List.map_append, hΦ.2]; rfl⟩, ((hw.starMap (x := ({ (zU l k) with dv := r1_ } : EntD)) 1 3 (by decide) rfl rfl).sel [0, 1] rfl (by decide)), (by omega)⟩)
  ·
   refine z8 rfl (zB (zC rfl (zH rfl (zA ?_))))
   exact zS (zx (v := lv) rfl rfl (fun w' hw => ⟨lv, es, rfl, by rw [hΦ.2, List.take_of_length_le (by omega)], hw⟩))
theorem zEc (lb i t : Nat) (lv : Value) (es : List EntD) (k : Nat) (n : Int) (w : World) (hl : es.length ≤ 100000000000) (hg : (LG i t es).good) (hlb : Rd w [] (Res.row lb 144 [Vn i, Vn t, lv])) (hlv : Rd w [] (Res.sl lv es.length (es.flatMap EntD.cells))) (all_hlv : ∀ p ∈ es, EntD.rd p w []) : Rets Tryz.prog 54 #[.pointer (some ⟨lb, 0, none⟩), Vn k, Vi n] w fun u_ w' => ∃ (r : Value) (rs : List EntD) (e : Int), u_ = .tuple #[r, Vi e] ∧ (LG i t es).fromE k n = (rs.map EntD.toEntA, e) ∧ Own w [] [Res.vec 81 5 r rs.length (rs.flatMap EntD.cells), Res.star (rs.map EntD.dres)] w' := by
  have hb := (LG.le hg).1
  refine zR Tryz.func54 rfl Tryz.ntmps54 (Own.start w) ?_
  refine zB (zH rfl (zH rfl (zA (zQ (zY (zB (zC rfl (y0 (by kernel_rfl) rfl rfl rfl (zC rfl (zN rfl rfl (zC rfl (zN rfl rfl ?_))))))))))))
  refine z4 rfl rfl rfl (zN rfl rfl (zC rfl (yE (q := n < 0) 7 5 [22, 21, 20, 19, 18, 17, 16] (((i : Nat) : Int) < ((k : Nat) : Int)) rfl rfl rfl rfl rfl rfl ⟨_, rfl, rfl, rfl⟩ rfl (fun h1_5 => ?_) (fun g1_13 => ?_))))
  ·
   refine zN rfl (gT h1_5) (zC rfl (zN rfl (gT h1_5) (zC rfl (zN rfl (gT h1_5) (za rfl rfl (zN rfl (gT h1_5) (zL (o := 0) rfl rfl (zN rfl (gT h1_5) (zL (o := 0) rfl rfl (zN rfl (gT h1_5) (kY (v := Vn i) rfl (hlb.φ.cell rfl) (hlb.far _ (by simp [Res.row])) (by kernel_rfl) rfl (zN rfl (gT h1_5) ?_))))))))))))
   refine yP rfl rfl rfl ?_
   exact z7 rfl (fun _ hw => hw)
  refine zN rfl rfl (zC rfl (yE (q := (n < 0) ∧ (((i : Nat) : Int) < ((k : Nat) : Int))) 5 14 [29, 28, 27, 26, 25] (((k : Nat) : Int) ≤ (((i + es.length) + 1 : Nat) : Int)) rfl rfl rfl rfl rfl rfl ⟨_, rfl, rfl, rfl⟩ rfl (fun h1_14 => ?_) (fun g1_20 => ?_)))
  ·
   refine zN rfl (gT h1_14) (zC rfl (zN rfl (gT h1_14) (zC rfl (zN rfl (gT h1_14) (zF rfl rfl (fun w' hw => (kD lb i t lv es w' (by first | omega | (simp <;> omega)) (hw.rd0 hlb) (hw.rd0 hlv) (fun p hp => EntD.rd.at0 (all_hlv p hp) hw)).mono ?_))))))
   rintro _ w1 ⟨rfl, hO⟩
   refine (?_ : CL _ _ _ _ _ _ (Own w [] [])) w1 (hw.frame0 hO)
   refine zN rfl (gT h1_14) (zu rfl rfl (yn (by omega)) rfl (zN rfl (gT h1_14) (xX rfl rfl rfl ?_)))
   exact z7 rfl (fun _ hw => hw)
  refine zBQ rfl rfl (zH rfl (zA (zV rfl (fun c1 => ?_) (fun c1 => ?_))))
  ·
   refine zB (zH rfl (zH rfl (zA ?_)))
   exact zS (yj (v := .slice none 0 0) (v' := Vi 1) rfl rfl rfl (fun w' hw => ⟨.slice none 0 0, [], 1, rfl, by rw [LG.fromE_eq, if_neg (by omega), if_neg (by omega), if_pos (by omega)]; rfl, (Own.starNil (zz hw 81 5))⟩))
  ·
   refine zB (zC rfl (zC rfl (za rfl rfl (zL (o := 0) rfl rfl (zL (o := 0) rfl rfl (kY (v := Vn i) rfl (hlb.φ.cell rfl) (hlb.far _ (by simp [Res.row])) (by kernel_rfl) rfl (xX rfl rfl rfl (zH rfl (zA (zV rfl (fun c2 => ?_) (fun c2 => ?_)))))))))))
   ·
    refine zB (zH rfl (zH rfl (zA ?_)))
    exact zS (yj (v := .slice none 0 0) (v' := Vi 13) rfl rfl rfl (fun w' hw => ⟨.slice none 0 0, [], 13, rfl, by rw [LG.fromE_eq, if_pos (by omega)]; rfl, (Own.starNil (zz hw 81 5))⟩))
   ·
    refine zB (zC rfl (zC rfl (zF rfl rfl (fun w' hw => (kD lb i t lv es w' (by first | omega | (simp <;> omega)) (hw.rd0 hlb) (hw.rd0 hlv) (fun p hp => EntD.rd.at0 (all_hlv p hp) hw)).mono ?_))))
    rintro _ w1 ⟨rfl, hO⟩
    refine (?_ : CL _ _ _ _ _ _ (Own w [] [])) w1 (hw.frame0 hO)
    refine zu rfl rfl (yn (by omega)) rfl (yP rfl rfl rfl (zH rfl (zA (zV rfl (fun c3 => ?_) (fun c3 => ?_)))))
    ·
     refine zB (zH rfl (zH rfl (zA ?_)))
     exact zS (yj (v := .slice none 0 0) (v' := Vi 8) rfl rfl rfl (fun w' hw => ⟨.slice none 0 0, [], 8, rfl, by rw [LG.fromE_eq, if_neg (by omega), if_pos (by omega)]; rfl, (Own.starNil (zz hw 81 5))⟩))
    ·
     refine zP (yS (by kernel_rfl) (by kernel_rfl) (zO rfl (zX) (zO rfl (zM rfl) (zO rfl (zG (o := 2) rfl) (zO rfl (jc (v := lv) rfl (hlb.φ.cell rfl) (hlb.far _ (by simp [Res.row])) (by kernel_rfl)) (zO rfl (zX) (zO rfl (zX) (zO rfl (zM rfl) (zO rfl (zG (o := 0) rfl) (zO rfl (zG (o := 0) rfl) (zO rfl (jc (v := Vn i) rfl (hlb.φ.cell rfl) (hlb.far _ (by simp [Res.row])) (by kernel_rfl)) (zO rfl (xx (c := ((k - i : Nat) : Int)) rfl rfl (ws (by omega) (by omega))) ?_))))))))))))
     refine zO rfl (xx (c := ((k - i - 1 : Nat) : Int)) rfl rfl (ws (a := k - i) (b := 1) (by omega) (by omega))) (zO rfl (jQ (pR hlv) 5 (k - i - 1) es.length (by kernel_rfl) rfl ⟨_, rfl⟩ rfl (by omega) (by omega)) ?_)
     have hs1_ := Rd.dropL_f (g := EntD.cells) (xs := es) (sz := 5) (fun _ => rfl) hlv (l := k - i - 1) (by omega)
     refine zO rfl (yU) (xV (zB (zC rfl (zC rfl (zC rfl (zk (pR hs1_) rfl rfl (zDm (c := min n (((es.drop (k - i - 1)).length : Nat) : Int)) rfl rfl (zE4 _ _) rfl (jx (pR hs1_) 5 0 ((min n (((es.drop (k - i - 1)).length : Nat) : Int)).toNat) (by kernel_rfl) rfl rfl ⟨_, (show Value.int .i64 _ = Value.int .i64 _ by congr 1; omega)⟩ (by omega) (by omega) rfl ?_))))))))
     have hs2_ := Rd.subL_f (g := EntD.cells) (xs := (es.drop (k - i - 1))) (sz := 5) (fun _ => rfl) hs1_ (l := 0) (h := (min n (((es.drop (k - i - 1)).length : Nat) : Int)).toNat) (by omega) (by omega)
     refine zF rfl rfl (fun w' hw => (jJ (yg (yg lv (k - i - 1) es.length 5) 0 ((min n (((es.drop (k - i - 1)).length : Nat) : Int)).toNat) 5) (((es.drop (k - i - 1)).take ((min n (((es.drop (k - i - 1)).length : Nat) : Int)).toNat)).drop 0) w' (by first | omega | (simp <;> omega) | (constructor <;> (first | omega | (simp <;> omega)))) (fun e he => by have := LG.data hg e (List.mem_of_mem_drop (List.mem_of_mem_take (List.mem_of_mem_drop he))); omega) (hw.rd0 hs2_) (xD (jL (xD (fun p hp => EntD.rd.at0 (all_hlv p hp) hw))))).mono ?_)
     rintro r3_ w1 ⟨_, es4_, rfl, hf8_6, hO⟩
     refine (?_ : CL _ _ _ _ _ _ (Own w [] [Res.vec 81 5 r3_ es4_.length (es4_.flatMap EntD.cells), Res.star (es4_.map EntD.dres)])) w1 (hw.frame0 hO)
     refine zH rfl (zH rfl (zA ?_))
     exact zS (yj (v := r3_) (v' := Vi 0) rfl rfl rfl (fun w' hw => ⟨r3_, es4_, 0, rfl, by rw [LG.fromE_eq, if_neg (by omega), if_neg (by omega), if_neg (by omega), hf8_6, List.drop_zero, List.map_take, List.map_drop]; congr 1; rw [List.take_eq_take_iff]; simp; omega, hw⟩))
theorem zCr (i t : Nat) (v : Value) (m : List EntD) (w : World) (hl : zT m.length) (hx : ∀ e ∈ m, e.wf) (hi : i < 18446744073709551616) (hv : Rd w [] (Res.sl v m.length (m.flatMap EntD.cells))) (all_hv : ∀ p ∈ m, EntD.rd p w []) : Rets Tryz.prog 64 #[.agg #[Vn i, Vn t], v] w fun u_ w' => u_ = .bool (decide (folA i t (m.map EntD.toEntA))) ∧ Own w [] [] w' := by
  refine zR Tryz.func64 rfl Tryz.ntmps64 (Own.start w) ?_
  refine zB (zr rfl rfl (fun b2 => zH rfl (zA (zQ (zB (zC rfl (zk (pR hv) rfl rfl (zC rfl (zA (zY ?_))))))))))
  refine xd (fun (k : Nat) (j : Nat) (u : Nat) => [(2, .pointer (some ⟨b2, 0, none⟩)), (9, v), (10, Vj m.length), (11, Vj k)]) (fun (k : Nat) (j : Nat) (u : Nat) => (k ≤ m.length ∧ j < 18446744073709551616) ∧ folA i t ((m.take k).map EntD.toEntA) ∧ j = xI i ((m.take k).map EntD.toEntA) ∧ u = xK t ((m.take k).map EntD.toEntA)) (fun (k : Nat) (j : Nat) (u : Nat) => [Res.row b2 142 [Vn j, Vn u]]) (fun (k : Nat) (j : Nat) (u : Nat) => m.length - k) (fun w' hw => ⟨0, i, t, ⟨rfl, rfl, rfl, rfl, trivial⟩, ⟨⟨Nat.zero_le _, hi⟩, trivial, rfl, rfl⟩, hw⟩) (fun k j u g hΦ => ?_)
  refine zB (z4 rfl rfl rfl (zA (zQ (zV rfl (fun c1 => ?_) (fun c1 => ?_)))))
  ·
   refine zP (zQ (zY (zB (z6 (pR hv) 5 k rfl rfl rfl (by omega) rfl (zAy (pR hv) 5 k (off := y4 v + k * 5) (fun _ => rfl) rfl rfl (by omega) rfl (z3 (v := .agg #[Vn 0, Vn 0, Vi 0, Vi 0, .slice none 0 0]) (by kernel_rfl) rfl (fun b6 => zn 1 rfl rfl rfl (zJ rfl (zJ rfl (zJ rfl (zJ rfl (zJ (Sl.cell1 (Rd.φ ((all_hv _ (zt (by omega))).dv))) zj))))) rfl (zA (zQ (zB (yO (cs := (EntD.cells (zU m k))) 1 rfl rfl rfl (zF rfl rfl (fun w' hw => ?_)))))))))))))
   refine (zAe (zU m k) w' (hx _ (zt (by omega))) ((all_hv _ (zt (by omega))).at0 hw)).mono ?_
   rintro _ w1 ⟨r1_, rfl, hO⟩
   refine (?_ : CL _ _ _ _ _ _ (Own w [] [Res.row b2 142 [Vn j, Vn u], Res.row b6 81 (EntD.cells (zU m k)), Res.vec 5 1 r1_ (if (zU m k).ok then (zU m k).enc else []).length ((if (zU m k).ok then (zU m k).enc else []).map vb)])) w1 (hw.frame0 hO)
   refine zC rfl (zh (vs := [r1_, Vi (zq (zU m k).ok)]) rfl rfl rfl (zh (vs := [r1_, Vi (zq (zU m k).ok)]) rfl rfl rfl (zH rfl (zH rfl (zA (zB (zC rfl (yi rfl rfl rfl (zC rfl (yC (q := (zq (zU m k).ok) ≠ 0) 6 2 [28, 27, 26, 25, 24, 23] ((((zU m k).index : Nat) : Int) ≠ (((j + 1) % 18446744073709551616 : Nat) : Int)) rfl rfl rfl rfl rfl rfl trivial rfl (fun h5_2 => ?_) (fun g5_9 => ?_)))))))))))
   ·
    refine zN rfl (gF h5_2) (zL (o := 0) rfl rfl (zN rfl (gF h5_2) (zI 1 (v := Vn ((zU m k).index)) rfl rfl rfl rfl (zN rfl (gF h5_2) (zL (o := 0) rfl rfl (zN rfl (gF h5_2) (zI 0 (v := Vn j) rfl rfl rfl rfl (zN rfl (gF h5_2) (zu (c := (((j + 1) % 18446744073709551616 : Nat) : Int)) rfl rfl (zFe _ _) rfl (zN rfl (gF h5_2) (yi rfl rfl rfl ?_)))))))))))
    exact z7 rfl (fun _ hw => hw)
   refine zC rfl (yC (q := ((zq (zU m k).ok) ≠ 0) ∨ ((((zU m k).index : Nat) : Int) ≠ (((j + 1) % 18446744073709551616 : Nat) : Int))) 5 10 [35, 34, 33, 32, 31] ((((zU m k).term : Nat) : Int) < ((u : Nat) : Int)) rfl rfl rfl rfl rfl rfl trivial rfl (fun h5_10 => ?_) (fun g5_16 => ?_))
   ·
    refine zN rfl (gF h5_10) (zL (o := 1) rfl rfl (zN rfl (gF h5_10) (zI 1 (v := Vn ((zU m k).term)) rfl rfl rfl rfl (zN rfl (gF h5_10) (zL (o := 1) rfl rfl (zN rfl (gF h5_10) (zI 0 (v := Vn u) rfl rfl rfl rfl (zN rfl (gF h5_10) (z4 rfl rfl rfl ?_)))))))))
    exact z7 rfl (fun _ hw => hw)
   refine zA (zV rfl (fun c2 => ?_) (fun c2 => ?_))
   ·
    refine zB (zH rfl (zA ?_))
    exact zS (zx (v := .bool false) rfl rfl (fun w' hw => ⟨(by rw [decide_eq_false]; exact zEh (by omega) hΦ.2.1 hΦ.2.2.1 hΦ.2.2.2 (fun q => by have q1 := q.1.1; have q2 := errOf_zero.2 q.1; have q3 := q1.2.1.1; omega)), hw.drop⟩))
   ·
    have hok := errOf_zero.1 (show zq (zU m k).ok = 0 by omega)
    have hok1 := hok.1.1.1
    refine zP (zZ (zL (o := 0) rfl rfl (zI 1 (v := Vn ((zU m k).index)) rfl rfl rfl rfl (zL (o := 1) rfl rfl (zI 1 (v := Vn ((zU m k).term)) rfl rfl rfl rfl (yN (cs := [Vn ((zU m k).index), Vn ((zU m k).term)]) (z := [Vn 0, Vn 0]) (pl := [(0, 1), (1, 1)]) (by kernel_rfl) (by kernel_rfl) rfl (zn 0 rfl rfl rfl (y5 rfl) rfl (zA (zZ (zu rfl rfl (zo (by omega)) rfl (zC rfl ?_)))))))))))
    exact zl (fun w' hw => ⟨k + 1, (zU m k).index, (zU m k).term, ⟨rfl, rfl, rfl, rfl, trivial⟩, ⟨⟨by omega, (hx _ (zt (by omega))).index⟩, (x5 (by omega) hΦ.2.1 hΦ.2.2.1 hΦ.2.2.2).1.2 ⟨errOf_zero.1 (by omega), by omega, by omega⟩, (x5 (by omega) hΦ.2.1 hΦ.2.2.1 hΦ.2.2.2).2.1 (by omega), (x5 (by omega) hΦ.2.1 hΦ.2.2.1 hΦ.2.2.2).2.2⟩, hw.sel [0] rfl (by decide), (by omega)⟩)
  ·
   refine z8 rfl (zB (zH rfl (zA ?_)))
   exact zS (zx (v := .bool true) rfl rfl (fun w' hw => ⟨(by rw [decide_eq_true]; have h := hΦ.2.1; rwa [List.take_of_length_le (by omega)] at h), hw.drop⟩))
theorem zAJ {S : List Nat} (lb i t : Nat) (lv : Value) (es : List EntD) (index term : Nat) (v : Value) (m : List EntD) (w : World) (hl : es.length + m.length ≤ 100000000000) (hg : (LG i t es).good) (hx : ∀ e ∈ m, e.wf) (hi : index < 18446744073709551616) (hin : Own w S [Res.row lb 144 [Vn i, Vn t, lv], Res.vec 81 5 lv es.length (es.flatMap EntD.cells), Res.star (es.map EntD.dres)] w) (hv : Rd w S (Res.sl v m.length (m.flatMap EntD.cells))) (all_hv : ∀ p ∈ m, EntD.rd p w S) : Rets Tryz.prog 28 #[.pointer (some ⟨lb, 0, none⟩), Vn index, Vn term, v] w fun u_ w' => ∃ (lv' : Value) (es' : List EntD) (x : Nat) (y : Nat) (e : Int), u_ = .tuple #[Vn x, Vn y, Vi e] ∧ LG i t es' = (LG i t es).append index term (m.map EntD.toEntA) ∧ (LG i t es).ans index term (m.map EntD.toEntA) = (x, y, e) ∧ Own w S [Res.row lb 144 [Vn i, Vn t, lv'], Res.vec 81 5 lv' es'.length (es'.flatMap EntD.cells), Res.star (es'.map EntD.dres)] w' := by
  have hb := (LG.le hg).1
  refine zR Tryz.func28 rfl Tryz.ntmps28 hin ?_
  refine zB (zH rfl (zH rfl (zH rfl (zA (zQ (zY (zB (zC rfl (y0 (by kernel_rfl) rfl rfl rfl (zH rfl (zA (xO rfl ?_))))))))))))
  refine zB (zC rfl (zC rfl (yN (cs := [Vn index, Vn term]) (z := [Vn 0, Vn 0]) (pl := [(0, 1), (1, 1)]) (by kernel_rfl) (by kernel_rfl) rfl (zC rfl (zF rfl rfl (fun w' hw => (zCr index term v m w' (by first | assumption | omega | (simp <;> omega) | (constructor <;> (first | omega | (simp only [zT]; omega) | (simp <;> omega)))) ‹_› (by first | omega | (simp <;> omega)) (hw.rd0 hv) (fun p hp => EntD.rd.at0 (all_hv p hp) hw)).mono ?_))))))
  rintro _ w1 ⟨rfl, hO⟩
  refine (?_ : CL _ _ _ _ _ _ (Own w S [Res.row lb 144 [Vn i, Vn t, lv], Res.vec 81 5 lv es.length (es.flatMap EntD.cells), Res.star (es.map EntD.dres)])) w1 (hw.frame0 hO)
  refine xJ (q := folA index term (m.map EntD.toEntA)) rfl rfl (zH rfl (zA (zV rfl (fun c2 => ?_) (fun c2 => ?_))))
  ·
   refine zB (zH rfl (zH rfl (zH rfl (zA ?_))))
   exact zS (jz (v := Vn 0) (v' := Vn 0) (v'' := Vi 2) rfl rfl rfl rfl (fun w' hw => ⟨lv, es, 0, 0, 2, rfl, (zAR c2).1, (zAR c2).2, hw⟩))
  ·
   refine zB (zC rfl (zC rfl (zC rfl (zF rfl rfl (fun w' hw => (ki lb i t lv es index term w' (by first | assumption | omega | (simp <;> omega) | (constructor <;> (first | omega | (simp only [zT]; omega) | (simp <;> omega)))) (by first | omega | (simp <;> omega)) (by first | omega | (simp <;> omega)) (hw.rdRes0 0 rfl) (hw.rdVec0 1 rfl) (EntD.rd.star0 2 rfl hw)).mono ?_)))))
   rintro _ w1 ⟨rfl, hO⟩
   refine (?_ : CL _ _ _ _ _ _ (Own w S [Res.row lb 144 [Vn i, Vn t, lv], Res.vec 81 5 lv es.length (es.flatMap EntD.cells), Res.star (es.map EntD.dres)])) w1 (hw.frame0 hO)
   refine xJ (q := (LG i t es).fits index term) rfl rfl (zH rfl (zA (zV rfl (fun c3 => ?_) (fun c3 => ?_))))
   ·
    refine zB (zH rfl (zH rfl (zH rfl (zA ?_))))
    exact zS (jz (v := Vn 0) (v' := Vn 0) (v'' := Vi 12) rfl rfl rfl rfl (fun w' hw => ⟨lv, es, 0, 0, 12, rfl, (zBK (Decidable.not_not.1 c2) c3).1, (zBK (Decidable.not_not.1 c2) c3).2, hw⟩))
   ·
    have hi3 := (LogA.fits_end (Decidable.not_not.1 c3)).1
    rw [LG.last_eq] at hi3
    have hi3' : i ≤ index := hi3.1
    refine zP (zQ (zB (zC rfl (zk (pR hv) rfl rfl (zC rfl (zA (zY ?_)))))))
    refine yM (fun (k : Nat) => [(0, .pointer (some ⟨lb, 0, none⟩)), (1, Vn index), (3, v), (9, Vn 0), (29, v), (30, Vj m.length), (31, Vj k)]) (fun (k : Nat) => k ≤ m.length ∧ ∀ e ∈ m.take k, (LG i t es).fits e.index e.term) (fun (k : Nat) => [Res.row lb 144 [Vn i, Vn t, lv], Res.vec 81 5 lv es.length (es.flatMap EntD.cells), Res.star (es.map EntD.dres)]) (fun (k : Nat) => m.length - k) (fun w' hw => ⟨0, ⟨rfl, rfl, rfl, rfl, rfl, rfl, rfl, trivial⟩, ⟨Nat.zero_le _, by simp⟩, hw⟩) (fun k g hΦ => ?_)
    refine zB (z4 rfl rfl rfl (zA (zQ (zV rfl (fun c4 => ?_) (fun c4 => ?_)))))
    ·
     have hxk := (hx _ (zt (l := m) (j := k) (by omega))).index
     refine zP (zQ (zY (zB (zC rfl (z6 (pR hv) 5 k rfl rfl rfl (by omega) rfl (zAy (pR hv) 5 k (off := y4 v + k * 5) (fun _ => rfl) rfl rfl (by omega) rfl (z3 (v := .agg #[Vn 0, Vn 0, Vi 0, Vi 0, .slice none 0 0]) (by kernel_rfl) rfl (fun b12 => zH rfl (zn 3 rfl rfl rfl (zJ rfl (zJ rfl (zJ rfl (zJ rfl (zJ (Sl.cell1 (Rd.φ ((all_hv _ (zt (by omega))).dv))) zj))))) rfl (zA (zQ (zB ?_))))))))))))
     refine zC rfl (zL (o := 0) rfl rfl (zI 3 (v := Vn ((zU m k).index)) rfl rfl rfl rfl (zL (o := 1) rfl rfl (zI 3 (v := Vn ((zU m k).term)) rfl rfl rfl rfl (zF rfl rfl (fun w' hw => (ki lb i t lv es ((zU m k).index) ((zU m k).term) w' (by first | assumption | omega | (simp <;> omega) | (constructor <;> (first | omega | (simp only [zT]; omega) | (simp <;> omega)))) (by first | omega | (simp <;> omega)) (by first | omega | (simp <;> omega)) (hw.rdRes0 0 rfl) (hw.rdVec0 1 rfl) (EntD.rd.star0 2 rfl hw)).mono ?_))))))
     rintro _ w1 ⟨rfl, hO⟩
     refine (?_ : CL _ _ _ _ _ _ (Own w S [Res.row lb 144 [Vn i, Vn t, lv], Res.vec 81 5 lv es.length (es.flatMap EntD.cells), Res.star (es.map EntD.dres), Res.row b12 81 (EntD.cells (zU m k))])) w1 (hw.frame0 hO)
     refine zA (zV rfl (fun c5 => ?_) (fun c5 => ?_))
     ·
      refine z8 rfl (zZ (zu rfl rfl (zo (by omega)) rfl (zC rfl ?_)))
      exact zl (fun w' hw => ⟨k + 1, ⟨rfl, rfl, rfl, rfl, rfl, rfl, rfl, trivial⟩, ⟨by omega, by rw [z5 (by omega)]; intro v hv; rcases List.mem_append.1 hv with h | h; exact hΦ.2 v h; simp at h; rw [h]; exact c5⟩, hw.sel [0, 1, 2] rfl (by decide), (by omega)⟩)
     ·
      have hm := Decidable.not_not.1 c2
      have hf := Decidable.not_not.1 c3
      have hp := zAd hm hf (by omega) hΦ.2 c5
      refine zP (zQ (zc [1, 3] rfl (by decide) (by kernel_rfl) (fun w' hw hS => zD 0 rfl (zX) hS (zD 1 rfl (zX) hS (zD 2 rfl (zM rfl) hS (zD 3 rfl (zG (o := 2) rfl) hS (zD 5 rfl (zG (o := 0) rfl) hS (zD 6 rfl (zi 1 (v := Vn ((zU m k).index)) rfl rfl rfl) hS (zD 7 rfl (zX) hS (zD 8 rfl (zM rfl) hS (zD 9 rfl (zG (o := 0) rfl) hS (zD 10 rfl (zG (o := 0) rfl) hS ?_))))))))))))
      refine zD 16 rfl (zX) hS (zD 17 rfl (zX) hS ?_)
      have hs1_ := Rd.dropL_f (g := EntD.cells) (xs := m) (sz := 5) (fun _ => rfl) hv (l := k) (by omega)
      refine zD 18 rfl (jQ (pR hv) 5 k m.length (by kernel_rfl) rfl ⟨_, rfl⟩ rfl (by omega) (by omega)) hS (zm 4 11 ?_ ?_)
      ·
       refine ze 4 rfl hw (zI 0 (v := lv) rfl rfl rfl rfl (zE [1, 3] rfl (by decide) (fun w' hw hS => zK 11 rfl hw (zI 0 (v := Vn i) rfl rfl rfl rfl (zE [1, 3] rfl (by decide) (fun w' hw hS => zD 12 rfl (xx (c := (((zU m k).index - i : Nat) : Int)) rfl rfl (ws (by omega) (by omega))) hS (zD 13 rfl (xx (c := (((zU m k).index - i - 1 : Nat) : Int)) rfl rfl (ws (a := (zU m k).index - i) (b := 1) (by omega) (by omega))) hS (zD 14 rfl (jQ (pV 0 rfl) 5 0 ((zU m k).index - i - 1) (by kernel_rfl) rfl rfl ⟨_, rfl⟩ (by omega) (by omega)) hS (zK 15 rfl hw (zF rfl rfl (fun w' hw => (zAU (yg lv 0 ((zU m k).index - i - 1) 5) ((es.take ((zU m k).index - i - 1)).drop 0) w' (by first | omega | (simp <;> omega) | (constructor <;> (first | omega | (simp <;> omega)))) (Rd.subL_f (g := EntD.cells) (xs := es) (sz := 5) (fun _ => rfl) (hw.rdVec0 1 rfl) (l := 0) (h := (zU m k).index - i - 1) (by omega) (by omega)) (xD (jL (EntD.rd.star0 2 rfl hw)))).mono ?_)))))))))))
       rintro r3_ w1 ⟨_, rfl, hO⟩
       refine (?_ : CL _ _ _ _ _ _ (Own w S [Res.row lb 144 [Vn i, Vn t, lv], Res.vec 81 5 lv es.length (es.flatMap EntD.cells), Res.star (es.map EntD.dres), Res.row b12 81 (EntD.cells (zU m k)), Res.vec 81 5 r3_ ((es.take ((zU m k).index - i - 1)).drop 0).length (((es.take ((zU m k).index - i - 1)).drop 0).flatMap EntD.cells)])) w1 (hw.frame0 hO)
       refine zE [1, 3] rfl (by decide) (fun w' hw hS => zK 19 rfl hw (zF rfl rfl (fun w' hw => (jJ (yg v k m.length 5) (m.drop k) w' (by first | omega | (simp <;> omega) | (constructor <;> (first | omega | (simp <;> omega)))) (fun x hx' => (hx x (List.mem_of_mem_drop hx')).data) (hw.rd0 hs1_) (xD (fun p hp => EntD.rd.at0 (all_hv p hp) hw))).mono ?_)))
       rintro r4_ w1 ⟨_, es5_, rfl, hf11_19, hO⟩
       have hl5 := congrArg List.length hf11_19; simp only [List.length_map, List.length_drop] at hl5
       refine (?_ : CL _ _ _ _ _ _ (Own w S [Res.row lb 144 [Vn i, Vn t, lv], Res.vec 81 5 lv es.length (es.flatMap EntD.cells), Res.star (es.map EntD.dres), Res.row b12 81 (EntD.cells (zU m k)), Res.vec 81 5 r3_ ((es.take ((zU m k).index - i - 1)).drop 0).length (((es.take ((zU m k).index - i - 1)).drop 0).flatMap EntD.cells), Res.vec 81 5 r4_ es5_.length (es5_.flatMap EntD.cells), Res.star (es5_.map EntD.dres)])) w1 (hw.frame0 hO)
       refine zE [1, 3] rfl (by decide) (fun w' hw hS => zK 20 rfl hw ?_)
       refine zd (fun w' hw => EntD.c1all (EntD.rd.star0 6 rfl hw)) (fun hc3_ => ?_)
       refine yB (g := EntD.cells) (sz := 5) (by' := 56) (fun _ => rfl) (l := ((es.take ((zU m k).index - i - 1)).drop 0)) (l' := es5_) hc3_ 4 (by kernel_rfl) rfl rfl rfl (fun w' hw' => Vec.sl (Own.holds hw' 5 _ rfl)) (by first | omega | (simp <;> omega)) (by decide) rfl (fun v62 => zE [1, 3] rfl (by decide) (fun w' hw hS => zD 21 rfl (zM rfl) hS (zD 22 rfl (zG (o := 2) rfl) hS (zK 23 rfl hw ?_))))
       refine zd (fun w' hw => Own.cell1Vec (i := 4) rfl hw) (fun hc4_ => ?_)
       refine zf (cs := [Vn i, Vn t, lv]) 0 rfl rfl rfl hc4_ rfl (zE [1, 3] rfl (by decide) (fun w' hw hS => zW ?_))
       refine (?_ : C _ _ _ _ _ _ _ (Own w S [Res.row lb 144 [Vn i, Vn t, v62], Res.vec 81 5 lv es.length (es.flatMap EntD.cells), Res.star (es.map EntD.dres), Res.row b12 81 (EntD.cells (zU m k)), Res.vec 81 5 v62 (((es.take ((zU m k).index - i - 1)).drop 0) ++ es5_).length ((((es.take ((zU m k).index - i - 1)).drop 0) ++ es5_).flatMap EntD.cells), Res.vec 81 5 r4_ es5_.length (es5_.flatMap EntD.cells), Res.star (es5_.map EntD.dres)])) _ hw
       refine zB (zL (o := 0) rfl rfl (zI 3 (v := Vn ((zU m k).index)) rfl rfl rfl rfl (zH rfl (zA (z8 rfl (zB (zC rfl (zC rfl (zk (pR hv) rfl rfl (yf (by kernel_rfl) rfl (yn (by omega)) rfl ?_ (by kernel_rfl)))))))))))
       refine zu rfl rfl (yn (by omega)) rfl (zC rfl (zH rfl (zH rfl (zH rfl (zA ?_)))))
       exact zS (jz (v := Vn (index + m.length)) (v' := Vn ((zU m k).index)) (v'' := Vi 0) rfl rfl rfl rfl (fun w' hw => ⟨v62, ((es.take ((zU m k).index - i - 1)).drop 0) ++ es5_, index + m.length, (zU m k).index, 0, rfl, (zBV hm hf (by omega) hΦ.2 c5 (by rw [List.map_append, List.drop_zero, hf11_19, List.map_take, List.map_drop])).1, zBM hm hf (by omega) hΦ.2 c5, ((((hw.starTake 2 ((zU m k).index - i - 1) rfl).starDrop 2 0 rfl).starApp 2 6 (by decide) rfl rfl).sel [0, 4, 2] rfl (by decide))⟩))
      ·
       refine ze 11 rfl hw (zI 0 (v := Vn i) rfl rfl rfl rfl (zE [1, 3] rfl (by decide) (fun w' hw hS => zD 12 rfl (xx (c := (((zU m k).index - i : Nat) : Int)) rfl rfl (ws (by omega) (by omega))) hS (zD 13 rfl (xx (c := (((zU m k).index - i - 1 : Nat) : Int)) rfl rfl (ws (a := (zU m k).index - i) (b := 1) (by omega) (by omega))) hS (zK 4 rfl hw (zI 0 (v := lv) rfl rfl rfl rfl (zE [1, 3] rfl (by decide) (fun w' hw hS => zD 14 rfl (jQ (pV 0 rfl) 5 0 ((zU m k).index - i - 1) (by kernel_rfl) rfl rfl ⟨_, rfl⟩ (by omega) (by omega)) hS (zK 15 rfl hw (zF rfl rfl (fun w' hw => (zAU (yg lv 0 ((zU m k).index - i - 1) 5) ((es.take ((zU m k).index - i - 1)).drop 0) w' (by first | omega | (simp <;> omega) | (constructor <;> (first | omega | (simp <;> omega)))) (Rd.subL_f (g := EntD.cells) (xs := es) (sz := 5) (fun _ => rfl) (hw.rdVec0 1 rfl) (l := 0) (h := (zU m k).index - i - 1) (by omega) (by omega)) (xD (jL (EntD.rd.star0 2 rfl hw)))).mono ?_)))))))))))
       rintro r7_ w1 ⟨_, rfl, hO⟩
       refine (?_ : CL _ _ _ _ _ _ (Own w S [Res.row lb 144 [Vn i, Vn t, lv], Res.vec 81 5 lv es.length (es.flatMap EntD.cells), Res.star (es.map EntD.dres), Res.row b12 81 (EntD.cells (zU m k)), Res.vec 81 5 r7_ ((es.take ((zU m k).index - i - 1)).drop 0).length (((es.take ((zU m k).index - i - 1)).drop 0).flatMap EntD.cells)])) w1 (hw.frame0 hO)
       refine zE [1, 3] rfl (by decide) (fun w' hw hS => zK 19 rfl hw (zF rfl rfl (fun w' hw => (jJ (yg v k m.length 5) (m.drop k) w' (by first | omega | (simp <;> omega) | (constructor <;> (first | omega | (simp <;> omega)))) (fun x hx' => (hx x (List.mem_of_mem_drop hx')).data) (hw.rd0 hs1_) (xD (fun p hp => EntD.rd.at0 (all_hv p hp) hw))).mono ?_)))
       rintro r8_ w1 ⟨_, es9_, rfl, hf11_19, hO⟩
       have hl5 := congrArg List.length hf11_19; simp only [List.length_map, List.length_drop] at hl5
       refine (?_ : CL _ _ _ _ _ _ (Own w S [Res.row lb 144 [Vn i, Vn t, lv], Res.vec 81 5 lv es.length (es.flatMap EntD.cells), Res.star (es.map EntD.dres), Res.row b12 81 (EntD.cells (zU m k)), Res.vec 81 5 r7_ ((es.take ((zU m k).index - i - 1)).drop 0).length (((es.take ((zU m k).index - i - 1)).drop 0).flatMap EntD.cells), Res.vec 81 5 r8_ es9_.length (es9_.flatMap EntD.cells), Res.star (es9_.map EntD.dres)])) w1 (hw.frame0 hO)
       refine zE [1, 3] rfl (by decide) (fun w' hw hS => zK 20 rfl hw ?_)
       refine zd (fun w' hw => EntD.c1all (EntD.rd.star0 6 rfl hw)) (fun hc5_ => ?_)
       refine yB (g := EntD.cells) (sz := 5) (by' := 56) (fun _ => rfl) (l := ((es.take ((zU m k).index - i - 1)).drop 0)) (l' := es9_) hc5_ 4 (by kernel_rfl) rfl rfl rfl (fun w' hw' => Vec.sl (Own.holds hw' 5 _ rfl)) (by first | omega | (simp <;> omega)) (by decide) rfl (fun v62 => zE [1, 3] rfl (by decide) (fun w' hw hS => zD 21 rfl (zM rfl) hS (zD 22 rfl (zG (o := 2) rfl) hS (zK 23 rfl hw ?_))))
       refine zd (fun w' hw => Own.cell1Vec (i := 4) rfl hw) (fun hc6_ => ?_)
       refine zf (cs := [Vn i, Vn t, lv]) 0 rfl rfl rfl hc6_ rfl (zE [1, 3] rfl (by decide) (fun w' hw hS => zW ?_))
       refine (?_ : C _ _ _ _ _ _ _ (Own w S [Res.row lb 144 [Vn i, Vn t, v62], Res.vec 81 5 lv es.length (es.flatMap EntD.cells), Res.star (es.map EntD.dres), Res.row b12 81 (EntD.cells (zU m k)), Res.vec 81 5 v62 (((es.take ((zU m k).index - i - 1)).drop 0) ++ es9_).length ((((es.take ((zU m k).index - i - 1)).drop 0) ++ es9_).flatMap EntD.cells), Res.vec 81 5 r8_ es9_.length (es9_.flatMap EntD.cells), Res.star (es9_.map EntD.dres)])) _ hw
       refine zB (zL (o := 0) rfl rfl (zI 3 (v := Vn ((zU m k).index)) rfl rfl rfl rfl (zH rfl (zA (z8 rfl (zB (zC rfl (zC rfl (zk (pR hv) rfl rfl (yf (by kernel_rfl) rfl (yn (by omega)) rfl ?_ (by kernel_rfl)))))))))))
       refine zu rfl rfl (yn (by omega)) rfl (zC rfl (zH rfl (zH rfl (zH rfl (zA ?_)))))
       exact zS (jz (v := Vn (index + m.length)) (v' := Vn ((zU m k).index)) (v'' := Vi 0) rfl rfl rfl rfl (fun w' hw => ⟨v62, ((es.take ((zU m k).index - i - 1)).drop 0) ++ es9_, index + m.length, (zU m k).index, 0, rfl, (zBV hm hf (by omega) hΦ.2 c5 (by rw [List.map_append, List.drop_zero, hf11_19, List.map_take, List.map_drop])).1, zBM hm hf (by omega) hΦ.2 c5, ((((hw.starTake 2 ((zU m k).index - i - 1) rfl).starDrop 2 0 rfl).starApp 2 6 (by decide) rfl rfl).sel [0, 4, 2] rfl (by decide))⟩))
    ·
     refine z8 rfl (zB (zC rfl (zC rfl (zk (pR hv) rfl rfl (yf (by kernel_rfl) rfl (yn (by omega)) rfl ?_ (by kernel_rfl))))))
     refine zu rfl rfl (yn (by omega)) rfl (zC rfl (zH rfl (zH rfl (zH rfl (zA ?_)))))
     exact zS (jz (v := Vn (index + m.length)) (v' := Vn 0) (v'' := Vi 0) rfl rfl rfl rfl (fun w' hw => ⟨lv, es, index + m.length, 0, 0, rfl, (put_none (Decidable.not_not.1 c2) (Decidable.not_not.1 c3) (by have h := hΦ.2; rwa [List.take_of_length_le (by omega)] at h)).1, (put_none (Decidable.not_not.1 c2) (Decidable.not_not.1 c3) (by have h := hΦ.2; rwa [List.take_of_length_le (by omega)] at h)).2, hw⟩))
end Go.Proofs.YtkkeknmkipkbmaaGreat
