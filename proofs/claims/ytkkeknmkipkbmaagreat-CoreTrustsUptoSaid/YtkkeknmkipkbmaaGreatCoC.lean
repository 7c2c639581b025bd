import Derived.Test.YtkkeknmkipkbmaaGreatFwJ
import Derived.Test.YtkkeknmkipkbmaaGreatFwJS
set_option linter.unusedSectionVars false
set_option linter.unusedSimpArgs false
set_option linter.unusedVariables false
set_option maxRecDepth 10000
namespace Go.Proofs.YtkkeknmkipkbmaaGreat
open Go Go.Sc Go.Proofs
def zBD (upto : Nat) (x : EntA) : Bool := decide (x.kind = 3 ∧ x.index ≤ upto)
def kI (vs0 : List Int) (es : List EntA) (upto : Nat) : ConfA × Nat :=
  match es.reverse.find? (zBD upto) with
  | some x => ((x0 x.data).getD ⟨[], []⟩, x.index)
  | none => (⟨vs0, []⟩, 0)
theorem zF6 {α : Type} [Inhabited α] {l : List α} {p : α → Bool} {m : Nat} (hm : m < l.length) (h : ∀ j, j < m → p (zG l (l.length - 1 - j)) = false) (hx : p (zG l (l.length - 1 - m)) = true) : l.reverse.find? p = some (zG l (l.length - 1 - m)) := by
  have at_ : ∀ j (hj : j < l.length), l.reverse[j]? = some (zG l (l.length - 1 - j)) := fun j hj => by rw [List.getElem?_reverse (by omega)]; exact xB (by omega)
  rw [List.find?_eq_some_iff_getElem]
  refine ⟨hx, m, by simpa using hm, ?_, fun j hj => ?_⟩
  · have := at_ m hm; rw [List.getElem?_eq_getElem (by simpa using hm)] at this; exact Option.some.inj this
  · have e := at_ j (by omega); rw [List.getElem?_eq_getElem (by simp; omega)] at e; rw [Option.some.inj e, h j hj]; rfl
theorem zFY {α : Type} [Inhabited α] {l : List α} {p : α → Bool} (h : ∀ j, j < l.length → p (zG l (l.length - 1 - j)) = false) : l.reverse.find? p = none := by
  rw [List.find?_eq_none]
  intro x hx
  obtain ⟨i, hi⟩ := List.mem_iff_getElem?.1 (List.mem_reverse.1 hx)
  have hl : i < l.length := (List.getElem?_eq_some_iff.1 hi).1
  have := h (l.length - 1 - i) (by omega)
  rw [show l.length - 1 - (l.length - 1 - i) = i by omega, xR hi] at this
  rw [this]; simp
theorem zF5 (sb : Nat) (v : Value) (l : List EntD) (hl : zd l.length) : zIn Tryz.prog 158 [pt sb] (fun x : Int × EntD => Value.int .i64 x.1) (fun x : Int × EntD => Value.agg (EntD.cells x.2).toArray) (fun pre (x : Int × EntD) => pre.length < l.length ∧ x.2 = zG l (l.length - 1 - pre.length)) (fun xs => xs.length = l.length) [Res.row sb 57 [v], vE v l] := by
  intro ly J Jx L0 w Y hJ hin
  refine xZ (args := [.func (.yield ly) #[] #[], pt sb]) Tryz.func158 rfl Tryz.ntmps158 rfl (show Own w (y8 ([Res.row sb 57 [v], vE v l] ++ L0)) (Res.row sb 57 [v] :: vE v l :: L0) w from hin) ?_
  refine zB (zM 0 (v := v) rfl rfl rfl rfl (zq (pV 1 rfl) rfl rfl (kE rfl rfl (zy (by omega)) rfl (zK rfl (zA (zc ?_))))))
  refine kY (fun (k : Nat) (pre : List (Int × EntD)) (Lr : List Res) => [(0, .func (.yield ly) #[] #[]), (1, pt sb), (3, Vi (((k : Nat) : Int) - 1))]) (fun (k : Nat) (pre : List (Int × EntD)) (Lr : List Res) => (k ≤ l.length ∧ pre.length + k = l.length) ∧ J pre Lr) (fun (k : Nat) (pre : List (Int × EntD)) (Lr : List Res) => (Res.row sb 57 [v] :: vE v l :: Lr)) (fun (k : Nat) (pre : List (Int × EntD)) (Lr : List Res) => k) (fun w' hw => ⟨l.length, [], L0, ⟨rfl, rfl, rfl, trivial⟩, ⟨⟨Nat.le_refl _, by simp⟩, hJ⟩, hw⟩) (fun k pre Lr g hΦ => ?_)
  have hk := hΦ.1
  have hJk := hΦ.2
  refine zQ (zB (zD rfl (kK rfl rfl rfl (zA (zf rfl (fun c1 => ?_) (fun c1 => ?_))))))
  ·
   refine zR (zQ (zc (zCn ?_)))
   refine x7 rfl (zU) ?_
   refine x7 rfl (zU) ?_
   refine x7 rfl (zb 0 (v := v) rfl rfl rfl) ?_
   refine x7 rfl (zU) ?_
   refine x7 rfl (zAZ (pV 1 rfl) 5 (k - 1) rfl rfl (by omega) (by omega)) ?_
   refine x7 rfl (zJa (pV 1 rfl) 5 (k - 1) (off := xF v + (k - 1) * 5) (fun _ => rfl) rfl rfl (by omega)) ?_
   refine zHe [Res.row sb 57 [v], vE v l] (((k : Nat) : Int) - 1, zG l (k - 1)) Y rfl rfl rfl hJk ⟨by omega, by show zG l (k - 1) = zG l _; congr 1; omega⟩ rfl (fun rLy1_ Ly1_ hJLy1_ => ?_)
   refine x7 rfl (zBG (b := rLy1_) rfl) ?_
   refine zGL ?_
   refine ja rfl (fun c2 => ?_) (fun c2 => ?_)
   ·
    exact zY (yM rfl (fun w' hw => ⟨false, pre ++ [(((k : Nat) : Int) - 1, zG l (k - 1))], Ly1_, (by have e : rLy1_ = false := (by simpa using c2); have h := hJLy1_; rwa [if_neg (by rw [e]; simp)] at h), hw⟩))
   ·
    refine zR (zW (zD rfl (kE rfl rfl (zy (by omega)) rfl (zK rfl ?_))))
    exact zj (fun w' hw => ⟨k - 1, pre ++ [(((k : Nat) : Int) - 1, zG l (k - 1))], Ly1_, ⟨rfl, rfl, (by show Value.int .i64 _ = Value.int .i64 _; congr 1; omega), trivial⟩, ⟨⟨by omega, by simp; omega⟩, (by have e : rLy1_ = true := (by simpa using c2); have h := hJLy1_; rwa [if_pos e] at h)⟩, hw, (by omega)⟩)
  ·
   exact kf rfl (yM rfl (fun w' hw => ⟨true, pre, Lr, ⟨by omega, hJk⟩, hw⟩))
theorem zJN {S : List Nat} (v : Value) (l : List EntD) (w : World) (hin : Own w S [vE v l] w) : Rets Tryz.prog 117 #[v] w fun u_ w' => ∃ (b : Nat), u_ = .func (.func 158) #[] #[pt b] ∧ Own w S [vE v l, Res.row b 57 [v]] w' := by
  refine zT Tryz.func117 rfl Tryz.ntmps117 hin ?_
  refine zB ?_
  refine zg (fun w' hw => Own.cell1Vec (i := 0) rfl hw) (fun hc1_ => ?_)
  refine zEK rfl hc1_ rfl (fun b1 => zK rfl (zA (zB (zAs (va := []) (vb := [pt b1]) rfl rfl rfl (zK rfl (zA ?_))))))
  exact zY (yD (v := .func (.func 158) #[] #[pt b1]) rfl rfl (fun w' hw => ⟨b1, rfl, hw⟩))
theorem zDg (c : ConfD) (w : World) (hv : c.vs.length ≤ 10000000) (hl : c.ls.length ≤ 10000000) (rd_c : ConfD.rd c w []) : Rets Tryz.prog 68 #[.agg (ConfD.cells c).toArray] w fun u_ w' => ∃ (cv cw : Value), u_ = .agg #[cv, cw] ∧ Own w [] [vI cv c.vs, vI cw c.ls] w' := by
  refine zT Tryz.func68 rfl Tryz.ntmps68 (Own.start w) ?_
  refine zB (z7 rfl rfl (fun b1 => yS (v := .agg #[.slice none 0 0, .slice none 0 0]) (by kernel_rfl) rfl (fun b2 => zA (zQ (zk [0] rfl (by decide) (by kernel_rfl) (fun w' hw hS => zC 0 rfl (zI (o := 0) rfl) hS (zC 1 rfl (zb 0 (v := c.vv) rfl rfl rfl) hS (zC 3 rfl (zI (o := 1) rfl) hS (zC 4 rfl (zb 0 (v := c.lv) rfl rfl rfl) hS (zN 2 rfl hw (zH rfl rfl (fun w' hw => (zFA c.vv c.vs w' (by first | assumption | omega | (simp <;> omega) | (constructor <;> (first | omega | (simp only [zd]; omega) | (simp <;> omega)))) (hw.rd0 rd_c.vv)).mono ?_))))))))))))
  rintro r1_ w1 ⟨_, rfl, hO⟩
  refine (?_ : CL _ _ _ _ _ _ (Own w [] [Res.row b1 35 (ConfD.cells c), Res.row b2 35 [.slice none 0 0, .slice none 0 0], vI r1_ c.vs])) w1 (hw.frame0 hO)
  refine zE [0] rfl (by decide) (fun w' hw hS => zN 5 rfl hw (zH rfl rfl (fun w' hw => (zFA c.lv c.ls w' (by first | assumption | omega | (simp <;> omega) | (constructor <;> (first | omega | (simp only [zd]; omega) | (simp <;> omega)))) (hw.rd0 rd_c.lv)).mono ?_)))
  rintro r2_ w1 ⟨_, rfl, hO⟩
  refine (?_ : CL _ _ _ _ _ _ (Own w [] [Res.row b1 35 (ConfD.cells c), Res.row b2 35 [.slice none 0 0, .slice none 0 0], vI r1_ c.vs, vI r2_ c.ls])) w1 (hw.frame0 hO)
  refine zE [0] rfl (by decide) (fun w' hw hS => zN 6 rfl hw ?_)
  refine zg (fun w' hw => Own.cell1Vec (i := 2) rfl hw) (fun hc3_ => ?_)
  refine zg (fun w' hw => Own.cell1Vec (i := 3) rfl hw) (fun hc4_ => ?_)
  refine zCW (cs := [r1_, r2_]) (z := [.slice none 0 0, .slice none 0 0]) (pl := [(0, 1), (1, 1)]) (by kernel_rfl) ⟨hc3_, hc4_, trivial⟩ (by kernel_rfl) rfl (zE [0] rfl (by decide) (fun w' hw hS => zN 7 rfl hw (yH 1 rfl rfl rfl (zF hc3_ (zF hc4_ zw)) rfl (zE [0] rfl (by decide) (fun w' hw hS => zX ?_)))))
  refine (?_ : C _ _ _ _ _ _ _ (Own w [] [Res.row b1 35 (ConfD.cells c), Res.row b2 35 [r1_, r2_], vI r1_ c.vs, vI r2_ c.ls])) _ hw
  exact zY (jt (cs := [r1_, r2_]) rfl rfl (by kernel_rfl) (Own.rowCells (i := 1) rfl) (fun w' hw => ⟨r1_, r2_, rfl, hw.sel [2, 3] rfl (by decide)⟩))
theorem zGO {es rs : List EntD} {e : Int} (hl : es.length ≤ 1000000) (hf : (LG 0 0 es).fromE (0 + 1) 1073741824 = (rs.map EntD.toEntA, e)) : rs.map EntD.toEntA = es.map EntD.toEntA := by
  rw [LG.fromE_eq, if_neg (by omega), if_neg (by omega), if_neg (by omega)] at hf
  have e1 := congrArg Prod.fst hf
  have e1 : ((es.map EntD.toEntA).drop (0 + 1 - 0 - 1)).take (1073741824 : Int).toNat = rs.map EntD.toEntA := e1
  rw [← e1, List.drop_zero, List.take_of_length_le (by simp; omega)]
theorem zH0 {rs : List EntD} {j : Nat} (h : j < rs.length) : zG (rs.map EntD.toEntA) j = (zG rs j).toEntA := xR (by rw [List.getElem?_map, xB h]; rfl)
theorem zKv {rs : List EntD} {upto : Nat} {pre : List (Int × EntD)} {x : Int × EntD} (hJ : ∀ j, j < pre.length → zBD upto (zG rs (rs.length - 1 - j)).toEntA = false) (hQ : pre.length < rs.length ∧ x.2 = zG rs (rs.length - 1 - pre.length)) (h : ¬ (x.2.kind = 3 ∧ x.2.index ≤ upto)) : ∀ j, j < (pre ++ [x]).length → zBD upto (zG rs (rs.length - 1 - j)).toEntA = false := by
  intro j hj
  by_cases hj2 : j < pre.length
  · exact hJ j hj2
  · rw [show j = pre.length by simp at hj; omega, ← hQ.2]
    exact decide_eq_false h
theorem zIh {vs0 : List Int} {rs : List EntD} {upto : Nat} {pre : List (Int × EntD)} {x : Int × EntD} {F : ConfA} {e : Int} (hJ : ∀ j, j < pre.length → zBD upto (zG rs (rs.length - 1 - j)).toEntA = false) (hQ : pre.length < rs.length ∧ x.2 = zG rs (rs.length - 1 - pre.length)) (h : x.2.kind = 3 ∧ x.2.index ≤ upto) (hv : ValPost (x0 x.2.data) F ⟨[], []⟩ e) : (F, x.2.index) = kI vs0 (rs.map EntD.toEntA) upto := by
  unfold kI
  rw [zF6 (m := pre.length) (by simpa using hQ.1) (fun j hj => by rw [List.length_map, zH0 (by omega)]; exact hJ j hj) (by rw [List.length_map, zH0 (by omega), ← hQ.2]; exact decide_eq_true h)]
  rw [List.length_map, zH0 (by omega), ← hQ.2]
  show (F, x.2.index) = ((x0 x.2.data).getD ⟨[], []⟩, x.2.index)
  rcases hv with ⟨_, hv⟩ | ⟨_, hv, rfl⟩ <;> rw [hv] <;> rfl
theorem zIS {vs0 : List Int} {rs : List EntD} {upto n : Nat} (hn : n = rs.length) (hJ : ∀ j, j < n → zBD upto (zG rs (rs.length - 1 - j)).toEntA = false) : ((⟨vs0, []⟩ : ConfA), 0) = kI vs0 (rs.map EntD.toEntA) upto := by
  unfold kI
  rw [zFY (fun j hj => by rw [List.length_map] at hj ⊢; rw [zH0 (by omega)]; exact hJ j (by omega))]
theorem zEE {S : List Nat} (cb jb : Nat) (t : TimD) (a : StA) (r : RolD) (b : StB) (lead yv out : Value) (draw : Nat) (lv : Value) (es : List EntD) (upto : Nat) (w : World) (hg : (LG 0 0 es).good) (hl : es.length ≤ 1000000) (hvl : b.vs.length ≤ 1000) (hin : Own w S [ze cb t lead a r b yv jb draw out, Res.nl b lv es] w) : Rets Tryz.prog 73 #[pt cb, Vn upto] w fun u_ w' => ∃ (cv cw : Value) (F : ConfA) (I : Nat), u_ = .tuple #[.agg #[cv, cw], Vn I] ∧ (F, I) = kI b.vs (es.map EntD.toEntA) upto ∧ Own w S [ze cb t lead a r b yv jb draw out, Res.nl b lv es, vI cv F.vs, vI cw F.ls] w' := by
  refine zFg (args := [pt cb, Vn upto]) (A := Own w S [ze cb t lead a r b yv jb draw out, Res.nl b lv es]) Tryz.func73 rfl Tryz.ntmps73 rfl hin ?_
  refine zW (z7 rfl rfl (fun b3 => yS (v := .agg #[.slice none 0 0, .slice none 0 0]) (by kernel_rfl) rfl (fun b4 => yS (v := Vn 0) (by kernel_rfl) rfl (fun b5 => zj (fun w1 hw => ?_)))))
  refine (?_ : C _ _ _ _ _ _ _ (Own w S [ze cb t lead a r b yv jb draw out, Res.nl b lv es, Res.row b3 22 [Vn upto], Res.row b4 35 [.slice none 0 0, .slice none 0 0], Res.row b5 22 [Vn 0]])) w1 hw
  refine zk [0, 1, 2, 3, 4] rfl (by decide) (by kernel_rfl) (fun w' hw hS => zC 0 rfl (zU) hS (zC 1 rfl (zP rfl) hS (zC 2 rfl (zI (o := 29) rfl) hS (zC 3 rfl (zb 0 (v := pt b.lb) rfl rfl rfl) hS (zC 4 rfl (zU) hS (zC 5 rfl (zP rfl) hS (zC 6 rfl (zI (o := 24) rfl) hS (zC 7 rfl (zI (o := 0) rfl) hS (zC 8 rfl (zb 0 (v := Vn 0) rfl rfl rfl) hS (zC 9 rfl (yw rfl rfl (y6 (by omega))) hS (zN 10 rfl hw (zH rfl rfl (fun w' hw => ?_)))))))))))))
  refine (zGG b.lb 0 0 lv es (0 + 1) 1073741824 w' (by first | omega | (simp <;> omega)) ‹_› (hw.part0 1 0 rfl rfl) (hw.partSl0 1 1 rfl rfl) (EntD.rd.part0 1 2 rfl rfl hw)).mono ?_
  rintro _ w1 ⟨r1_, rs2_, e3_, rfl, hf1_10, hO⟩
  have hrs := zGO hl hf1_10
  have hrl : rs2_.length = es.length := (by simpa using congrArg List.length hrs)
  refine (?_ : CL _ _ _ _ _ _ (Own w S [ze cb t lead a r b yv jb draw out, Res.nl b lv es, Res.row b3 22 [Vn upto], Res.row b4 35 [.slice none 0 0, .slice none 0 0], Res.row b5 22 [Vn 0], vE r1_ rs2_, sE rs2_])) w1 (hw.frame0 hO)
  refine zE [0, 1, 2, 3, 4] rfl (by decide) (fun w' hw hS => zC 11 rfl (zU) hS (zC 12 rfl (yx (vs := [r1_, Vi e3_]) rfl rfl) hS (zC 13 rfl (yx (vs := [r1_, Vi e3_]) rfl rfl) hS (zC 14 rfl (ya) hS (zC 15 rfl (ya) hS (zX ?_))))))
  skip
  refine (?_ : C _ _ _ _ _ _ _ (Own w S [ze cb t lead a r b yv jb draw out, Res.nl b lv es, Res.row b3 22 [Vn upto], Res.row b4 35 [.slice none 0 0, .slice none 0 0], Res.row b5 22 [Vn 0], vE r1_ rs2_, sE rs2_])) w' hw
  refine zW (zD rfl (zH rfl rfl (fun w' hw => (zJN r1_ rs2_ w' (hw.give [5] rfl (by decide))).mono ?_)))
  rintro _ w1 ⟨b4_, rfl, hO⟩
  refine (?_ : CL _ _ _ _ _ _ (Own w S [ze cb t lead a r b yv jb draw out, Res.nl b lv es, Res.row b3 22 [Vn upto], Res.row b4 35 [.slice none 0 0, .slice none 0 0], Res.row b5 22 [Vn 0], sE rs2_, vE r1_ rs2_, Res.row b4_ 57 [r1_]])) w1 (hw.frameL [5] rfl hO)
  refine zj (fun w1 hw => ?_)
  refine zGe (e1 := fun x : Int × EntD => Value.int .i64 x.1) (e2 := fun x : Int × EntD => Value.agg (EntD.cells x.2).toArray) (Q := fun pre (x : Int × EntD) => pre.length < rs2_.length ∧ x.2 = zG rs2_ (rs2_.length - 1 - pre.length)) (Sx := fun xs => xs.length = rs2_.length) (Ls := [Res.row b4_ 57 [r1_], vE r1_ rs2_]) (Lu := [ze cb t lead a r b yv jb draw out, Res.nl b lv es, Res.row b3 22 [Vn upto], Res.row b4 35 [.slice none 0 0, .slice none 0 0], Res.row b5 22 [Vn 0], sE rs2_]) (Ju := fun pre L => L = [ze cb t lead a r b yv jb draw out, Res.nl b lv es, Res.row b3 22 [Vn upto], Res.row b4 35 [.slice none 0 0, .slice none 0 0], Res.row b5 22 [Vn 0], sE rs2_] ∧ (∀ j, j < pre.length → zBD upto (zG rs2_ (rs2_.length - 1 - j)).toEntA = false)) (Jx := fun pre L => ∃ (cv cw : Value) (F : ConfA) (i : Nat), L = [ze cb t lead a r b yv jb draw out, Res.row b4 35 [cv, cw], Res.row b5 22 [Vn i], Res.nl b lv es, vI cv F.vs, vI cw F.ls] ∧ (F, i) = kI b.vs (es.map EntD.toEntA) upto) (Mid := fun pre x f' L => ∃ b9 : Nat, Agr f' [(3, pt b3), (4, pt b4), (5, pt b5), (9, pt b9)] ∧ L = [ze cb t lead a r b yv jb draw out, Res.nl b lv es, Res.row b3 22 [Vn upto], Res.row b4 35 [.slice none 0 0, .slice none 0 0], Res.row b5 22 [Vn 0], sE rs2_, Res.row b9 81 (EntD.cells x.2)] ∧ (∀ j, j < pre.length → zBD upto (zG rs2_ (rs2_.length - 1 - j)).toEntA = false)) rfl (by kernel_rfl) (zF5 _ _ _ (by simp only [zd]; omega)) ⟨rfl, (fun j h => by cases h)⟩ (hw.sel [7, 6, 0, 1, 2, 3, 4, 5] rfl (by decide)) rfl rfl rfl ?_ ?_ ?_ ?_
  ·
   rintro pre x L w ⟨rfl, hJ⟩ hQ
   have hxm : x.2 ∈ rs2_ := by rw [hQ.2]; exact zl (by omega)
   have hxa : x.2.toEntA ∈ es.map EntD.toEntA := hrs ▸ List.mem_map_of_mem hxm
   have hxl : x.2.data.length ≤ 4096 := (folA.ok hg.fol _ hxa).1.2.2.2
   refine yS (v := .agg #[Vn 0, Vn 0, Vi 0, Vi 0, .slice none 0 0]) (by kernel_rfl) rfl (fun b9 => ?_)
   refine zg (fun w' hw => Sl.cell1 (Rd.φ ((EntD.rd.star0 5 rfl hw _ hxm).dv))) (fun hc1_ => ?_)
   refine yH 6 rfl rfl rfl (zF rfl (zF rfl (zF rfl (zF rfl (zF hc1_ zw))))) rfl ?_
   exact zj (fun w' hw => ⟨_, ⟨b9, ⟨rfl, rfl, rfl, rfl, trivial⟩, rfl, hJ⟩, hw⟩)
  ·
   rintro l pre x f' L w ⟨b9, hA, rfl, hJ⟩ hQ hw
   rw [← jy hA]
   have hxm : x.2 ∈ rs2_ := by rw [hQ.2]; exact zl (by omega)
   have hxa : x.2.toEntA ∈ es.map EntD.toEntA := hrs ▸ List.mem_map_of_mem hxm
   have hxl : x.2.data.length ≤ 4096 := (folA.ok hg.fol _ hxa).1.2.2.2
   refine zGy rfl ((?_ : CL _ _ _ _ _ _ (Own w (y8 [ze cb t lead a r b yv jb draw out, Res.nl b lv es, Res.row b3 22 [Vn upto], Res.row b4 35 [.slice none 0 0, .slice none 0 0], Res.row b5 22 [Vn 0], sE rs2_, Res.row b9 81 (EntD.cells x.2)]) [ze cb t lead a r b yv jb draw out, Res.nl b lv es, Res.row b3 22 [Vn upto], Res.row b4 35 [.slice none 0 0, .slice none 0 0], Res.row b5 22 [Vn 0], sE rs2_, Res.row b9 81 (EntD.cells x.2)])) w hw)
   refine zJ (o := 2) rfl rfl (zM 6 (v := Vi x.2.kind) rfl rfl rfl rfl (yZ rfl rfl rfl (zD rfl (yd (q := x.2.kind = 3) 4 3 [37, 36, 35, 34] (((x.2.index : Nat) : Int) ≤ ((upto : Nat) : Int)) rfl rfl rfl rfl rfl rfl trivial rfl (fun h4_3 => ?_) (fun g4_8 => ?_)))))
   ·
    refine zO rfl (gT h4_3) (zJ (o := 0) rfl rfl (zO rfl (gT h4_3) (zM 6 (v := Vn x.2.index) rfl rfl rfl rfl (zO rfl (gT h4_3) (zM 2 (v := Vn upto) rfl rfl rfl rfl (zO rfl (gT h4_3) (x4 rfl rfl rfl ?_)))))))
    exact yK rfl (fun _ hw => hw)
   refine zj (fun w1 hw => zJR rfl (fun c1 => ?_) (fun c1 => ?_))
   ·
    refine zGy rfl ((?_ : CL _ _ _ _ _ _ (Own w (y8 [ze cb t lead a r b yv jb draw out, Res.nl b lv es, Res.row b3 22 [Vn upto], Res.row b4 35 [.slice none 0 0, .slice none 0 0], Res.row b5 22 [Vn 0], sE rs2_, Res.row b9 81 (EntD.cells x.2)]) [ze cb t lead a r b yv jb draw out, Res.nl b lv es, Res.row b3 22 [Vn upto], Res.row b4 35 [.slice none 0 0, .slice none 0 0], Res.row b5 22 [Vn 0], sE rs2_, Res.row b9 81 (EntD.cells x.2)])) w1 hw)
    refine zJ (o := 4) rfl rfl (zM 6 (v := x.2.dv) rfl rfl rfl rfl (zH rfl rfl (fun w' hw => (zDI x.2.dv x.2.data w' (by first | assumption | omega | (simp <;> omega) | (constructor <;> (first | omega | (simp only [zd]; omega) | (simp <;> omega)))) ((EntD.rd.star0 5 rfl hw _ hxm).dv)).mono ?_)))
    rintro _ w1 ⟨r15_, l16_, r27_, l28_, e9_, rfl, hf5_2, hf5_2_1, hf5_2_2, hO⟩
    refine (?_ : CL _ _ _ _ _ _ (Own w (y8 [ze cb t lead a r b yv jb draw out, Res.nl b lv es, Res.row b3 22 [Vn upto], Res.row b4 35 [.slice none 0 0, .slice none 0 0], Res.row b5 22 [Vn 0], sE rs2_, Res.row b9 81 (EntD.cells x.2)]) [ze cb t lead a r b yv jb draw out, Res.nl b lv es, Res.row b3 22 [Vn upto], Res.row b4 35 [.slice none 0 0, .slice none 0 0], Res.row b5 22 [Vn 0], sE rs2_, Res.row b9 81 (EntD.cells x.2), vI r15_ l16_, vI r27_ l28_])) w1 (hw.frame0 hO)
    refine zD rfl (yE (vs := [.agg #[r15_, r27_], Vi e9_]) rfl rfl rfl (yE (vs := [.agg #[r15_, r27_], Vi e9_]) rfl rfl rfl (yS (v := .agg #[.slice none 0 0, .slice none 0 0]) (by kernel_rfl) rfl (fun b10 => ?_))))
    refine zg (fun w' hw => Own.cell1Vec (i := 7) rfl hw) (fun hc2_ => ?_)
    refine zg (fun w' hw => Own.cell1Vec (i := 8) rfl hw) (fun hc3_ => ?_)
    refine yH 9 rfl rfl rfl (zF hc2_ (zF hc3_ zw)) rfl (zK rfl (zj (fun w2 hw => zHz [0, 2, 6, 7, 8, 9] rfl (by decide) rfl (by kernel_rfl) (fun w' hw hS => ?_) hw)))
    refine zC 0 rfl (xp (cs := [r15_, r27_]) 5 rfl rfl) hS (zC 1 rfl (zI (o := 0) rfl) hS (zC 2 rfl (zb 2 (v := Vn x.2.index) rfl rfl rfl) hS (zN 3 rfl hw (yH 3 rfl rfl rfl (zF hc2_ (zF hc3_ zw)) rfl (zE [0, 2, 6, 7, 8, 9] rfl (by decide) (fun w' hw hS => zN 4 rfl hw (zo (cs := [Vn 0]) 4 rfl rfl rfl rfl rfl (zE [0, 2, 6, 7, 8, 9] rfl (by decide) (fun w' hw hS => zX ?_)))))))))
    exact zJJ ⟨_, ⟨r15_, r27_, (⟨l16_, l28_⟩ : ConfA), x.2.index, rfl, hrs ▸ zIh hJ hQ ⟨c1.1, by omega⟩ hf5_2⟩, hw.sel [0, 3, 4, 1, 7, 8] rfl (by decide)⟩
   ·
    exact zH4 ⟨_, ⟨rfl, zKv hJ hQ (fun q => c1 ⟨q.1, by omega⟩)⟩, hw.sel [0, 1, 2, 3, 4, 5] rfl (by decide)⟩
  ·
   rintro xs L' D w1 hS ⟨rfl, hJ⟩ hO a_ ha_
   refine zIK rfl (by kernel_rfl) rfl ?_ hO a_ ha_
   refine zD rfl (zh rfl rfl (zJ (o := 24) rfl rfl (zJ (o := 2) rfl rfl (zAO 3 [b.vv, b.wv] rfl rfl (kW 26 rfl) (by kernel_rfl) rfl (zH rfl rfl (fun w' hw => (zDg ({ vv := b.vv, vs := b.vs, lv := b.wv, ls := [] } : ConfD) w' (by first | assumption | omega | (simp <;> omega) | (constructor <;> (first | omega | (simp only [zd]; omega) | (simp <;> omega)))) (by first | assumption | omega | (simp <;> omega) | (constructor <;> (first | omega | (simp only [zd]; omega) | (simp <;> omega)))) ⟨(hw.partSl0 4 3 rfl rfl), (hw.partSl0 4 4 rfl rfl)⟩).mono ?_))))))
   rintro _ w1 ⟨cv10_, cw11_, rfl, hO⟩
   refine (?_ : CL _ _ _ _ _ _ (Own w S [(Res.obj D (.deferred (some []))), Res.row b4_ 57 [r1_], vE r1_ rs2_, ze cb t lead a r b yv jb draw out, Res.nl b lv es, Res.row b3 22 [Vn upto], Res.row b4 35 [.slice none 0 0, .slice none 0 0], Res.row b5 22 [Vn 0], sE rs2_, vI cv10_ (({ vv := b.vv, vs := b.vs, lv := b.wv, ls := [] } : ConfD).vs), vI cw11_ (({ vv := b.vv, vs := b.vs, lv := b.wv, ls := [] } : ConfD).ls)])) w1 (hw.frame0 hO)
   refine zg (fun w' hw => Own.cell1Vec (i := 9) rfl hw) (fun hc4_ => ?_)
   refine zg (fun w' hw => Own.cell1Vec (i := 10) rfl hw) (fun hc5_ => ?_)
   refine yH 6 rfl rfl rfl (zF hc4_ (zF hc5_ zw)) rfl (zo (cs := [Vn 0]) 7 rfl rfl rfl rfl rfl ?_)
   exact zj (fun w' hw => ⟨_, [cv10_, cw11_], Vn 0, b4, b5, 5, 6, ⟨rfl, rfl⟩, ⟨by rfl, by rfl⟩, by kernel_rfl, hw, fun w'' hO2 => ⟨cv10_, cw11_, (⟨b.vs, []⟩ : ConfA), 0, rfl, hrs ▸ zIS hS hJ, hO2.sel [2, 3, 8, 9] rfl (by decide)⟩⟩)
  ·
   rintro xs L' D w1 ⟨cv, cw, F, i, rfl, hX⟩ hO
   exact zHi (cs := [cv, cw]) (v := Vn i) (j4 := 3) (j5 := 4) rfl (by kernel_rfl) rfl rfl rfl rfl (by kernel_rfl) hO (fun w'' hO2 => ⟨cv, cw, F, i, rfl, hX, hO2.sel [2, 5, 6, 7] rfl (by decide)⟩)
end Go.Proofs.YtkkeknmkipkbmaaGreat
