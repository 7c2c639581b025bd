import Derived.Test.YtkkeknmkipkbmaaGreatCoC
set_option linter.unusedSectionVars false
set_option linter.unusedSimpArgs false
set_option linter.unusedVariables false
set_option maxRecDepth 10000
namespace Go.Proofs.YtkkeknmkipkbmaaGreat
open Go Go.Sc Go.Proofs
def za (vs : List Int) (l : List EntA) : ConfA := (kI vs l l.length).1
def ConfA.quorum (c : ConfA) (ids : List Int) : Prop := c.ok ∧ c.vs.length < 2 * cnt c.vs ids
instance (c : ConfA) (ids : List Int) : Decidable (c.quorum ids) := inferInstanceAs (Decidable (_ ∧ _))
theorem zFl {l : List Int} (h : Rises l) : l.length ≤ 16 := by
  have key : ∀ (l : List Int) (a : Int), (a :: l).Pairwise (· < ·) → (∀ x ∈ l, x ≤ 16) → a ≤ 16 → (l.length : Int) ≤ 16 - a := by
    intro l
    induction l with
    | nil => intro a _ _ h; simp; omega
    | cons b l ih =>
      intro a h1 h2 h3
      have h4 := List.pairwise_cons.1 h1
      have h5 := ih b h4.2 (fun x hx => h2 x (List.mem_cons_of_mem _ hx)) (h2 b (by simp))
      have h6 := h4.1 b (by simp)
      rw [List.length_cons]; omega
  have := key l 0 h.1 h.2 (by omega)
  omega
theorem zIP {α : Type} [Inhabited α] {l : List α} {P : α → Prop} {k : Nat} (hk : l.length ≤ k) (h : ∀ j, j < k → P (zG l j)) : ∀ p ∈ l, P p := fun p hp => by
  obtain ⟨i, hi⟩ := List.mem_iff_getElem?.1 hp
  have := h i (by have := (List.getElem?_eq_some_iff.1 hi).1; omega)
  rwa [xR hi] at this
theorem zDR {P : Nat → Prop} {k : Nat} (h : ∀ j, j < k → P j) (hk : P k) : ∀ j, j < k + 1 → P j := fun j hj => by
  by_cases e : j = k
  · rw [e]; exact hk
  · exact h j (by omega)
theorem yi {vs : List Int} {l : List EntA} {upto : Nat} (h : vs.length ≤ 1000) : (kI vs l upto).1.vs.length ≤ 1000 ∧ (kI vs l upto).1.ls.length ≤ 1000 := by
  have hd : ∀ b : List UInt8, ((x0 b).getD ⟨[], []⟩).vs.length ≤ 1000 ∧ ((x0 b).getD ⟨[], []⟩).ls.length ≤ 1000 := fun b => by
    cases hq : x0 b with
    | none => simp
    | some F =>
      have h1 : F.ok := by
        unfold x0 zAk at hq
        cases h2 : zHc b 0 with
        | none => rw [h2] at hq; simp at hq
        | some q =>
          rw [h2] at hq
          simp only [Option.bind_some] at hq
          split at hq
          · rename_i h3; cases hq; exact h3.2
          · cases hq
      have hs : ∀ l : List Int, Rises l → l.length ≤ 16 := fun l hr => zFl hr
      have := hs _ h1.1.1.1; have := hs _ h1.1.1.2
      simp only [Option.getD_some]; omega
  unfold kI
  split
  · exact hd _
  · exact ⟨h, by simp⟩
theorem xW {S : List Nat} (cb jb : Nat) (t : TimD) (a : StA) (r : RolD) (b : StB) (lead yv out : Value) (draw : Nat) (lv : Value) (es : List EntD) (w : World) (hg : (LG 0 0 es).good) (hl : es.length ≤ 1000000) (hvl : b.vs.length ≤ 1000) (hin : Own w S [ze cb t lead a r b yv jb draw out, Res.nl b lv es] w) : Rets Tryz.prog 36 #[pt cb] w fun u_ w' => ∃ (cv cw : Value) (F : ConfA), u_ = .agg #[cv, cw] ∧ F = za b.vs (es.map EntD.toEntA) ∧ Own w S [ze cb t lead a r b yv jb draw out, Res.nl b lv es, vI cv F.vs, vI cw F.ls] w' := by
  have hb := (LG.le hg).1
  refine zT Tryz.func36 rfl Tryz.ntmps36 hin ?_
  refine zB (yS (v := .agg #[.slice none 0 0, .slice none 0 0]) (by kernel_rfl) rfl (fun b2 => zA (zB (zD rfl (zh rfl rfl (zJ (o := 29) rfl rfl (zM 0 (v := pt b.lb) rfl rfl rfl rfl (zH rfl rfl (fun w' hw => (kQ b.lb 0 0 lv es w' (by first | assumption | omega | (simp <;> omega) | (constructor <;> (first | omega | (simp only [zd]; omega) | (simp <;> omega)))) (by first | omega | (simp <;> omega)) (hw.part0 1 0 rfl rfl) (hw.partSl0 1 1 rfl rfl) (EntD.rd.part0 1 2 rfl rfl hw)).mono ?_)))))))))
  rintro _ w1 ⟨rfl, hO⟩
  refine (?_ : CL _ _ _ _ _ _ (Own w S [ze cb t lead a r b yv jb draw out, Res.nl b lv es, Res.row b2 35 [.slice none 0 0, .slice none 0 0]])) w1 (hw.frame0 hO)
  refine zD rfl (yE (vs := [Vn (0 + es.length), Vn ((LG 0 0 es).end_)]) rfl rfl rfl (yE (vs := [Vn (0 + es.length), Vn ((LG 0 0 es).end_)]) rfl rfl rfl (zK rfl (zK rfl (zA (zB (zD rfl (zD rfl (zH rfl rfl (fun w' hw => (zEE cb jb t a r b lead yv out draw _ _ (0 + es.length) w' ‹_› (by first | omega | (simp <;> omega)) (by first | omega | (simp <;> omega)) (hw.give [0, 1] rfl (by decide))).mono ?_))))))))))
  rintro _ w1 ⟨cv1_, cw2_, F3_, I4_, rfl, hf2_2, hO⟩
  refine (?_ : CL _ _ _ _ _ _ (Own w S [Res.row b2 35 [.slice none 0 0, .slice none 0 0], ze cb t lead a r b yv jb draw out, Res.nl b lv es, vI cv1_ F3_.vs, vI cw2_ F3_.ls])) w1 (hw.frameL [0, 1] rfl hO)
  refine zD rfl (yE (vs := [.agg #[cv1_, cw2_], Vn I4_]) rfl rfl rfl (yE (vs := [.agg #[cv1_, cw2_], Vn I4_]) rfl rfl rfl (yS (v := .agg #[.slice none 0 0, .slice none 0 0]) (by kernel_rfl) rfl (fun b5 => ?_))))
  refine zg (fun w' hw => Own.cell1Vec (i := 3) rfl hw) (fun hc1_ => ?_)
  refine zg (fun w' hw => Own.cell1Vec (i := 4) rfl hw) (fun hc2_ => ?_)
  refine yH 5 rfl rfl rfl (zF hc1_ (zF hc2_ zw)) rfl (zK rfl (zA (zB (yY (cs := [cv1_, cw2_]) 5 rfl rfl rfl (yH 0 rfl rfl rfl (zF hc1_ (zF hc2_ zw)) rfl (zA ?_))))))
  exact zY (jt (cs := [cv1_, cw2_]) rfl rfl (by kernel_rfl) (Own.rowCells (i := 0) rfl) (fun w' hw => ⟨cv1_, cw2_, F3_, rfl, (by have h := congrArg Prod.fst hf2_2; rw [Nat.zero_add] at h; unfold za; rw [List.length_map]; exact h), hw.sel [1, 2, 3, 4] rfl (by decide)⟩))
theorem j8 {S : List Nat} (cb jb : Nat) (t : TimD) (a : StA) (r : RolD) (b : StB) (lead yv out : Value) (draw : Nat) (lv : Value) (es : List EntD) (w : World) (hg : (LG 0 0 es).good) (hl : es.length ≤ 1000000) (hvl : b.vs.length ≤ 1000) (hin : Own w S [ze cb t lead a r b yv jb draw out, Res.nl b lv es] w) : Rets Tryz.prog 45 #[pt cb] w fun u_ w' => u_ = .bool (decide ((za b.vs (es.map EntD.toEntA)).quorum [a.id])) ∧ Own w S [ze cb t lead a r b yv jb draw out, Res.nl b lv es] w' := by
  refine zT Tryz.func45 rfl Tryz.ntmps45 hin ?_
  refine zB (zK rfl (zA (zQ (zk [0, 1] rfl (by decide) (by kernel_rfl) (fun w' hw hS => zC 0 rfl (zU) hS (zC 2 rfl (zU) hS (zC 3 rfl (zP rfl) hS (zC 4 rfl (zI (o := 10) rfl) hS (zC 5 rfl (zb 0 (v := Vi a.id) rfl rfl rfl) hS (yA 1 6 ?_ ?_))))))))))
  ·
   refine zr 1 rfl hw (zH rfl rfl (fun w' hw => (xW cb jb t a r b lead yv out draw _ _ w' ‹_› (by first | omega | (simp <;> omega)) (by first | omega | (simp <;> omega)) (hw.give [0, 1] rfl (by decide))).mono ?_))
   rintro _ w1 ⟨cv1_, cw2_, F3_, rfl, hf1_1, hO⟩
   have hFl : F3_.vs.length ≤ 1000 ∧ F3_.ls.length ≤ 1000 := by rw [hf1_1]; exact yi hvl
   refine (?_ : CL _ _ _ _ _ _ (Own w S [ze cb t lead a r b yv jb draw out, Res.nl b lv es, vI cv1_ F3_.vs, vI cw2_ F3_.ls])) w1 (hw.frameL [0, 1] rfl hO)
   refine zE [0, 1] rfl (by decide) (fun w' hw hS => zN 6 rfl hw (z4 (e := 3) (sz := 1) (vs := [Vi a.id]) (by kernel_rfl) rfl rfl (by simp [Value.cells]) (by decide) rfl (fun b9 => zE [0, 1] rfl (by decide) (fun w' hw hS => zN 7 rfl hw (zH rfl rfl (fun w' hw => (yu ({ vv := cv1_, vs := F3_.vs, lv := cw2_, ls := F3_.ls } : ConfD) (.slice (some ⟨b9, 0, none⟩) 1 1) [a.id] w' (by first | assumption | omega | (simp <;> omega) | (constructor <;> (first | omega | (simp only [zd]; omega) | (simp <;> omega)))) (by first | assumption | omega | (simp <;> omega) | (constructor <;> (first | omega | (simp only [zd]; omega) | (simp <;> omega)))) (hw.rdVec0 4 rfl) ⟨(hw.rdVec0 2 rfl), (hw.rdVec0 3 rfl)⟩).mono ?_))))))
   rintro _ w1 ⟨rfl, hO⟩
   refine (?_ : CL _ _ _ _ _ _ (Own w S [ze cb t lead a r b yv jb draw out, Res.nl b lv es, vI cv1_ F3_.vs, vI cw2_ F3_.ls, vI (.slice (some ⟨b9, 0, none⟩) 1 1) [a.id]])) w1 (hw.frame0 hO)
   refine zE [0, 1] rfl (by decide) (fun w' hw hS => zC 8 rfl (ya) hS (zX ?_))
   refine (?_ : C _ _ _ _ _ _ _ (Own w S [ze cb t lead a r b yv jb draw out, Res.nl b lv es, vI cv1_ F3_.vs, vI cw2_ F3_.ls, vI (.slice (some ⟨b9, 0, none⟩) 1 1) [a.id]])) _ hw
   exact zY (yD (v := .bool (decide (({ vv := cv1_, vs := F3_.vs, lv := cw2_, ls := F3_.ls } : ConfD).quorum [a.id]))) rfl rfl (fun w' hw => ⟨(by congr 1; exact decide_eq_decide.2 ((by rw [← hf1_1]; exact Iff.rfl))), hw.sel [0, 1] rfl (by decide)⟩))
  ·
   refine zr 6 rfl hw (z4 (e := 3) (sz := 1) (vs := [Vi a.id]) (by kernel_rfl) rfl rfl (by simp [Value.cells]) (by decide) rfl (fun b9 => zE [0, 1] rfl (by decide) (fun w' hw hS => zN 1 rfl hw (zH rfl rfl (fun w' hw => (xW cb jb t a r b lead yv out draw _ _ w' ‹_› (by first | omega | (simp <;> omega)) (by first | omega | (simp <;> omega)) (hw.give [0, 1] rfl (by decide))).mono ?_)))))
   rintro _ w1 ⟨cv4_, cw5_, F6_, rfl, hf1_1, hO⟩
   have hFl : F6_.vs.length ≤ 1000 ∧ F6_.ls.length ≤ 1000 := by rw [hf1_1]; exact yi hvl
   refine (?_ : CL _ _ _ _ _ _ (Own w S [vI (.slice (some ⟨b9, 0, none⟩) 1 1) [a.id], ze cb t lead a r b yv jb draw out, Res.nl b lv es, vI cv4_ F6_.vs, vI cw5_ F6_.ls])) w1 (hw.frameL [0, 1] rfl hO)
   refine zE [1, 2] rfl (by decide) (fun w' hw hS => zN 7 rfl hw (zH rfl rfl (fun w' hw => (yu ({ vv := cv4_, vs := F6_.vs, lv := cw5_, ls := F6_.ls } : ConfD) (.slice (some ⟨b9, 0, none⟩) 1 1) [a.id] w' (by first | assumption | omega | (simp <;> omega) | (constructor <;> (first | omega | (simp only [zd]; omega) | (simp <;> omega)))) (by first | assumption | omega | (simp <;> omega) | (constructor <;> (first | omega | (simp only [zd]; omega) | (simp <;> omega)))) (hw.rdVec0 0 rfl) ⟨(hw.rdVec0 3 rfl), (hw.rdVec0 4 rfl)⟩).mono ?_)))
   rintro _ w1 ⟨rfl, hO⟩
   refine (?_ : CL _ _ _ _ _ _ (Own w S [vI (.slice (some ⟨b9, 0, none⟩) 1 1) [a.id], ze cb t lead a r b yv jb draw out, Res.nl b lv es, vI cv4_ F6_.vs, vI cw5_ F6_.ls])) w1 (hw.frame0 hO)
   refine zE [1, 2] rfl (by decide) (fun w' hw hS => zC 8 rfl (ya) hS (zX ?_))
   refine (?_ : C _ _ _ _ _ _ _ (Own w S [vI (.slice (some ⟨b9, 0, none⟩) 1 1) [a.id], ze cb t lead a r b yv jb draw out, Res.nl b lv es, vI cv4_ F6_.vs, vI cw5_ F6_.ls])) _ hw
   exact zY (yD (v := .bool (decide (({ vv := cv4_, vs := F6_.vs, lv := cw5_, ls := F6_.ls } : ConfD).quorum [a.id]))) rfl rfl (fun w' hw => ⟨(by congr 1; exact decide_eq_decide.2 ((by rw [← hf1_1]; exact Iff.rfl))), hw.sel [1, 2] rfl (by decide)⟩))
theorem zII {S : List Nat} (cb jb : Nat) (t : TimD) (a : StA) (r : RolD) (b : StB) (lead yv out : Value) (draw : Nat) (w : World) (hin : Own w S [ze cb t lead a r b yv jb draw out] w) : Rets Tryz.prog 13 #[pt cb] w fun u_ w' => u_ = .tuple #[.agg #[Vn t.term, Vi t.vote], Vi r.role, Vi r.who, Vn r.commit] ∧ Own w S [ze cb t lead a r b yv jb draw out] w' := by
  refine zT Tryz.func13 rfl Tryz.ntmps13 hin ?_
  refine zB (yS (v := .agg #[Vn 0, Vi 0]) (by kernel_rfl) rfl (fun b2 => zK rfl (zK rfl (zK rfl (zA (zQ (zB (zD rfl (xy (by kernel_rfl) rfl rfl rfl (zA (x8 rfl (zR ?_))))))))))))
  refine zQ (zk [0] rfl (by decide) (by kernel_rfl) (fun w' hw hS => zC 0 rfl (zU) hS (zC 1 rfl (zP rfl) hS (zC 2 rfl (zI (o := 0) rfl) hS (zC 3 rfl (zDo 0 [Vn t.term, Vi t.vote] rfl rfl (kW 0 rfl) (by kernel_rfl)) hS (zC 4 rfl (zU) hS (zC 5 rfl (zP rfl) hS (zC 6 rfl (zI (o := 21) rfl) hS (zC 7 rfl (zb 0 (v := Vi r.role) rfl rfl rfl) hS (zC 8 rfl (zU) hS (zC 9 rfl (zP rfl) hS (zC 10 rfl (zI (o := 22) rfl) hS ?_))))))))))))
  refine zC 11 rfl (zb 0 (v := Vi r.who) rfl rfl rfl) hS (zC 12 rfl (zU) hS (zC 13 rfl (zP rfl) hS (zC 14 rfl (zI (o := 23) rfl) hS (zC 15 rfl (zb 0 (v := Vn r.commit) rfl rfl rfl) hS (zN 16 rfl hw (yH 1 rfl rfl rfl (xx rfl) rfl (zE [0] rfl (by decide) (fun w' hw hS => zC 17 rfl (ya) hS (zC 18 rfl (ya) hS (zC 19 rfl (ya) hS (zX ?_)))))))))))
  refine (?_ : C _ _ _ _ _ _ _ (Own w S [ze cb t lead a r b yv jb draw out, Res.row b2 32 [Vn t.term, Vi t.vote]])) _ hw
  exact zY (zKS (cs := [Vn t.term, Vi t.vote]) (v := Vi r.role) (v2 := Vi r.who) (v3 := Vn r.commit) rfl rfl rfl rfl rfl (by kernel_rfl) (Own.rowCells (i := 1) rfl) (fun w' hw => ⟨rfl, hw.sel [0] rfl (by decide)⟩))
theorem zH8 {S : List Nat} (cb jb : Nat) (t : TimD) (a : StA) (r : RolD) (b : StB) (lead yv out : Value) (draw : Nat) (lv : Value) (es : List EntD) (w : World) (hg : (LG 0 0 es).good) (hl : es.length ≤ 1000000) (hvl : b.vs.length ≤ 1000) (hcm : r.commit ≤ es.length) (hin : Own w S [ze cb t lead a r b yv jb draw out, Res.nl b lv es] w) : Rets Tryz.prog 43 #[pt cb] w fun u_ w' => u_ = .bool (decide ((LG 0 0 es).fits r.commit t.term)) ∧ Own w S [ze cb t lead a r b yv jb draw out, Res.nl b lv es] w' := by
  have hb := (LG.le hg).1
  refine zT Tryz.func43 rfl Tryz.ntmps43 hin ?_
  refine zB (zK rfl (zA (zQ (zk [0, 1] rfl (by decide) (by kernel_rfl) (fun w' hw hS => zC 0 rfl (zU) hS (zC 1 rfl (zP rfl) hS (zC 2 rfl (zI (o := 29) rfl) hS (zC 3 rfl (zb 0 (v := pt b.lb) rfl rfl rfl) hS (zC 4 rfl (zU) hS (zC 5 rfl (zP rfl) hS (zC 6 rfl (zI (o := 23) rfl) hS (zC 7 rfl (zb 0 (v := Vn r.commit) rfl rfl rfl) hS ?_))))))))))))
  refine zC 8 rfl (zU) hS (zC 9 rfl (zP rfl) hS (zC 10 rfl (zI (o := 0) rfl) hS (zC 11 rfl (zI (o := 0) rfl) hS (zC 12 rfl (zb 0 (v := Vn t.term) rfl rfl rfl) hS (zN 13 rfl hw (zH rfl rfl (fun w' hw => (zA2 b.lb 0 0 lv es r.commit t.term w' (by first | assumption | omega | (simp <;> omega) | (constructor <;> (first | omega | (simp only [zd]; omega) | (simp <;> omega)))) (by first | omega | (simp <;> omega)) (by first | omega | (simp <;> omega)) (hw.part0 1 0 rfl rfl) (hw.partSl0 1 1 rfl rfl) (EntD.rd.part0 1 2 rfl rfl hw)).mono ?_)))))))
  rintro _ w1 ⟨rfl, hO⟩
  refine (?_ : CL _ _ _ _ _ _ (Own w S [ze cb t lead a r b yv jb draw out, Res.nl b lv es])) w1 (hw.frame0 hO)
  refine zE [0, 1] rfl (by decide) (fun w' hw hS => zC 14 rfl (ya) hS (zX ?_))
  refine (?_ : C _ _ _ _ _ _ _ (Own w S [ze cb t lead a r b yv jb draw out, Res.nl b lv es])) _ hw
  exact zY (yD (v := .bool (decide ((LG 0 0 es).fits r.commit t.term))) rfl rfl (fun w' hw => ⟨rfl, hw⟩))
def xJ (last : Nat) (id : Int) : PeerM := { id := id, next := last + 1, mtch := 0, round := 0, flight := 0, off := 0, opn := false, told := true, asked := false }
theorem zCD {S : List Nat} (cb jb : Nat) (t : TimD) (a : StA) (r : RolD) (b : StB) (lead yv out : Value) (draw : Nat) (lv : Value) (es : List EntD) (id : Int) (w : World) (hg : (LG 0 0 es).good) (hl : es.length ≤ 1000000) (hvl : b.vs.length ≤ 1000) (hin : Own w S [ze cb t lead a r b yv jb draw out, Res.nl b lv es] w) : Rets Tryz.prog 96 #[pt cb, Vi id] w fun u_ w' => ∃ (pb : Nat), u_ = pt pb ∧ Own w S [ze cb t lead a r b yv jb draw out, Res.nl b lv es, xa pb (xJ es.length id)] w' := by
  have hb := (LG.le hg).1
  refine zT Tryz.func96 rfl Tryz.ntmps96 hin ?_
  refine zB (zK rfl (zA (zB (zD rfl (zh rfl rfl (zJ (o := 29) rfl rfl (zM 0 (v := pt b.lb) rfl rfl rfl rfl (zH rfl rfl (fun w' hw => (kQ b.lb 0 0 lv es w' (by first | assumption | omega | (simp <;> omega) | (constructor <;> (first | omega | (simp only [zd]; omega) | (simp <;> omega)))) (by first | omega | (simp <;> omega)) (hw.part0 1 0 rfl rfl) (hw.partSl0 1 1 rfl rfl) (EntD.rd.part0 1 2 rfl rfl hw)).mono ?_)))))))))
  rintro _ w1 ⟨rfl, hO⟩
  refine (?_ : CL _ _ _ _ _ _ (Own w S [ze cb t lead a r b yv jb draw out, Res.nl b lv es])) w1 (hw.frame0 hO)
  refine zD rfl (yE (vs := [Vn (0 + es.length), Vn ((LG 0 0 es).end_)]) rfl rfl rfl (yE (vs := [Vn (0 + es.length), Vn ((LG 0 0 es).end_)]) rfl rfl rfl (zK rfl (zK rfl (zA (zB (zD rfl (zD rfl (z3 rfl rfl (y6 (by omega)) rfl (yc (cs := [Vi id, Vn ((0 + es.length) + 1), Vn 0, Vn 0, Vi 0, Vi 0, .bool false, .bool true, .bool false]) (z := [Vi 0, Vn 0, Vn 0, Vn 0, Vi 0, Vi 0, .bool false, .bool false, .bool false]) (pl := [(0, 1), (1, 1), (2, 1), (3, 1), (4, 1), (5, 1), (6, 1), (7, 1), (8, 1)]) (by kernel_rfl) (by kernel_rfl) rfl (z7 rfl rfl (fun b19 => zK rfl ?_))))))))))))
  refine zA ?_
  exact zY (yD (v := pt b19) rfl rfl (fun w' hw => ⟨b19, rfl, (by rw [Nat.zero_add es.length] at hw; exact hw)⟩))
def xI (ps : List PeerP) (id : Int) : Option Nat := ps.findIdx? fun p => decide (p.2.id = id)
def PeerIs (ps : List PeerP) (id : Int) (pv : Option Addr) : Prop := (pv = none ∧ xI ps id = none) ∨ ∃ k, k < ps.length ∧ pv = some ⟨(zG ps k).1, 0, none⟩ ∧ (zG ps k).2.id = id ∧ xI ps id = some k
theorem PeerIs.no {ps : List PeerP} {id : Int} {k : Nat} (hk : ps.length ≤ k) (h : ∀ j, j < k → (zG ps j).2.id ≠ id) : PeerIs ps id none := .inl ⟨rfl, by
  unfold xI
  rw [List.findIdx?_eq_none_iff]
  intro p hp
  exact decide_eq_false (zIP (l := ps) (P := fun p => p.2.id ≠ id) hk h p hp)⟩
theorem PeerIs.yes {ps : List PeerP} {id : Int} {k : Nat} (hk : k < ps.length) (hi : (zG ps k).2.id = id) (h : ∀ j, j < k → (zG ps j).2.id ≠ id) : PeerIs ps id (some ⟨(zG ps k).1, 0, none⟩) := .inr ⟨k, hk, rfl, hi, by
  unfold xI
  rw [List.findIdx?_eq_some_iff_getElem]
  have at_ : ∀ j (hj : j < ps.length), ps[j] = zG ps j := fun j hj => (xR (List.getElem?_eq_getElem hj)).symm
  exact ⟨hk, by rw [at_ k hk]; exact decide_eq_true hi, fun j hj => by rw [at_ j (by omega)]; simp [h j hj]⟩⟩
theorem PeerIs.some {ps : List PeerP} {id : Int} {pv : Option Addr} (h : PeerIs ps id pv) (hs : pv.isSome = true) : ∃ k, k < ps.length ∧ pv = some ⟨(zG ps k).1, 0, none⟩ ∧ (zG ps k).2.id = id ∧ xI ps id = some k := by
  rcases h with ⟨rfl, _⟩ | h
  · cases hs
  · exact h
theorem PeerIs.none {ps : List PeerP} {id : Int} {pv : Option Addr} (h : PeerIs ps id pv) (hs : pv.isSome = false) : xI ps id = none := by
  rcases h with ⟨rfl, h⟩ | ⟨k, _, rfl, _⟩
  · exact h
  · cases hs
theorem zEW {S : List Nat} (cb jb : Nat) (t : TimD) (a : StA) (r : RolD) (b : StB) (yv out : Value) (draw : Nat) (ld : Nat) (l : LdD) (id : Int) (w : World) (hpl : l.peers.length ≤ 1000000) (hin : Own w S [ze cb t (pt ld) a r b yv jb draw out, Res.ld ld l] w) : Rets Tryz.prog 95 #[pt cb, Vi id] w fun u_ w' => ∃ (pv : Option Addr), u_ = .pointer pv ∧ PeerIs l.peers id pv ∧ Own w S [ze cb t (pt ld) a r b yv jb draw out, Res.ld ld l] w' := by
  refine zT Tryz.func95 rfl Tryz.ntmps95 hin ?_
  refine zB (zK rfl (zA (zQ (zB (zD rfl (zh rfl rfl (zJ (o := 9) rfl rfl (zM 0 (v := pt ld) rfl rfl rfl rfl (zh rfl rfl (zJ (o := 0) rfl rfl (z6 (v := l.pv) 1 0 0 rfl rfl rfl rfl (by kernel_rfl) rfl (zq (pC 1 1 rfl rfl) rfl rfl ?_))))))))))))
  refine zD rfl (zA (zc ?_))
  refine xS (fun (k : Nat) => [(1, Vi id), (13, l.pv), (14, Vj l.peers.length), (15, Vj k)]) (fun (k : Nat) => k ≤ l.peers.length ∧ ∀ j, j < k → (zG l.peers j).2.id ≠ id) (fun (k : Nat) => [ze cb t (pt ld) a r b yv jb draw out, Res.ld ld l]) (fun (k : Nat) => l.peers.length - k) (fun w' hw => ⟨0, ⟨rfl, rfl, rfl, rfl, trivial⟩, ⟨Nat.zero_le _, fun j h => by cases h⟩, hw⟩) (fun k g hΦ => ?_)
  have hk := hΦ.1
  refine zB (yJ rfl rfl rfl (zA (zQ (zf rfl (fun c1 => ?_) (fun c1 => ?_)))))
  ·
   refine zR (zQ (zc (zB (zm (pC 1 1 rfl rfl) 1 k rfl rfl rfl (by omega) rfl (yR (pC 1 1 rfl rfl) 1 k 0 (fun _ => rfl) rfl rfl (by omega) rfl rfl (zK rfl (zA (zB (zD rfl (zh rfl rfl (zJ (o := 0) rfl rfl (xd (l := l.peers) 1 2 k 0 rfl rfl (by first | assumption | (simp only [zi, List.length_set]; first | assumption | omega) | omega) rfl rfl rfl (by kernel_rfl) rfl ?_))))))))))))
   refine zD rfl (yZ rfl rfl rfl (zA (zf rfl (fun c2 => ?_) (fun c2 => ?_))))
   ·
    refine zB (zD rfl (zK rfl (zA ?_)))
    exact zY (yD (v := pt ((zG l.peers k).1)) rfl rfl (fun w' hw => ⟨some ⟨(zG l.peers k).1, 0, none⟩, rfl, PeerIs.yes (by omega) c2 hΦ.2, hw⟩))
   ·
    refine zR (zW (z3 rfl rfl (zy (by omega)) rfl (zD rfl ?_)))
    exact zj (fun w' hw => ⟨k + 1, ⟨rfl, rfl, rfl, rfl, trivial⟩, ⟨by omega, zDR hΦ.2 c2⟩, hw, (by omega)⟩)
  ·
   refine yQ rfl (zB (zK rfl (zA ?_)))
   exact zY (yD (v := .pointer none) rfl rfl (fun w' hw => ⟨none, rfl, PeerIs.no (k := k) (by omega) hΦ.2, hw⟩))
theorem zI6 {S : List Nat} (cb jb : Nat) (t : TimD) (a : StA) (r : RolD) (b : StB) (lead yv out : Value) (draw : Nat) (lv : Value) (es : List EntD) (kind : Int) (xv : Value) (data : List UInt8) (w : World) (hg : (LG 0 0 es).good) (hl : es.length ≤ 1000000) (hvl : b.vs.length ≤ 1000) (hn : 0 ≤ t.now ∧ t.now ≤ 1000000000000000) (hs : 0 ≤ t.stamp ∧ t.stamp ≤ 1000000000000000) (hd : data.length ≤ 1000000000) (ht : t.term ≤ 4611686018427387904) (hin : Own w S [ze cb t lead a r b yv jb draw out, Res.nl b lv es] w) (hxv : Rd w S (Res.sl xv data.length (data.map vb))) : Rets Tryz.prog 39 #[pt cb, Vi kind, xv] w fun u_ w' => ∃ (lv' : Value) (es' : List EntD), u_ = Vn (es.length + 1) ∧ LG 0 0 es' = (LG 0 0 es).append es.length (LG 0 0 es).end_ [⟨es.length + 1, t.term, kind, min (t.now - t.stamp) 1099511627776, data⟩] ∧ Own w S [ze cb ({ t with stamp := t.now } : TimD) lead a r b yv jb draw out, Res.nl b lv' es'] w' := by
  have hb := (LG.le hg).1
  refine zT Tryz.func39 rfl Tryz.ntmps39 hin ?_
  refine zB (zK rfl (zA (zB (zD rfl (zh rfl rfl (zJ (o := 29) rfl rfl (zM 0 (v := pt b.lb) rfl rfl rfl rfl (zH rfl rfl (fun w' hw => (kQ b.lb 0 0 lv es w' (by first | assumption | omega | (simp <;> omega) | (constructor <;> (first | omega | (simp only [zd]; omega) | (simp <;> omega)))) (by first | omega | (simp <;> omega)) (hw.part0 1 0 rfl rfl) (hw.partSl0 1 1 rfl rfl) (EntD.rd.part0 1 2 rfl rfl hw)).mono ?_)))))))))
  rintro _ w1 ⟨rfl, hO⟩
  refine (?_ : CL _ _ _ _ _ _ (Own w S [ze cb t lead a r b yv jb draw out, Res.nl b lv es])) w1 (hw.frame0 hO)
  refine zD rfl (yE (vs := [Vn (0 + es.length), Vn ((LG 0 0 es).end_)]) rfl rfl rfl (yE (vs := [Vn (0 + es.length), Vn ((LG 0 0 es).end_)]) rfl rfl rfl (zK rfl (zK rfl (zA (zB (zD rfl (z3 rfl rfl (y6 (by omega)) rfl (zD rfl (zh rfl rfl (zJ (o := 0) rfl rfl (zJ (o := 0) rfl rfl ?_))))))))))))
  refine zM 0 (v := Vn t.term) rfl rfl rfl rfl (zD rfl (zD rfl (zCW (cs := [Vn ((0 + es.length) + 1), Vn t.term, Vi kind, Vi 0, xv]) (z := [Vn 0, Vn 0, Vi 0, Vi 0, .slice none 0 0]) (pl := [(0, 1), (1, 1), (2, 1), (3, 1), (4, 1)]) (by kernel_rfl) ⟨rfl, rfl, rfl, (Sl.cell1 (Rd.φ hxv)), trivial⟩ (by kernel_rfl) rfl (yS (v := .agg #[Vn 0, Vn 0, Vi 0, Vi 0, .slice none 0 0]) (by kernel_rfl) rfl (fun b9 => yH 2 rfl rfl rfl (zF rfl (zF rfl (zF rfl (zF rfl (zF (Sl.cell1 (Rd.φ hxv)) zw))))) rfl (zA (zQ (zk [0, 1] rfl (by decide) (by kernel_rfl) (fun w' hw hS => zC 0 rfl (zU) hS (zC 1 rfl (zP rfl) hS (zC 2 rfl (zI (o := 2) rfl) hS (zC 3 rfl (zI (o := 0) rfl) hS ?_))))))))))))
  refine zC 4 rfl (zb 0 (v := Vi t.now) rfl rfl rfl) hS (zC 5 rfl (zU) hS (zC 6 rfl (zP rfl) hS (zC 7 rfl (zI (o := 2) rfl) hS (zC 8 rfl (zI (o := 6) rfl) hS (zC 9 rfl (zb 0 (v := Vi t.stamp) rfl rfl rfl) hS (zC 10 rfl (xb rfl rfl (zy (by omega))) hS (zC 11 rfl (zC6 (c := min (t.now - t.stamp) 1099511627776) rfl rfl (zJ8 _ _)) hS (zC 12 rfl (zI (o := 3) rfl) hS (zN 13 rfl hw (zo (cs := [Vn ((0 + es.length) + 1), Vn t.term, Vi kind, Vi 0, xv]) 2 rfl rfl rfl rfl rfl (zE [0, 1] rfl (by decide) (fun w' hw hS => zX ?_))))))))))))
  refine (?_ : C _ _ _ _ _ _ _ (Own w S [ze cb t lead a r b yv jb draw out, Res.nl b lv es, Res.row b9 81 [Vn ((0 + es.length) + 1), Vn t.term, Vi kind, Vi (min (t.now - t.stamp) 1099511627776), xv]])) _ hw
  refine zB (zD rfl (zD rfl (zh rfl rfl (zJ (o := 2) rfl rfl (zJ (o := 0) rfl rfl (zM 0 (v := Vi t.now) rfl rfl rfl rfl (zh rfl rfl (zJ (o := 2) rfl rfl (zJ (o := 6) rfl rfl (zo 0 rfl rfl rfl rfl rfl (zA (zQ ?_))))))))))))
  refine zk [0, 2] rfl (by decide) (by kernel_rfl) (fun w' hw hS => zC 0 rfl (zU) hS (zC 1 rfl (zP rfl) hS (zC 2 rfl (zI (o := 29) rfl) hS (zC 3 rfl (zb 0 (v := pt b.lb) rfl rfl rfl) hS (zC 4 rfl (zU) hS (zC 5 rfl (zU) hS (zC 6 rfl (xp 1 rfl rfl) hS (zN 7 rfl hw (z4 (e := 81) (sz := 5) (vs := [.agg #[Vn ((0 + es.length) + 1), Vn t.term, Vi kind, Vi (min (t.now - t.stamp) 1099511627776), xv]]) (by kernel_rfl) rfl rfl (by simp [Value.cells, EntD.cells]) (by decide) rfl (fun b57 => zE [0, 2] rfl (by decide) (fun w' hw hS => zN 8 rfl hw ?_)))))))))))
  refine zx [ze cb ({ t with stamp := t.now } : TimD) lead a r b yv jb draw out, Res.row b9 81 [Vn ((0 + es.length) + 1), Vn t.term, Vi kind, Vi (min (t.now - t.stamp) 1099511627776), xv], vE (.slice (some ⟨b57, 0, none⟩) 1 1) [({ index := (0 + es.length) + 1, term := t.term, kind := kind, delta := min (t.now - t.stamp) 1099511627776, dv := xv, data := data } : EntD)], Res.row b.lb 144 [Vn 0, Vn 0, lv], vE lv es, sE es, vI b.vv b.vs, vI b.wv ([] : List Int)] (fun w' hw => hw.starOpen 1 rfl) ?_
  refine zH rfl rfl (fun w' hw => (zBZ b.lb 0 0 lv es (0 + es.length) ((LG 0 0 es).end_) (.slice (some ⟨b57, 0, none⟩) 1 1) [({ index := (0 + es.length) + 1, term := t.term, kind := kind, delta := min (t.now - t.stamp) 1099511627776, dv := xv, data := data } : EntD)] w' (by first | assumption | omega | (simp <;> omega) | (constructor <;> (first | omega | (simp only [zd]; omega) | (simp <;> omega)))) ‹_› (fun e he => by rw [List.mem_singleton.1 he]; exact ⟨by show (0 + es.length) + 1 < _; omega, by show t.term < _; omega, by show data.length ≤ _; omega⟩) (by first | omega | (simp <;> omega)) (hw.give [3, 4, 5] rfl (by decide)) (hw.rdVec 2 rfl [3, 4, 5] rfl rfl) (all_cons ⟨(hw.rdTo hxv [3, 4, 5] rfl)⟩ (fun p hp => by cases hp))).mono ?_)
  rintro _ w1 ⟨lv'1_, es'2_, x3_, y4_, e5_, rfl, hf5_8, hf5_8_1, hO⟩
  refine (?_ : CL _ _ _ _ _ _ (Own w S [ze cb ({ t with stamp := t.now } : TimD) lead a r b yv jb draw out, Res.row b9 81 [Vn ((0 + es.length) + 1), Vn t.term, Vi kind, Vi (min (t.now - t.stamp) 1099511627776), xv], vE (.slice (some ⟨b57, 0, none⟩) 1 1) [({ index := (0 + es.length) + 1, term := t.term, kind := kind, delta := min (t.now - t.stamp) 1099511627776, dv := xv, data := data } : EntD)], vI b.vv b.vs, vI b.wv ([] : List Int), Res.row b.lb 144 [Vn 0, Vn 0, lv'1_], vE lv'1_ es'2_, sE es'2_])) w1 (hw.frameL [3, 4, 5] rfl hO)
  refine zE [0, 1] rfl (by decide) (fun w' hw hS => zX ?_)
  refine (?_ : C _ _ _ _ _ _ _ (Own w S [ze cb ({ t with stamp := t.now } : TimD) lead a r b yv jb draw out, Res.row b9 81 [Vn ((0 + es.length) + 1), Vn t.term, Vi kind, Vi (min (t.now - t.stamp) 1099511627776), xv], vE (.slice (some ⟨b57, 0, none⟩) 1 1) [({ index := (0 + es.length) + 1, term := t.term, kind := kind, delta := min (t.now - t.stamp) 1099511627776, dv := xv, data := data } : EntD)], vI b.vv b.vs, vI b.wv ([] : List Int), Res.row b.lb 144 [Vn 0, Vn 0, lv'1_], vE lv'1_ es'2_, sE es'2_])) _ hw
  refine zB (zJ (o := 0) rfl rfl (zM 1 (v := Vn ((0 + es.length) + 1)) rfl rfl rfl rfl (zK rfl (zA ?_))))
  exact zY (yD (v := Vn ((0 + es.length) + 1)) rfl rfl (fun w' hw => ⟨lv'1_, es'2_, (by rw [Nat.zero_add]), (by have h := hf5_8; rw [Nat.zero_add] at h; exact h), (hw.starShut [5, 6, 7, 3, 4] rfl (by decide)).sel [0, 3] rfl (by decide)⟩))
end Go.Proofs.YtkkeknmkipkbmaaGreat
