import Derived.Test.YtkkeknmkipkbmaaGreatRefW
import Derived.Test.YtkkeknmkipkbmaaGreatConfA
set_option linter.unusedSectionVars false
set_option linter.unusedSimpArgs false
set_option linter.unusedVariables false
set_option maxRecDepth 10000
namespace Go.Proofs.YtkkeknmkipkbmaaGreat
open Go Go.Sc Go.Proofs
def ConfD.enc (c : ConfD) : List UInt8 := zAt c.vs ++ zAt c.ls
structure ConfD.few (c : ConfD) : Prop where
  vs : c.vs.length ≤ 1000000000
  ls : c.ls.length ≤ 1000000000
theorem ConfD.few.wf {c : ConfD} (h : c.few) : c.wf := ⟨by have := h.vs; show _ ≤ _; omega, by have := h.ls; show _ ≤ _; omega⟩
theorem zIM {ns : List Int} : ∀ n ∈ ns.map u64, n < 18446744073709551616 := fun n hn => by obtain ⟨a, _, rfl⟩ := List.mem_map.1 hn; exact y2 a
theorem jT (ns : List Int) : (zAt ns).length ≤ 9 * (ns.length + 1) := by
  have := yI (ns := u64 ns.length :: ns.map u64) (by intro n hn; rcases List.mem_cons.1 hn with rfl | h; exact y2 _; exact zIM n h)
  simpa [zAt] using this
theorem zFA (v : Value) (l : List Int) (w : World) (hl : zd l.length) (hv : Rd w [] (Res.sl v l.length (l.flatMap I1))) : Rets Tryz.prog 115 #[v] w fun u_ w' => ∃ (r : Value), u_ = r ∧ Own w [] [Res.vec 3 1 r l.length (l.flatMap I1)] w' := by
  refine zT Tryz.func115 rfl Tryz.ntmps115 (Own.start w) ?_
  refine zB (zK rfl (zA (zQ (zB (zD rfl (zCc (len := l.length) (cs := (l.flatMap I1)) (by kernel_rfl) rfl rfl (fun w' hw' => Own.rd hv hw') rfl (zA (ja rfl (fun c1 => ?_) (fun c1 => ?_)))))))))
  ·
   refine zB (zK rfl (zA ?_))
   exact zY (yD (v := .slice none 0 0) rfl rfl (fun w' hw => ⟨.slice none 0 0, rfl, by obtain ⟨_, h0⟩ := Sl.isNil hv.φ c1; rw [List.eq_nil_of_length_eq_zero h0]; exact zt hw 3 1⟩))
  ·
   refine zR (zB (z4 (e := 3) (sz := 1) (vs := []) (by kernel_rfl) rfl rfl (by simp [Value.cells]) (by decide) rfl (fun b5 => zD rfl (yO (g := I1) (sz := 1) (by' := 8) (fun _ => rfl) (l := []) (l' := l) (by simp [cell1, I1]) 0 (by kernel_rfl) rfl rfl rfl (fun w' hw' => Own.rd hv hw') (by first | omega | (simp <;> omega)) (by decide) rfl (fun v7 => zK rfl (zA ?_))))))
   exact zY (yD (v := v7) rfl rfl (fun w' hw => ⟨v7, rfl, hw⟩))
theorem jV {S : List Nat} (o : Nat) (sl : Value) (bs : List UInt8) (c : ConfD) (w : World) (hb : bs.length + 9 * (c.vs.length + c.ls.length + 2) ≤ 100000000000) (hin : Own w S [Res.bv o yW sl bs] w) (rd_c : ConfD.rd c w S) : Rets Tryz.prog 151 #[.pointer (some ⟨o, 0, none⟩), .agg (ConfD.cells c).toArray] w fun u_ w' => ∃ (sl' : Value), u_ = .tuple #[] ∧ Own w S [Res.bv o yW sl' (bs ++ c.enc)] w' := by
  have h0 := jT c.vs
  refine zT Tryz.func151 rfl Tryz.ntmps151 hin ?_
  refine zB (z7 rfl rfl (fun b3 => zA (zB (zD rfl (zJ (o := 0) rfl rfl (zM 1 (v := c.vv) rfl rfl rfl rfl (zH rfl rfl (fun w' hw => (zIr o _ _ c.vv c.vs w' (by first | omega | (simp <;> omega)) (hw.give [0] rfl (by decide)) (hw.rdTo rd_c.vv [0] rfl)).mono ?_))))))))
  rintro _ w1 ⟨sl'1_, rfl, hO⟩
  refine (?_ : CL _ _ _ _ _ _ (Own w S [Res.row b3 35 (ConfD.cells c), Res.bv o yW sl'1_ (bs ++ zAt c.vs)])) w1 (hw.frameL [0] rfl hO)
  refine zA (zW (zD rfl (zJ (o := 1) rfl rfl (zM 0 (v := c.lv) rfl rfl rfl rfl (zH rfl rfl (fun w' hw => (zIr o sl'1_ (bs ++ zAt c.vs) c.lv c.ls w' (by first | omega | (simp <;> omega) | (constructor <;> (first | omega | (simp <;> omega)))) (hw.give [1] rfl (by decide)) (hw.rdTo rd_c.lv [1] rfl)).mono ?_))))))
  rintro _ w1 ⟨sl'2_, rfl, hO⟩
  refine (?_ : CL _ _ _ _ _ _ (Own w S [Res.row b3 35 (ConfD.cells c), Res.bv o yW sl'2_ ((bs ++ zAt c.vs) ++ zAt c.ls)])) w1 (hw.frameL [1] rfl hO)
  exact zj (yM rfl (fun w' hw => ⟨sl'2_, rfl, by have h := hw.one 1 rfl; simpa [ConfD.enc] using h⟩))
theorem zA1 (w : World) : Rets Tryz.prog 107 #[] w fun u_ w' => u_ = .agg #[.func (.func 147) #[] #[], .func (.func 151) #[] #[], .func (.func 153) #[] #[]] ∧ Own w [] [] w' := by
  refine zT Tryz.func107 rfl Tryz.ntmps107 (Own.start w) ?_
  refine zB (yS (v := .agg #[.nilFunc, .nilFunc, .nilFunc]) (by kernel_rfl) rfl (fun b0 => zA (zB (yc (cs := [.func (.func 147) #[] #[], .func (.func 151) #[] #[], .func (.func 153) #[] #[]]) (z := [.nilFunc, .nilFunc, .nilFunc]) (pl := [(0, 1), (1, 1), (2, 1)]) (by kernel_rfl) (by kernel_rfl) rfl (yH 0 rfl rfl rfl (xx rfl) rfl (zA ?_))))))
  exact zY (jt (cs := [.func (.func 147) #[] #[], .func (.func 151) #[] #[], .func (.func 153) #[] #[]]) rfl rfl (by kernel_rfl) (Own.rowCells (i := 0) rfl) (fun w' hw => ⟨rfl, hw.drop⟩))
theorem zDA (c : ConfD) (w : World) (hf : c.few) (rd_c : ConfD.rd c w []) : Rets Tryz.prog 140 #[.agg #[.func (.func 147) #[] #[], .func (.func 151) #[] #[], .func (.func 153) #[] #[]], .agg (ConfD.cells c).toArray] w fun u_ w' => ∃ (r : Value), u_ = .tuple #[r, Vi (yC c.ok)] ∧ Own w [] [Res.vec 5 1 r (if c.ok then c.enc else []).length ((if c.ok then c.enc else []).map vb)] w' := by
  have hc := hf.wf
  have hv := hf.vs
  have hl := hf.ls
  refine zT Tryz.func140 rfl Tryz.ntmps140 (Own.start w) ?_
  refine zB (z7 rfl rfl (fun b2 => z7 rfl rfl (fun b3 => zK rfl (zK rfl (zA (zQ (zB (zJ (o := 0) rfl rfl (zM 0 (v := .func (.func 147) #[] #[]) rfl rfl rfl rfl (yY (cs := (ConfD.cells c)) 1 rfl rfl rfl (yh (fst := []) (cap := []) rfl (by kernel_rfl) rfl rfl (fun w' hw => (xl c w' ‹_› (rd_c.at0 hw)).mono ?_))))))))))))
  rintro _ w1 ⟨rfl, hO⟩
  refine (?_ : CL _ _ _ _ _ _ (Own w [] [Res.row b2 193 [.func (.func 147) #[] #[], .func (.func 151) #[] #[], .func (.func 153) #[] #[]], Res.row b3 35 (ConfD.cells c)])) w1 (hw.frame0 hO)
  refine xM (q := c.ok) rfl rfl (zA (zf rfl (fun c1 => ?_) (fun c1 => ?_)))
  ·
   refine zB (zK rfl (zK rfl (zA ?_)))
   exact zY (xP (v := .slice none 0 0) (v' := Vi 2) rfl rfl rfl (fun w' hw => ⟨.slice none 0 0, (by rw [jX c1]), by rw [if_neg c1]; exact (zt hw T8 1).one 2 rfl⟩))
  ·
   refine zR (zB (yc (cs := [.slice none 0 0]) (z := [.slice none 0 0]) (pl := [(0, 1)]) (by kernel_rfl) (by kernel_rfl) rfl (z7 rfl rfl (fun b13 => zK rfl (zA (zB (zJ (o := 1) rfl rfl (zM 0 (v := .func (.func 151) #[] #[]) rfl rfl rfl rfl (zD rfl (yY (cs := (ConfD.cells c)) 1 rfl rfl rfl ?_))))))))))
   refine zx [Res.row b2 193 [.func (.func 147) #[] #[], .func (.func 151) #[] #[], .func (.func 153) #[] #[]], Res.row b3 35 (ConfD.cells c), Res.bv b13 yW (.slice none 0 0) ([] : List UInt8)] (fun w' hw => (zt hw T8 1).joinBv (i := 2) (j := 3) (by decide) rfl rfl) ?_
   refine yh (fst := []) (cap := []) rfl (by kernel_rfl) rfl rfl (fun w' hw => (jV b13 (.slice none 0 0) ([] : List UInt8) c w' (by first | omega | (simp <;> omega) | (constructor <;> (first | omega | (simp <;> omega)))) (hw.give [2] rfl (by decide)) (rd_c.at hw [2] rfl)).mono ?_)
   rintro _ w1 ⟨sl'1_, rfl, hO⟩
   refine (?_ : CL _ _ _ _ _ _ (Own w [] [Res.row b2 193 [.func (.func 147) #[] #[], .func (.func 151) #[] #[], .func (.func 153) #[] #[]], Res.row b3 35 (ConfD.cells c), Res.bv b13 yW sl'1_ (([] : List UInt8) ++ c.enc)])) w1 (hw.frameL [2] rfl hO)
   refine zA (zB (zD rfl (zh rfl rfl (zJ (o := 0) rfl rfl ?_))))
   refine zx [Res.row b2 193 [.func (.func 147) #[] #[], .func (.func 151) #[] #[], .func (.func 153) #[] #[]], Res.row b3 35 (ConfD.cells c), Res.row b13 yW [sl'1_], Res.vec 5 1 sl'1_ (([] : List UInt8) ++ c.enc).length ((([] : List UInt8) ++ c.enc).map vb)] (fun w' hw => hw.splitBv (i := 2) (o := b13) (T := yW) (v := sl'1_) (bs := (([] : List UInt8) ++ c.enc)) rfl) ?_
   refine zM 2 (v := sl'1_) rfl rfl rfl rfl (zK rfl (zK rfl (zA ?_)))
   exact zY (xP (v := sl'1_) (v' := Vi 0) rfl rfl rfl (fun w' hw => ⟨sl'1_, (by rw [jD (Decidable.not_not.1 c1)]), by rw [if_pos (Decidable.not_not.1 c1)]; exact hw.one 3 rfl⟩))
theorem zFz (c : ConfD) (w : World) (hf : c.few) (rd_c : ConfD.rd c w []) : Rets Tryz.prog 91 #[.agg (ConfD.cells c).toArray] w fun u_ w' => ∃ (r : Value), u_ = .tuple #[r, Vi (yC c.ok)] ∧ Own w [] [Res.vec 5 1 r (if c.ok then c.enc else []).length ((if c.ok then c.enc else []).map vb)] w' := by
  refine zT Tryz.func91 rfl Tryz.ntmps91 (Own.start w) ?_
  refine zB (z7 rfl rfl (fun b1 => zK rfl (zK rfl (zA (zQ (zk [0] rfl (by decide) (by kernel_rfl) (fun w' hw hS => zC 1 rfl (xp (cs := (ConfD.cells c)) 0 rfl rfl) hS (zN 0 rfl hw (zH rfl rfl (fun w' hw => (zA1 w').mono ?_))))))))))
  rintro _ w1 ⟨rfl, hO⟩
  refine (?_ : CL _ _ _ _ _ _ (Own w [] [Res.row b1 35 (ConfD.cells c)])) w1 (hw.frame0 hO)
  refine zE [0] rfl (by decide) (fun w' hw hS => zN 2 rfl hw (zH rfl rfl (fun w' hw => (zDA c w' ‹_› (rd_c.at0 hw)).mono ?_)))
  rintro _ w1 ⟨r1_, rfl, hO⟩
  refine (?_ : CL _ _ _ _ _ _ (Own w [] [Res.row b1 35 (ConfD.cells c), Res.vec 5 1 r1_ (if c.ok then c.enc else []).length ((if c.ok then c.enc else []).map vb)])) w1 (hw.frame0 hO)
  refine zE [0] rfl (by decide) (fun w' hw hS => zC 3 rfl (yx (vs := [r1_, Vi (yC c.ok)]) rfl rfl) hS (zC 4 rfl (yx (vs := [r1_, Vi (yC c.ok)]) rfl rfl) hS (zC 5 rfl (ya) hS (zC 6 rfl (ya) hS (zX ?_)))))
  refine (?_ : C _ _ _ _ _ _ _ (Own w [] [Res.row b1 35 (ConfD.cells c), Res.vec 5 1 r1_ (if c.ok then c.enc else []).length ((if c.ok then c.enc else []).map vb)])) _ hw
  exact zY (xP (v := r1_) (v' := Vi (yC c.ok)) rfl rfl rfl (fun w' hw => ⟨r1_, rfl, hw.sel [1] rfl (by decide)⟩))
theorem zCh (c : ConfD) (w : World) (hf : c.few) (rd_c : ConfD.rd c w []) : Rets Tryz.prog 71 #[.agg (ConfD.cells c).toArray] w fun u_ w' => u_ = Vi (yC c.ok) ∧ Own w [] [] w' := by
  refine zT Tryz.func71 rfl Tryz.ntmps71 (Own.start w) ?_
  refine zB (z7 rfl rfl (fun b1 => zK rfl (zA (zB (yY (cs := (ConfD.cells c)) 0 rfl rfl rfl (zH rfl rfl (fun w' hw => (zFz c w' ‹_› (rd_c.at0 hw)).mono ?_)))))))
  rintro _ w1 ⟨r1_, rfl, hO⟩
  refine (?_ : CL _ _ _ _ _ _ (Own w [] [Res.row b1 35 (ConfD.cells c), Res.vec 5 1 r1_ (if c.ok then c.enc else []).length ((if c.ok then c.enc else []).map vb)])) w1 (hw.frame0 hO)
  refine zD rfl (yE (vs := [r1_, Vi (yC c.ok)]) rfl rfl rfl (yE (vs := [r1_, Vi (yC c.ok)]) rfl rfl rfl (zK rfl (zK rfl (zA (zB (zD rfl (zK rfl (zA ?_)))))))))
  exact zY (yD (v := Vi (yC c.ok)) rfl rfl (fun w' hw => ⟨rfl, hw.drop⟩))
theorem jS (v : Value) (l : List Int) (n : Int) (w : World) (hl : zd l.length) (hv : Rd w [] (Res.sl v l.length (l.flatMap I1))) : Rets Tryz.prog 72 #[v, Vi n] w fun u_ w' => u_ = .bool (decide (n ∈ l)) ∧ Own w [] [] w' := by
  exact jj v l n w hl hv
theorem zCZ (c : ConfD) (id : Int) (w : World) (hf : c.few) (rd_c : ConfD.rd c w []) : Rets Tryz.prog 35 #[.agg (ConfD.cells c).toArray, Vi id] w fun u_ w' => u_ = .bool (decide (c.ok ∧ id ∈ c.vs)) ∧ Own w [] [] w' := by
  have hc := hf.wf
  have hv := hc.vs
  have hl := hc.ls
  refine zT Tryz.func35 rfl Tryz.ntmps35 (Own.start w) ?_
  refine zB (z7 rfl rfl (fun b2 => zK rfl (zA (zB (yY (cs := (ConfD.cells c)) 0 rfl rfl rfl (zH rfl rfl (fun w' hw => (zCh c w' ‹_› (rd_c.at0 hw)).mono ?_)))))))
  rintro _ w1 ⟨rfl, hO⟩
  refine (?_ : CL _ _ _ _ _ _ (Own w [] [Res.row b2 35 (ConfD.cells c)])) w1 (hw.frame0 hO)
  refine yZ rfl rfl rfl (zD rfl (yd (q := (yC c.ok) = 0) 4 3 [12, 11, 10, 9] (id ∈ c.vs) rfl rfl rfl rfl rfl rfl trivial rfl (fun h1_3 => ?_) (fun g1_8 => ?_)))
  ·
   refine zO rfl (gT h1_3) (zJ (o := 0) rfl rfl (zO rfl (gT h1_3) (zM 0 (v := c.vv) rfl rfl rfl rfl (zO rfl (gT h1_3) (zD rfl (zO rfl (gT h1_3) (zH rfl rfl (fun w' hw => (jS c.vv c.vs id w' (by first | assumption | omega | (simp <;> omega) | (constructor <;> (first | omega | (simp only [zd]; omega) | (simp <;> omega)))) (hw.rd0 rd_c.vv)).mono ?_))))))))
   rintro _ w1 ⟨rfl, hO⟩
   refine (?_ : CL _ _ _ _ _ _ (Own w [] [Res.row b2 35 (ConfD.cells c)])) w1 (hw.frame0 hO)
   exact yK rfl (fun _ hw => hw)
  refine zK rfl (zA ?_)
  exact zY (yD (v := .bool (decide (((yC c.ok) = 0) ∧ (id ∈ c.vs)))) rfl rfl (fun w' hw => ⟨(by congr 1; exact decide_eq_decide.2 (by rw [errOf_zero])), hw.drop⟩))
def cnt (vs ids : List Int) : Nat := (vs.filter (· ∈ ids)).length
theorem zJi (vs ids : List Int) : cnt vs ids ≤ vs.length := List.length_filter_le _ _
theorem zC8 (vs ids : List Int) (x : Int) : cnt (vs ++ [x]) ids = cnt vs ids + if x ∈ ids then 1 else 0 := by
  unfold cnt
  rw [List.filter_append, List.length_append]
  by_cases h : x ∈ ids <;> simp [List.filter_cons, h]
def ConfD.quorum (c : ConfD) (ids : List Int) : Prop := c.ok ∧ c.vs.length < 2 * cnt c.vs ids
instance (c : ConfD) (ids : List Int) : Decidable (c.quorum ids) := inferInstanceAs (Decidable (_ ∧ _))
theorem yu (c : ConfD) (v : Value) (ids : List Int) (w : World) (hf : c.few) (hids : zd ids.length) (hi : Rd w [] (Res.sl v ids.length (ids.flatMap I1))) (rd_c : ConfD.rd c w []) : Rets Tryz.prog 69 #[.agg (ConfD.cells c).toArray, v] w fun u_ w' => u_ = .bool (decide (c.quorum ids)) ∧ Own w [] [] w' := by
  have hc := hf.wf
  have hv := hf.vs
  have hl := hc.ls
  refine zT Tryz.func69 rfl Tryz.ntmps69 (Own.start w) ?_
  refine zB (z7 rfl rfl (fun b2 => zK rfl (zA (zB (zK rfl (zA (zQ (zB (zJ (o := 0) rfl rfl (zM 0 (v := c.vv) rfl rfl rfl rfl (zq (pR rd_c.vv) rfl rfl (zD rfl ?_))))))))))))
  refine zA (zc ?_)
  refine xS (fun (k : Nat) => [(1, v), (2, .pointer (some ⟨b2, 0, none⟩)), (5, Vj (cnt (c.vs.take k) ids)), (9, c.vv), (10, Vj c.vs.length), (11, Vj k)]) (fun (k : Nat) => k ≤ c.vs.length) (fun (k : Nat) => [Res.row b2 35 (ConfD.cells c)]) (fun (k : Nat) => c.vs.length - k) (fun w' hw => ⟨0, ⟨rfl, rfl, rfl, rfl, rfl, rfl, trivial⟩, Nat.zero_le _, hw⟩) (fun k g hΦ => ?_)
  have hcl := zJi (c.vs.take k) ids
  have hkl : (c.vs.take k).length ≤ k := by simp; omega
  have htk := hΦ
  refine zB (yJ rfl rfl rfl (zA (zQ (zf rfl (fun c1 => ?_) (fun c1 => ?_)))))
  ·
   refine zR (zQ (zc (zB (zm (pR rd_c.vv) 1 k rfl rfl rfl (by omega) rfl (yR (pR rd_c.vv) 1 k 0 (fun _ => rfl) rfl rfl (by omega) rfl rfl (zK rfl (zA (zB (zD rfl (zD rfl (zH rfl rfl (fun w' hw => (jS v ids (zG c.vs k) w' (by first | assumption | omega | (simp <;> omega) | (constructor <;> (first | omega | (simp only [zd]; omega) | (simp <;> omega)))) (hw.rd0 hi)).mono ?_))))))))))))
   rintro _ w1 ⟨rfl, hO⟩
   refine (?_ : CL _ _ _ _ _ _ (Own w [] [Res.row b2 35 (ConfD.cells c)])) w1 (hw.frame0 hO)
   refine zA (zf rfl (fun c2 => ?_) (fun c2 => ?_))
   ·
    have e2 : cnt (c.vs.take (k + 1)) ids = cnt (c.vs.take k) ids + 1 := by have := zC8 (c.vs.take k) ids (zG c.vs k); rw [if_pos c2] at this; rw [zu (by omega)]; exact this
    refine zW (zD rfl (z3 rfl rfl (zy (by omega)) rfl (zK rfl (zA (zW (z3 rfl rfl (zy (by omega)) rfl (zD rfl ?_)))))))
    exact zj (fun w' hw => ⟨k + 1, ⟨rfl, rfl, by rw [e2]; rfl, rfl, rfl, rfl, trivial⟩, (by omega), hw, (by omega)⟩)
   ·
    have e2 : cnt (c.vs.take (k + 1)) ids = cnt (c.vs.take k) ids := by have := zC8 (c.vs.take k) ids (zG c.vs k); rw [if_neg c2] at this; rw [zu (by omega)]; exact this
    refine zR (zW (z3 rfl rfl (zy (by omega)) rfl (zD rfl ?_)))
    exact zj (fun w' hw => ⟨k + 1, ⟨rfl, rfl, by rw [e2]; rfl, rfl, rfl, rfl, trivial⟩, (by omega), hw, (by omega)⟩)
  ·
   refine yQ rfl (zB (yY (cs := (ConfD.cells c)) 0 rfl rfl rfl (zH rfl rfl (fun w' hw => (zCh c w' ‹_› (rd_c.at0 hw)).mono ?_))))
   rintro _ w1 ⟨rfl, hO⟩
   refine (?_ : CL _ _ _ _ _ _ (Own w [] [Res.row b2 35 (ConfD.cells c)])) w1 (hw.frame0 hO)
   refine yZ rfl rfl rfl (zD rfl (yd (q := (yC c.ok) = 0) 6 3 [30, 29, 28, 27, 26, 25] (((c.vs.length : Nat) : Int) < ((2 * (cnt (c.vs.take k) ids) : Nat) : Int)) rfl rfl rfl rfl rfl rfl trivial rfl (fun h8_3 => ?_) (fun g8_10 => ?_)))
   ·
    refine zO rfl (gT h8_3) (zD rfl (zO rfl (gT h8_3) (zHk rfl rfl (zy (by omega)) rfl (zO rfl (gT h8_3) (zJ (o := 0) rfl rfl (zO rfl (gT h8_3) (zM 0 (v := c.vv) rfl rfl rfl rfl (zO rfl (gT h8_3) (zq (pR rd_c.vv) rfl rfl (zO rfl (gT h8_3) (yo rfl rfl rfl ?_)))))))))))
    exact yK rfl (fun _ hw => hw)
   refine zK rfl (zA ?_)
   exact zY (yD (v := .bool (decide (((yC c.ok) = 0) ∧ (((c.vs.length : Nat) : Int) < ((2 * (cnt (c.vs.take k) ids) : Nat) : Int))))) rfl rfl (fun w' hw => ⟨(by congr 1; exact decide_eq_decide.2 (by unfold ConfD.quorum; rw [errOf_zero, List.take_of_length_le (by omega)]; rw [List.take_of_length_le (by omega)] at hcl; exact and_congr_right fun _ => by omega)), hw.drop⟩))
end Go.Proofs.YtkkeknmkipkbmaaGreat