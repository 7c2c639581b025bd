import Derived.Test.YtkkeknmkipkbmaaGreatRefW
import Derived.Test.YtkkeknmkipkbmaaGreatConfA
set_option linter.unusedSectionVars false
set_option linter.unusedSimpArgs false
set_option linter.unusedVariables false
set_option maxRecDepth 10000
namespace Go.Proofs.YtkkeknmkipkbmaaGreat
open Go Go.Sc Go.Proofs
def ConfD.enc (c : ConfD) : List UInt8 := kf c.vs ++ kf c.ls
structure ConfD.few (c : ConfD) : Prop where
  vs : c.vs.length ≤ 1000000000
  ls : c.ls.length ≤ 1000000000
theorem ConfD.few.wf {c : ConfD} (h : c.few) : c.wf := ⟨by have := h.vs; show _ ≤ _; omega, by have := h.ls; show _ ≤ _; omega⟩
theorem zDT {ns : List Int} : ∀ n ∈ ns.map u64, n < 18446744073709551616 := fun n hn => by obtain ⟨a, _, rfl⟩ := List.mem_map.1 hn; exact yl a
theorem xU (ns : List Int) : (kf ns).length ≤ 9 * (ns.length + 1) := by
  have := yX (ns := u64 ns.length :: ns.map u64) (by intro n hn; rcases List.mem_cons.1 hn with rfl | h; exact yl _; exact zDT n h)
  simpa [kf] using this
theorem zBL (v : Value) (l : List Int) (w : World) (hl : zT l.length) (hv : Rd w [] (Res.sl v l.length (l.flatMap I1))) : Rets Tryz.prog 115 #[v] w fun u_ w' => ∃ (r : Value), u_ = r ∧ Own w [] [Res.vec 3 1 r l.length (l.flatMap I1)] w' := by
  refine zR Tryz.func115 rfl Tryz.ntmps115 (Own.start w) ?_
  refine zB (zH rfl (zA (zQ (zB (zC rfl (j6 (len := l.length) (cs := (l.flatMap I1)) (by kernel_rfl) rfl rfl (fun w' hw' => Own.rd hv hw') rfl (zA (zCc rfl (fun c1 => ?_) (fun c1 => ?_)))))))))
  ·
   refine zB (zH rfl (zA ?_))
   exact zS (zx (v := .slice none 0 0) rfl rfl (fun w' hw => ⟨.slice none 0 0, rfl, by obtain ⟨_, h0⟩ := Sl.isNil hv.φ c1; rw [List.eq_nil_of_length_eq_zero h0]; exact zz hw 3 1⟩))
  ·
   refine zP (zB (zy (e := 3) (sz := 1) (vs := []) (by kernel_rfl) rfl rfl (by simp [Value.cells]) (by decide) rfl (fun b5 => zC rfl (yB (g := I1) (sz := 1) (by' := 8) (fun _ => rfl) (l := []) (l' := l) (by simp [cell1, I1]) 0 (by kernel_rfl) rfl rfl rfl (fun w' hw' => Own.rd hv hw') (by first | omega | (simp <;> omega)) (by decide) rfl (fun v7 => zH rfl (zA ?_))))))
   exact zS (zx (v := v7) rfl rfl (fun w' hw => ⟨v7, rfl, hw⟩))
theorem kT {S : List Nat} (o : Nat) (sl : Value) (bs : List UInt8) (c : ConfD) (w : World) (hb : bs.length + 9 * (c.vs.length + c.ls.length + 2) ≤ 100000000000) (hin : Own w S [Res.bv o yA sl bs] w) (rd_c : ConfD.rd c w S) : Rets Tryz.prog 151 #[.pointer (some ⟨o, 0, none⟩), .agg (ConfD.cells c).toArray] w fun u_ w' => ∃ (sl' : Value), u_ = .tuple #[] ∧ Own w S [Res.bv o yA sl' (bs ++ c.enc)] w' := by
  have h0 := xU c.vs
  refine zR Tryz.func151 rfl Tryz.ntmps151 hin ?_
  refine zB (zr rfl rfl (fun b3 => zA (zB (zC rfl (zL (o := 0) rfl rfl (zI 1 (v := c.vv) rfl rfl rfl rfl (zF rfl rfl (fun w' hw => (zDx o _ _ c.vv c.vs w' (by first | omega | (simp <;> omega)) (hw.give [0] rfl (by decide)) (hw.rdTo rd_c.vv [0] rfl)).mono ?_))))))))
  rintro _ w1 ⟨sl'1_, rfl, hO⟩
  refine (?_ : CL _ _ _ _ _ _ (Own w S [Res.row b3 35 (ConfD.cells c), Res.bv o yA sl'1_ (bs ++ kf c.vs)])) w1 (hw.frameL [0] rfl hO)
  refine zA (zZ (zC rfl (zL (o := 1) rfl rfl (zI 0 (v := c.lv) rfl rfl rfl rfl (zF rfl rfl (fun w' hw => (zDx o sl'1_ (bs ++ kf c.vs) c.lv c.ls w' (by first | omega | (simp <;> omega) | (constructor <;> (first | omega | (simp <;> omega)))) (hw.give [1] rfl (by decide)) (hw.rdTo rd_c.lv [1] rfl)).mono ?_))))))
  rintro _ w1 ⟨sl'2_, rfl, hO⟩
  refine (?_ : CL _ _ _ _ _ _ (Own w S [Res.row b3 35 (ConfD.cells c), Res.bv o yA sl'2_ ((bs ++ kf c.vs) ++ kf c.ls)])) w1 (hw.frameL [1] rfl hO)
  exact zl (yb rfl (fun w' hw => ⟨sl'2_, rfl, by have h := hw.one 1 rfl; simpa [ConfD.enc] using h⟩))
theorem jw (w : World) : Rets Tryz.prog 107 #[] w fun u_ w' => u_ = .agg #[.func (.func 147) #[] #[], .func (.func 151) #[] #[], .func (.func 153) #[] #[]] ∧ Own w [] [] w' := by
  refine zR Tryz.func107 rfl Tryz.ntmps107 (Own.start w) ?_
  refine zB (z3 (v := .agg #[.nilFunc, .nilFunc, .nilFunc]) (by kernel_rfl) rfl (fun b0 => zA (zB (yN (cs := [.func (.func 147) #[] #[], .func (.func 151) #[] #[], .func (.func 153) #[] #[]]) (z := [.nilFunc, .nilFunc, .nilFunc]) (pl := [(0, 1), (1, 1), (2, 1)]) (by kernel_rfl) (by kernel_rfl) rfl (zn 0 rfl rfl rfl (y5 rfl) rfl (zA ?_))))))
  exact zS (xp (cs := [.func (.func 147) #[] #[], .func (.func 151) #[] #[], .func (.func 153) #[] #[]]) rfl rfl (by kernel_rfl) (Own.rowCells (i := 0) rfl) (fun w' hw => ⟨rfl, hw.drop⟩))
theorem zAN (c : ConfD) (w : World) (hf : c.few) (rd_c : ConfD.rd c w []) : Rets Tryz.prog 140 #[.agg #[.func (.func 147) #[] #[], .func (.func 151) #[] #[], .func (.func 153) #[] #[]], .agg (ConfD.cells c).toArray] w fun u_ w' => ∃ (r : Value), u_ = .tuple #[r, Vi (zq c.ok)] ∧ Own w [] [Res.vec 5 1 r (if c.ok then c.enc else []).length ((if c.ok then c.enc else []).map vb)] w' := by
  have hc := hf.wf
  have hv := hf.vs
  have hl := hf.ls
  refine zR Tryz.func140 rfl Tryz.ntmps140 (Own.start w) ?_
  refine zB (zr rfl rfl (fun b2 => zr rfl rfl (fun b3 => zH rfl (zH rfl (zA (zQ (zB (zL (o := 0) rfl rfl (zI 0 (v := .func (.func 147) #[] #[]) rfl rfl rfl rfl (yO (cs := (ConfD.cells c)) 1 rfl rfl rfl (yV (fst := []) (cap := []) rfl (by kernel_rfl) rfl rfl (fun w' hw => (y7 c w' ‹_› (rd_c.at0 hw)).mono ?_))))))))))))
  rintro _ w1 ⟨rfl, hO⟩
  refine (?_ : CL _ _ _ _ _ _ (Own w [] [Res.row b2 193 [.func (.func 147) #[] #[], .func (.func 151) #[] #[], .func (.func 153) #[] #[]], Res.row b3 35 (ConfD.cells c)])) w1 (hw.frame0 hO)
  refine xJ (q := c.ok) rfl rfl (zA (zV rfl (fun c1 => ?_) (fun c1 => ?_)))
  ·
   refine zB (zH rfl (zH rfl (zA ?_)))
   exact zS (yj (v := .slice none 0 0) (v' := Vi 2) rfl rfl rfl (fun w' hw => ⟨.slice none 0 0, (by rw [kp c1]), by rw [if_neg c1]; exact (zz hw T8 1).one 2 rfl⟩))
  ·
   refine zP (zB (yN (cs := [.slice none 0 0]) (z := [.slice none 0 0]) (pl := [(0, 1)]) (by kernel_rfl) (by kernel_rfl) rfl (zr rfl rfl (fun b13 => zH rfl (zA (zB (zL (o := 1) rfl rfl (zI 0 (v := .func (.func 151) #[] #[]) rfl rfl rfl rfl (zC rfl (yO (cs := (ConfD.cells c)) 1 rfl rfl rfl ?_))))))))))
   refine xg [Res.row b2 193 [.func (.func 147) #[] #[], .func (.func 151) #[] #[], .func (.func 153) #[] #[]], Res.row b3 35 (ConfD.cells c), Res.bv b13 yA (.slice none 0 0) ([] : List UInt8)] (fun w' hw => (zz hw T8 1).joinBv (i := 2) (j := 3) (by decide) rfl rfl) ?_
   refine yV (fst := []) (cap := []) rfl (by kernel_rfl) rfl rfl (fun w' hw => (kT b13 (.slice none 0 0) ([] : List UInt8) c w' (by first | omega | (simp <;> omega) | (constructor <;> (first | omega | (simp <;> omega)))) (hw.give [2] rfl (by decide)) (rd_c.at hw [2] rfl)).mono ?_)
   rintro _ w1 ⟨sl'1_, rfl, hO⟩
   refine (?_ : CL _ _ _ _ _ _ (Own w [] [Res.row b2 193 [.func (.func 147) #[] #[], .func (.func 151) #[] #[], .func (.func 153) #[] #[]], Res.row b3 35 (ConfD.cells c), Res.bv b13 yA sl'1_ (([] : List UInt8) ++ c.enc)])) w1 (hw.frameL [2] rfl hO)
   refine zA (zB (zC rfl (za rfl rfl (zL (o := 0) rfl rfl ?_))))
   refine xg [Res.row b2 193 [.func (.func 147) #[] #[], .func (.func 151) #[] #[], .func (.func 153) #[] #[]], Res.row b3 35 (ConfD.cells c), Res.row b13 yA [sl'1_], Res.vec 5 1 sl'1_ (([] : List UInt8) ++ c.enc).length ((([] : List UInt8) ++ c.enc).map vb)] (fun w' hw => hw.splitBv (i := 2) (o := b13) (T := yA) (v := sl'1_) (bs := (([] : List UInt8) ++ c.enc)) rfl) ?_
   refine zI 2 (v := sl'1_) rfl rfl rfl rfl (zH rfl (zH rfl (zA ?_)))
   exact zS (yj (v := sl'1_) (v' := Vi 0) rfl rfl rfl (fun w' hw => ⟨sl'1_, (by rw [xa (Decidable.not_not.1 c1)]), by rw [if_pos (Decidable.not_not.1 c1)]; exact hw.one 3 rfl⟩))
theorem zBl (c : ConfD) (w : World) (hf : c.few) (rd_c : ConfD.rd c w []) : Rets Tryz.prog 91 #[.agg (ConfD.cells c).toArray] w fun u_ w' => ∃ (r : Value), u_ = .tuple #[r, Vi (zq c.ok)] ∧ Own w [] [Res.vec 5 1 r (if c.ok then c.enc else []).length ((if c.ok then c.enc else []).map vb)] w' := by
  refine zR Tryz.func91 rfl Tryz.ntmps91 (Own.start w) ?_
  refine zB (zr rfl rfl (fun b1 => zH rfl (zH rfl (zA (zQ (zc [0] rfl (by decide) (by kernel_rfl) (fun w' hw hS => zD 1 rfl (xh (cs := (ConfD.cells c)) 0 rfl rfl) hS (zK 0 rfl hw (zF rfl rfl (fun w' hw => (jw w').mono ?_))))))))))
  rintro _ w1 ⟨rfl, hO⟩
  refine (?_ : CL _ _ _ _ _ _ (Own w [] [Res.row b1 35 (ConfD.cells c)])) w1 (hw.frame0 hO)
  refine zE [0] rfl (by decide) (fun w' hw hS => zK 2 rfl hw (zF rfl rfl (fun w' hw => (zAN c w' ‹_› (rd_c.at0 hw)).mono ?_)))
  rintro _ w1 ⟨r1_, rfl, hO⟩
  refine (?_ : CL _ _ _ _ _ _ (Own w [] [Res.row b1 35 (ConfD.cells c), Res.vec 5 1 r1_ (if c.ok then c.enc else []).length ((if c.ok then c.enc else []).map vb)])) w1 (hw.frame0 hO)
  refine zE [0] rfl (by decide) (fun w' hw hS => zD 3 rfl (yu (vs := [r1_, Vi (zq c.ok)]) rfl rfl) hS (zD 4 rfl (yu (vs := [r1_, Vi (zq c.ok)]) rfl rfl) hS (zD 5 rfl (yU) hS (zD 6 rfl (yU) hS (zW ?_)))))
  refine (?_ : C _ _ _ _ _ _ _ (Own w [] [Res.row b1 35 (ConfD.cells c), Res.vec 5 1 r1_ (if c.ok then c.enc else []).length ((if c.ok then c.enc else []).map vb)])) _ hw
  exact zS (yj (v := r1_) (v' := Vi (zq c.ok)) rfl rfl rfl (fun w' hw => ⟨r1_, rfl, hw.sel [1] rfl (by decide)⟩))
theorem jy (c : ConfD) (w : World) (hf : c.few) (rd_c : ConfD.rd c w []) : Rets Tryz.prog 71 #[.agg (ConfD.cells c).toArray] w fun u_ w' => u_ = Vi (zq c.ok) ∧ Own w [] [] w' := by
  refine zR Tryz.func71 rfl Tryz.ntmps71 (Own.start w) ?_
  refine zB (zr rfl rfl (fun b1 => zH rfl (zA (zB (yO (cs := (ConfD.cells c)) 0 rfl rfl rfl (zF rfl rfl (fun w' hw => (zBl c w' ‹_› (rd_c.at0 hw)).mono ?_)))))))
  rintro _ w1 ⟨r1_, rfl, hO⟩
  refine (?_ : CL _ _ _ _ _ _ (Own w [] [Res.row b1 35 (ConfD.cells c), Res.vec 5 1 r1_ (if c.ok then c.enc else []).length ((if c.ok then c.enc else []).map vb)])) w1 (hw.frame0 hO)
  refine zC rfl (zh (vs := [r1_, Vi (zq c.ok)]) rfl rfl rfl (zh (vs := [r1_, Vi (zq c.ok)]) rfl rfl rfl (zH rfl (zH rfl (zA (zB (zC rfl (zH rfl (zA ?_)))))))))
  exact zS (zx (v := Vi (zq c.ok)) rfl rfl (fun w' hw => ⟨rfl, hw.drop⟩))
theorem kV (v : Value) (l : List Int) (n : Int) (w : World) (hl : zT l.length) (hv : Rd w [] (Res.sl v l.length (l.flatMap I1))) : Rets Tryz.prog 72 #[v, Vi n] w fun u_ w' => u_ = .bool (decide (n ∈ l)) ∧ Own w [] [] w' := by
  exact xi v l n w hl hv
theorem zBX (c : ConfD) (id : Int) (w : World) (hf : c.few) (rd_c : ConfD.rd c w []) : Rets Tryz.prog 35 #[.agg (ConfD.cells c).toArray, Vi id] w fun u_ w' => u_ = .bool (decide (c.ok ∧ id ∈ c.vs)) ∧ Own w [] [] w' := by
  have hc := hf.wf
  have hv := hc.vs
  have hl := hc.ls
  refine zR Tryz.func35 rfl Tryz.ntmps35 (Own.start w) ?_
  refine zB (zr rfl rfl (fun b2 => zH rfl (zA (zB (yO (cs := (ConfD.cells c)) 0 rfl rfl rfl (zF rfl rfl (fun w' hw => (jy c w' ‹_› (rd_c.at0 hw)).mono ?_)))))))
  rintro _ w1 ⟨rfl, hO⟩
  refine (?_ : CL _ _ _ _ _ _ (Own w [] [Res.row b2 35 (ConfD.cells c)])) w1 (hw.frame0 hO)
  refine yk rfl rfl rfl (zC rfl (yE (q := (zq c.ok) = 0) 4 3 [12, 11, 10, 9] (id ∈ c.vs) rfl rfl rfl rfl rfl rfl trivial rfl (fun h1_3 => ?_) (fun g1_8 => ?_)))
  ·
   refine zN rfl (gT h1_3) (zL (o := 0) rfl rfl (zN rfl (gT h1_3) (zI 0 (v := c.vv) rfl rfl rfl rfl (zN rfl (gT h1_3) (zC rfl (zN rfl (gT h1_3) (zF rfl rfl (fun w' hw => (kV c.vv c.vs id w' (by first | assumption | omega | (simp <;> omega) | (constructor <;> (first | omega | (simp only [zT]; omega) | (simp <;> omega)))) (hw.rd0 rd_c.vv)).mono ?_))))))))
   rintro _ w1 ⟨rfl, hO⟩
   refine (?_ : CL _ _ _ _ _ _ (Own w [] [Res.row b2 35 (ConfD.cells c)])) w1 (hw.frame0 hO)
   exact z7 rfl (fun _ hw => hw)
  refine zH rfl (zA ?_)
  exact zS (zx (v := .bool (decide (((zq c.ok) = 0) ∧ (id ∈ c.vs)))) rfl rfl (fun w' hw => ⟨(by congr 1; exact decide_eq_decide.2 (by rw [errOf_zero])), hw.drop⟩))
def cnt (vs ids : List Int) : Nat := (vs.filter (· ∈ ids)).length
theorem zEe (vs ids : List Int) : cnt vs ids ≤ vs.length := List.length_filter_le _ _
theorem zAa (vs ids : List Int) (x : Int) : cnt (vs ++ [x]) ids = cnt vs ids + if x ∈ ids then 1 else 0 := by
  unfold cnt
  rw [List.filter_append, List.length_append]
  by_cases h : x ∈ ids <;> simp [List.filter_cons, h]
def ConfD.quorum (c : ConfD) (ids : List Int) : Prop := c.ok ∧ c.vs.length < 2 * cnt c.vs ids
instance (c : ConfD) (ids : List Int) : Decidable (c.quorum ids) := inferInstanceAs (Decidable (_ ∧ _))
theorem yD (c : ConfD) (v : Value) (ids : List Int) (w : World) (hf : c.few) (hids : zT ids.length) (hi : Rd w [] (Res.sl v ids.length (ids.flatMap I1))) (rd_c : ConfD.rd c w []) : Rets Tryz.prog 69 #[.agg (ConfD.cells c).toArray, v] w fun u_ w' => u_ = .bool (decide (c.quorum ids)) ∧ Own w [] [] w' := by
  have hc := hf.wf
  have hv := hf.vs
  have hl := hc.ls
  refine zR Tryz.func69 rfl Tryz.ntmps69 (Own.start w) ?_
  refine zB (zr rfl rfl (fun b2 => zH rfl (zA (zB (zH rfl (zA (zQ (zB (zL (o := 0) rfl rfl (zI 0 (v := c.vv) rfl rfl rfl rfl (zk (pR rd_c.vv) rfl rfl (zC rfl ?_))))))))))))
  refine zA (zY ?_)
  refine yM (fun (k : Nat) => [(1, v), (2, .pointer (some ⟨b2, 0, none⟩)), (5, Vj (cnt (c.vs.take k) ids)), (9, c.vv), (10, Vj c.vs.length), (11, Vj k)]) (fun (k : Nat) => k ≤ c.vs.length) (fun (k : Nat) => [Res.row b2 35 (ConfD.cells c)]) (fun (k : Nat) => c.vs.length - k) (fun w' hw => ⟨0, ⟨rfl, rfl, rfl, rfl, rfl, rfl, trivial⟩, Nat.zero_le _, hw⟩) (fun k g hΦ => ?_)
  have hcl := zEe (c.vs.take k) ids
  have hkl : (c.vs.take k).length ≤ k := by simp; omega
  have htk := hΦ
  refine zB (z4 rfl rfl rfl (zA (zQ (zV rfl (fun c1 => ?_) (fun c1 => ?_)))))
  ·
   refine zP (zQ (zY (zB (z6 (pR rd_c.vv) 1 k rfl rfl rfl (by omega) rfl (yY (pR rd_c.vv) 1 k 0 (fun _ => rfl) rfl rfl (by omega) rfl rfl (zH rfl (zA (zB (zC rfl (zC rfl (zF rfl rfl (fun w' hw => (kV v ids (zU c.vs k) w' (by first | assumption | omega | (simp <;> omega) | (constructor <;> (first | omega | (simp only [zT]; omega) | (simp <;> omega)))) (hw.rd0 hi)).mono ?_))))))))))))
   rintro _ w1 ⟨rfl, hO⟩
   refine (?_ : CL _ _ _ _ _ _ (Own w [] [Res.row b2 35 (ConfD.cells c)])) w1 (hw.frame0 hO)
   refine zA (zV rfl (fun c2 => ?_) (fun c2 => ?_))
   ·
    have e2 : cnt (c.vs.take (k + 1)) ids = cnt (c.vs.take k) ids + 1 := by have := zAa (c.vs.take k) ids (zU c.vs k); rw [if_pos c2] at this; rw [z5 (by omega)]; exact this
    refine zZ (zC rfl (zu rfl rfl (zo (by omega)) rfl (zH rfl (zA (zZ (zu rfl rfl (zo (by omega)) rfl (zC rfl ?_)))))))
    exact zl (fun w' hw => ⟨k + 1, ⟨rfl, rfl, by rw [e2]; rfl, rfl, rfl, rfl, trivial⟩, (by omega), hw, (by omega)⟩)
   ·
    have e2 : cnt (c.vs.take (k + 1)) ids = cnt (c.vs.take k) ids := by have := zAa (c.vs.take k) ids (zU c.vs k); rw [if_neg c2] at this; rw [z5 (by omega)]; exact this
    refine zP (zZ (zu rfl rfl (zo (by omega)) rfl (zC rfl ?_)))
    exact zl (fun w' hw => ⟨k + 1, ⟨rfl, rfl, by rw [e2]; rfl, rfl, rfl, rfl, trivial⟩, (by omega), hw, (by omega)⟩)
  ·
   refine z8 rfl (zB (yO (cs := (ConfD.cells c)) 0 rfl rfl rfl (zF rfl rfl (fun w' hw => (jy c w' ‹_› (rd_c.at0 hw)).mono ?_))))
   rintro _ w1 ⟨rfl, hO⟩
   refine (?_ : CL _ _ _ _ _ _ (Own w [] [Res.row b2 35 (ConfD.cells c)])) w1 (hw.frame0 hO)
   refine yk rfl rfl rfl (zC rfl (yE (q := (zq c.ok) = 0) 6 3 [30, 29, 28, 27, 26, 25] (((c.vs.length : Nat) : Int) < ((2 * (cnt (c.vs.take k) ids) : Nat) : Int)) rfl rfl rfl rfl rfl rfl trivial rfl (fun h8_3 => ?_) (fun g8_10 => ?_)))
   ·
    refine zN rfl (gT h8_3) (zC rfl (zN rfl (gT h8_3) (zCI rfl rfl (zo (by omega)) rfl (zN rfl (gT h8_3) (zL (o := 0) rfl rfl (zN rfl (gT h8_3) (zI 0 (v := c.vv) rfl rfl rfl rfl (zN rfl (gT h8_3) (zk (pR rd_c.vv) rfl rfl (zN rfl (gT h8_3) (yP rfl rfl rfl ?_)))))))))))
    exact z7 rfl (fun _ hw => hw)
   refine zH rfl (zA ?_)
   exact zS (zx (v := .bool (decide (((zq c.ok) = 0) ∧ (((c.vs.length : Nat) : Int) < ((2 * (cnt (c.vs.take k) ids) : Nat) : Int))))) rfl rfl (fun w' hw => ⟨(by congr 1; exact decide_eq_decide.2 (by unfold ConfD.quorum; rw [errOf_zero, List.take_of_length_le (by omega)]; rw [List.take_of_length_le (by omega)] at hcl; exact and_congr_right fun _ => by omega)), hw.drop⟩))
end Go.Proofs.YtkkeknmkipkbmaaGreat