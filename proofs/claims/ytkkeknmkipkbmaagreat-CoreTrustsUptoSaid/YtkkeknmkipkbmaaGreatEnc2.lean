import Derived.Test.YtkkeknmkipkbmaaGreatEnc
set_option linter.unusedSectionVars false
set_option linter.unusedSimpArgs false
set_option linter.unusedVariables false
set_option maxRecDepth 10000
namespace Go.Proofs.YtkkeknmkipkbmaaGreat
open Go Go.Sc Go.Proofs
structure ShtA where
  index : Nat
  term : Nat
  conf : ConfA
  data : List UInt8
  deriving DecidableEq
structure ShtD where
  index : Nat
  term : Nat
  conf : ConfD
  dv : Value
  data : List UInt8
def ShtD.a (x : ShtD) : ShtA := ⟨x.index, x.term, x.conf.a, x.data⟩
structure ShtD.wf (x : ShtD) : Prop where
  index : x.index < 18446744073709551616
  term : x.term < 18446744073709551616
  conf : x.conf.few
  data : x.data.length ≤ 1000000000
def ShtD.cells (x : ShtD) : List Value := [.int .u64 x.index, .int .u64 x.term] ++ (x.conf.cells ++ [x.dv])
structure ShtD.rd (x : ShtD) (w : World) (S : List Nat) : Prop where
  conf : x.conf.rd w S
  dv : Rd w S (Res.sl x.dv x.data.length (x.data.map vb))
theorem ShtD.rd.at0 {x : ShtD} {w0 w : World} {S : List Nat} {L : List Res} (h : x.rd w0 S) (hw : Own w0 S L w) : x.rd w [] := ⟨h.conf.at0 hw, hw.rd0 h.dv⟩
theorem ShtD.rd.at {x : ShtD} {w0 w : World} {S : List Nat} {L Lin : List Res} (h : x.rd w0 S) (hw : Own w0 S L w) (m : List Nat) (hm : m.mapM (fun i => L[i]?) = some Lin) : x.rd w (y8 Lin) := ⟨h.conf.at hw m hm, hw.rdTo h.dv m hm⟩
def ShtA.ok (x : ShtA) : Prop := (((x.conf.ok ∧ x.data.length ≤ 32768) ∧ (x.index = 0 ↔ x.term = 0)) ∧ x.index ≤ 4611686018427387904) ∧ x.term ≤ 4611686018427387904
instance (x : ShtA) : Decidable x.ok := inferInstanceAs (Decidable ((((_ ∧ _) ∧ _) ∧ _) ∧ _))
def ConfA.enc (c : ConfA) : List UInt8 := zAt c.vs ++ zAt c.ls
def ShtA.enc (x : ShtA) : List UInt8 := zp [x.index, x.term] ++ x.conf.enc ++ dat x.data
theorem ConfD.enc_le {c : ConfD} : c.enc.length ≤ 9 * (c.vs.length + c.ls.length + 2) := by
  have h1 := jT c.vs
  have h2 := jT c.ls
  simp only [ConfD.enc, List.length_append]; omega
theorem ShtD.enc_le {x : ShtD} (h : x.wf) : x.a.enc.length ≤ x.data.length + 9 * (x.conf.vs.length + x.conf.ls.length + 2) + 40 := by
  have h1 := yI (ns := [x.index, x.term]) (by have := h.index; have := h.term; simp [*])
  have h2 := jA x.data (by have := h.data; omega)
  have h3 : x.a.conf.enc.length ≤ _ := x.conf.enc_le
  have e : x.a.enc.length = (zp [x.index, x.term]).length + x.a.conf.enc.length + (dat x.data).length := by simp [ShtA.enc, ShtD.a]; omega
  simp only [List.length_cons, List.length_nil] at h1
  omega
def confsC : List Value := [.func (.func 147) #[] #[], .func (.func 151) #[] #[], .func (.func 153) #[] #[]]
theorem zD3 (x : ShtD) (cb : Nat) (w : World) (hx : x.wf) (hcb : Rd w [] (Res.row cb 193 [.func (.func 147) #[] #[], .func (.func 151) #[] #[], .func (.func 153) #[] #[]])) (rd_x : ShtD.rd x w []) : Rets Tryz.prog 108 #[.agg (ShtD.cells x).toArray, .pointer (some ⟨cb, 0, none⟩)] w fun u_ w' => u_ = .bool (decide x.a.ok) ∧ Own w [] [] w' := by
  have hd := hx.data
  have hf := hx.conf
  have hc := hx.conf.wf
  refine zT Tryz.func108 rfl Tryz.ntmps108 (Own.start w) ?_
  refine zB (z7 rfl rfl (fun b2 => zK rfl (zA (zB (zJ (o := 0) rfl rfl (xq (v := .func (.func 147) #[] #[]) rfl (hcb.φ.cell rfl) (hcb.far _ (by simp [Res.row])) (by kernel_rfl) rfl (zJ (o := 2) rfl rfl (zAO 0 (ConfD.cells x.conf) rfl rfl (kW 2 rfl) (by kernel_rfl) rfl (yh (fst := []) (cap := []) rfl (by kernel_rfl) rfl rfl (fun w' hw => (xl x.conf w' ‹_› (rd_x.conf.at0 hw)).mono ?_))))))))))
  rintro _ w1 ⟨rfl, hO⟩
  refine (?_ : CL _ _ _ _ _ _ (Own w [] [Res.row b2 38 (ShtD.cells x)])) w1 (hw.frame0 hO)
  refine zD rfl (yd (q := x.conf.ok) 4 5 [13, 12, 11, 10] (((x.data.length : Nat) : Int) ≤ 32768) rfl rfl rfl rfl rfl rfl trivial rfl (fun h1_5 => ?_) (fun g1_10 => ?_))
  ·
   refine zO rfl (gT h1_5) (zJ (o := 4) rfl rfl (zO rfl (gT h1_5) (zM 0 (v := x.dv) rfl rfl rfl rfl (zO rfl (gT h1_5) (zq (pR rd_x.dv) rfl rfl (zO rfl (gT h1_5) (x4 rfl rfl rfl ?_)))))))
   exact yK rfl (fun _ hw => hw)
  refine zD rfl (yd (q := x.conf.ok ∧ (((x.data.length : Nat) : Int) ≤ 32768)) 7 11 [22, 21, 20, 19, 18, 17, 16] ((((x.index : Nat) : Int) = ((0 : Nat) : Int)) ↔ (((x.term : Nat) : Int) = ((0 : Nat) : Int))) rfl rfl rfl rfl rfl rfl trivial rfl (fun h1_11 => ?_) (fun g1_19 => ?_))
  ·
   refine zO rfl (gT h1_11) (zJ (o := 0) rfl rfl (zO rfl (gT h1_11) (zM 0 (v := Vn x.index) rfl rfl rfl rfl (zO rfl (gT h1_11) (yZ rfl rfl rfl (zO rfl (gT h1_11) (zJ (o := 1) rfl rfl (zO rfl (gT h1_11) (zM 0 (v := Vn x.term) rfl rfl rfl rfl (zO rfl (gT h1_11) (yZ rfl rfl rfl (zO rfl (gT h1_11) ?_))))))))))))
   refine zJS (by kernel_rfl) rfl rfl rfl ?_
   exact yK rfl (fun _ hw => hw)
  refine zD rfl (yd (q := (x.conf.ok ∧ (((x.data.length : Nat) : Int) ≤ 32768)) ∧ ((((x.index : Nat) : Int) = ((0 : Nat) : Int)) ↔ (((x.term : Nat) : Int) = ((0 : Nat) : Int)))) 6 20 [30, 29, 28, 27, 26, 25] (((max x.index x.term : Nat) : Int) ≤ ((4611686018427387904 : Nat) : Int)) rfl rfl rfl rfl rfl rfl trivial rfl (fun h1_20 => ?_) (fun g1_27 => ?_))
  ·
   refine zO rfl (gT h1_20) (zJ (o := 0) rfl rfl (zO rfl (gT h1_20) (zM 0 (v := Vn x.index) rfl rfl rfl rfl (zO rfl (gT h1_20) (zJ (o := 1) rfl rfl (zO rfl (gT h1_20) (zM 0 (v := Vn x.term) rfl rfl rfl rfl (zO rfl (gT h1_20) (zBU (c := ((max x.index x.term : Nat) : Int)) rfl rfl (zCR _ _) rfl (zO rfl (gT h1_20) (x4 rfl rfl rfl ?_)))))))))))
   exact yK rfl (fun _ hw => hw)
  refine zK rfl (zA ?_)
  exact zY (yD (v := .bool (decide (((x.conf.ok ∧ (((x.data.length : Nat) : Int) ≤ 32768)) ∧ ((((x.index : Nat) : Int) = ((0 : Nat) : Int)) ↔ (((x.term : Nat) : Int) = ((0 : Nat) : Int)))) ∧ (((max x.index x.term : Nat) : Int) ≤ ((4611686018427387904 : Nat) : Int))))) rfl rfl (fun w' hw => ⟨(by congr 1; exact decide_eq_decide.2 (by unfold ShtA.ok ShtD.a; dsimp only; exact ⟨fun h => ⟨⟨⟨⟨h.1.1.1, by have := h.1.1.2; omega⟩, by have := h.1.2; omega⟩, by have := h.2; omega⟩, by have := h.2; omega⟩, fun h => ⟨⟨⟨h.1.1.1.1, by have := h.1.1.1.2; omega⟩, by have := h.1.1.2; omega⟩, by have := h.1.2; have := h.2; omega⟩⟩)), hw.drop⟩))
theorem zDv {S : List Nat} (o : Nat) (sl : Value) (bs : List UInt8) (x : ShtD) (cb : Nat) (w : World) (hx : x.wf) (hb : bs.length + x.a.enc.length ≤ 50000000000) (hin : Own w S [Res.bv o yW sl bs] w) (hcb : Rd w S (Res.row cb 193 [.func (.func 147) #[] #[], .func (.func 151) #[] #[], .func (.func 153) #[] #[]])) (rd_x : ShtD.rd x w S) : Rets Tryz.prog 109 #[.pointer (some ⟨o, 0, none⟩), .agg (ShtD.cells x).toArray, .pointer (some ⟨cb, 0, none⟩)] w fun u_ w' => ∃ (sl' : Value), u_ = .tuple #[] ∧ Own w S [Res.bv o yW sl' (bs ++ x.a.enc)] w' := by
  have hd := hx.data
  have h1 := hx.index
  have h2 := hx.term
  have hv := hx.conf.vs
  have hl := hx.conf.ls
  have hce := x.conf.enc_le
  have he : x.a.enc.length = (zp [x.index, x.term]).length + x.conf.enc.length + (dat x.data).length := by simp [ShtA.enc, ShtD.a, ConfD.enc, ConfA.enc, ConfD.a]; omega
  refine zT Tryz.func109 rfl Tryz.ntmps109 hin ?_
  refine zB (z7 rfl rfl (fun b4 => zA (zB (zD rfl (zJ (o := 0) rfl rfl (zM 1 (v := Vn x.index) rfl rfl rfl rfl (zJ (o := 1) rfl rfl (zM 1 (v := Vn x.term) rfl rfl rfl rfl (z4 (e := 22) (sz := 1) (vs := [Vn x.index, Vn x.term]) (by kernel_rfl) rfl rfl (by simp [Value.cells]) (by decide) rfl (fun b10 => zH rfl rfl (fun w' hw => (js o _ _ (.slice (some ⟨b10, 0, none⟩) 2 2) [x.index, x.term] w' (by first | assumption | (simp [y2]; done) | (simp [y2]; omega) | (simp; omega)) (by first | omega | (simp <;> omega) | (constructor <;> (first | omega | (simp <;> omega)))) (hw.give [0] rfl (by decide)) (hw.rdVec 2 rfl [0] rfl rfl)).mono ?_)))))))))))
  rintro _ w1 ⟨sl'1_, rfl, hO⟩
  refine (?_ : CL _ _ _ _ _ _ (Own w S [Res.row b4 38 (ShtD.cells x), Res.vec 22 1 (.slice (some ⟨b10, 0, none⟩) 2 2) [x.index, x.term].length ([x.index, x.term].flatMap U1), Res.bv o yW sl'1_ (bs ++ zp [x.index, x.term])])) w1 (hw.frameL [0] rfl hO)
  refine zA (zB (zJ (o := 1) rfl rfl (xq (v := .func (.func 151) #[] #[]) rfl (hcb.φ.cell rfl) (hcb.far _ (by simp [Res.row])) (by kernel_rfl) rfl (zD rfl (zJ (o := 2) rfl rfl (zAO 0 (ConfD.cells x.conf) rfl rfl (kW 2 rfl) (by kernel_rfl) rfl (yh (fst := []) (cap := []) rfl (by kernel_rfl) rfl rfl (fun w' hw => (jV o sl'1_ (bs ++ zp [x.index, x.term]) x.conf w' (by first | omega | (simp <;> omega) | (constructor <;> (first | omega | (simp <;> omega)))) (hw.give [2] rfl (by decide)) (rd_x.conf.at hw [2] rfl)).mono ?_))))))))
  rintro _ w1 ⟨sl'2_, rfl, hO⟩
  refine (?_ : CL _ _ _ _ _ _ (Own w S [Res.row b4 38 (ShtD.cells x), Res.vec 22 1 (.slice (some ⟨b10, 0, none⟩) 2 2) [x.index, x.term].length ([x.index, x.term].flatMap U1), Res.bv o yW sl'2_ ((bs ++ zp [x.index, x.term]) ++ x.conf.enc)])) w1 (hw.frameL [2] rfl hO)
  refine zA (zW (zD rfl (zJ (o := 4) rfl rfl (zM 0 (v := x.dv) rfl rfl rfl rfl (zCO (e := 36) (vs := [x.dv]) (by kernel_rfl) rfl rfl (zF (Sl.cell1 (Rd.φ rd_x.dv)) zw) (by decide) rfl (fun b21 => zH rfl rfl (fun w' hw => (zED o sl'2_ ((bs ++ zp [x.index, x.term]) ++ x.conf.enc) (.slice (some ⟨b21, 0, none⟩) 1 1) [(x.dv, x.data)] w' (by simp [y4]; omega) (by show 1 ≤ _; omega) (hw.give [2] rfl (by decide)) (hw.rdVec 3 rfl [2] rfl rfl) (all_cons (hw.rdTo rd_x.dv [2] rfl) (fun p hp => by cases hp))).mono ?_)))))))
  rintro _ w1 ⟨sl'3_, rfl, hO⟩
  refine (?_ : CL _ _ _ _ _ _ (Own w S [Res.row b4 38 (ShtD.cells x), Res.vec 22 1 (.slice (some ⟨b10, 0, none⟩) 2 2) [x.index, x.term].length ([x.index, x.term].flatMap U1), Res.vec 36 1 (.slice (some ⟨b21, 0, none⟩) 1 1) [(x.dv, x.data)].length ([(x.dv, x.data)].flatMap pv), Res.bv o yW sl'3_ (((bs ++ zp [x.index, x.term]) ++ x.conf.enc) ++ y4 [(x.dv, x.data)])])) w1 (hw.frameL [2] rfl hO)
  exact zj (yM rfl (fun w' hw => ⟨sl'3_, rfl, by have h := hw.one 3 rfl; simpa [ShtA.enc, ShtD.a, ConfD.enc, ConfA.enc, ConfD.a, y4] using h⟩))
theorem zIb (w : World) : Rets Tryz.prog 62 #[] w fun u_ w' => ∃ (cb : Nat), u_ = .agg #[.func (.func 108) #[] #[.pointer (some ⟨cb, 0, none⟩)], .func (.func 109) #[] #[.pointer (some ⟨cb, 0, none⟩)], .func (.func 111) #[] #[.pointer (some ⟨cb, 0, none⟩)]] ∧ Own w [] [Res.row cb 193 [.func (.func 147) #[] #[], .func (.func 151) #[] #[], .func (.func 153) #[] #[]]] w' := by
  refine zT Tryz.func62 rfl Tryz.ntmps62 (Own.start w) ?_
  refine zB (yS (v := .agg #[.nilFunc, .nilFunc, .nilFunc]) (by kernel_rfl) rfl (fun b0 => zA (zB (zH rfl rfl (fun w' hw => (zA1 w').mono ?_)))))
  rintro _ w1 ⟨rfl, hO⟩
  refine (?_ : CL _ _ _ _ _ _ (Own w [] [Res.row b0 139 [.nilFunc, .nilFunc, .nilFunc]])) w1 (hw.frame0 hO)
  refine yS (v := .agg #[.nilFunc, .nilFunc, .nilFunc]) (by kernel_rfl) rfl (fun b1 => yH 1 rfl rfl rfl (xx rfl) rfl (zA (zB (zAs (va := []) (vb := [.pointer (some ⟨b1, 0, none⟩)]) rfl rfl rfl (zAs (va := []) (vb := [.pointer (some ⟨b1, 0, none⟩)]) rfl rfl rfl (zAs (va := []) (vb := [.pointer (some ⟨b1, 0, none⟩)]) rfl rfl rfl (yc (cs := [.func (.func 108) #[] #[.pointer (some ⟨b1, 0, none⟩)], .func (.func 109) #[] #[.pointer (some ⟨b1, 0, none⟩)], .func (.func 111) #[] #[.pointer (some ⟨b1, 0, none⟩)]]) (z := [.nilFunc, .nilFunc, .nilFunc]) (pl := [(0, 1), (1, 1), (2, 1)]) (by kernel_rfl) (by kernel_rfl) rfl (yH 0 rfl rfl rfl (xx rfl) rfl (zA ?_)))))))))
  exact zY (jt (cs := [.func (.func 108) #[] #[.pointer (some ⟨b1, 0, none⟩)], .func (.func 109) #[] #[.pointer (some ⟨b1, 0, none⟩)], .func (.func 111) #[] #[.pointer (some ⟨b1, 0, none⟩)]]) rfl rfl (by kernel_rfl) (Own.rowCells (i := 0) rfl) (fun w' hw => ⟨b1, rfl, hw.sel [1] rfl (by decide)⟩))
theorem zEG (x : ShtD) (cb : Nat) (w : World) (hx : x.wf) (hcb : Rd w [] (Res.row cb 193 [.func (.func 147) #[] #[], .func (.func 151) #[] #[], .func (.func 153) #[] #[]])) (rd_x : ShtD.rd x w []) : Rets Tryz.prog 63 #[.agg #[.func (.func 108) #[] #[.pointer (some ⟨cb, 0, none⟩)], .func (.func 109) #[] #[.pointer (some ⟨cb, 0, none⟩)], .func (.func 111) #[] #[.pointer (some ⟨cb, 0, none⟩)]], .agg (ShtD.cells x).toArray] w fun u_ w' => ∃ (r : Value), u_ = .tuple #[r, Vi (yC x.a.ok)] ∧ Own w [] [Res.vec 5 1 r (if x.a.ok then x.a.enc else []).length ((if x.a.ok then x.a.enc else []).map vb)] w' := by
  have hd := hx.data
  have hle := ShtD.enc_le hx
  have hv := hx.conf.vs
  have hl := hx.conf.ls
  refine zT Tryz.func63 rfl Tryz.ntmps63 (Own.start w) ?_
  refine zB (z7 rfl rfl (fun b2 => z7 rfl rfl (fun b3 => zK rfl (zK rfl (zA (zQ (zB (zJ (o := 0) rfl rfl (zM 0 (v := .func (.func 108) #[] #[.pointer (some ⟨cb, 0, none⟩)]) rfl rfl rfl rfl (yY (cs := (ShtD.cells x)) 1 rfl rfl rfl (yh (fst := []) (cap := [.pointer (some ⟨cb, 0, none⟩)]) rfl (by kernel_rfl) rfl rfl (fun w' hw => (zD3 x cb w' ‹_› (hw.rd0 hcb) (rd_x.at0 hw)).mono ?_))))))))))))
  rintro _ w1 ⟨rfl, hO⟩
  refine (?_ : CL _ _ _ _ _ _ (Own w [] [Res.row b2 139 [.func (.func 108) #[] #[.pointer (some ⟨cb, 0, none⟩)], .func (.func 109) #[] #[.pointer (some ⟨cb, 0, none⟩)], .func (.func 111) #[] #[.pointer (some ⟨cb, 0, none⟩)]], Res.row b3 38 (ShtD.cells x)])) w1 (hw.frame0 hO)
  refine xM (q := x.a.ok) rfl rfl (zA (zf rfl (fun c1 => ?_) (fun c1 => ?_)))
  ·
   refine zB (zK rfl (zK rfl (zA ?_)))
   exact zY (xP (v := .slice none 0 0) (v' := Vi 2) rfl rfl rfl (fun w' hw => ⟨.slice none 0 0, (by rw [jX c1]), by rw [if_neg c1]; exact (zt hw T8 1).one 2 rfl⟩))
  ·
   refine zR (zB (yc (cs := [.slice none 0 0]) (z := [.slice none 0 0]) (pl := [(0, 1)]) (by kernel_rfl) (by kernel_rfl) rfl (z7 rfl rfl (fun b13 => zK rfl (zA (zB (zJ (o := 1) rfl rfl (zM 0 (v := .func (.func 109) #[] #[.pointer (some ⟨cb, 0, none⟩)]) rfl rfl rfl rfl (zD rfl (yY (cs := (ShtD.cells x)) 1 rfl rfl rfl ?_))))))))))
   refine zx [Res.row b2 139 [.func (.func 108) #[] #[.pointer (some ⟨cb, 0, none⟩)], .func (.func 109) #[] #[.pointer (some ⟨cb, 0, none⟩)], .func (.func 111) #[] #[.pointer (some ⟨cb, 0, none⟩)]], Res.row b3 38 (ShtD.cells x), Res.bv b13 yW (.slice none 0 0) ([] : List UInt8)] (fun w' hw => (zt hw T8 1).joinBv (i := 2) (j := 3) (by decide) rfl rfl) ?_
   refine yh (fst := []) (cap := [.pointer (some ⟨cb, 0, none⟩)]) rfl (by kernel_rfl) rfl rfl (fun w' hw => (zDv b13 (.slice none 0 0) ([] : List UInt8) x cb w' ‹_› (by first | omega | (simp <;> omega) | (constructor <;> (first | omega | (simp <;> omega)))) (hw.give [2] rfl (by decide)) (hw.rdTo hcb [2] rfl) (rd_x.at hw [2] rfl)).mono ?_)
   rintro _ w1 ⟨sl'1_, rfl, hO⟩
   refine (?_ : CL _ _ _ _ _ _ (Own w [] [Res.row b2 139 [.func (.func 108) #[] #[.pointer (some ⟨cb, 0, none⟩)], .func (.func 109) #[] #[.pointer (some ⟨cb, 0, none⟩)], .func (.func 111) #[] #[.pointer (some ⟨cb, 0, none⟩)]], Res.row b3 38 (ShtD.cells x), Res.bv b13 yW sl'1_ (([] : List UInt8) ++ x.a.enc)])) w1 (hw.frameL [2] rfl hO)
   refine zA (zB (zD rfl (zh rfl rfl (zJ (o := 0) rfl rfl ?_))))
   refine zx [Res.row b2 139 [.func (.func 108) #[] #[.pointer (some ⟨cb, 0, none⟩)], .func (.func 109) #[] #[.pointer (some ⟨cb, 0, none⟩)], .func (.func 111) #[] #[.pointer (some ⟨cb, 0, none⟩)]], Res.row b3 38 (ShtD.cells x), Res.row b13 yW [sl'1_], Res.vec 5 1 sl'1_ (([] : List UInt8) ++ x.a.enc).length ((([] : List UInt8) ++ x.a.enc).map vb)] (fun w' hw => hw.splitBv (i := 2) (o := b13) (T := yW) (v := sl'1_) (bs := (([] : List UInt8) ++ x.a.enc)) rfl) ?_
   refine zM 2 (v := sl'1_) rfl rfl rfl rfl (zK rfl (zK rfl (zA ?_)))
   exact zY (xP (v := sl'1_) (v' := Vi 0) rfl rfl rfl (fun w' hw => ⟨sl'1_, (by rw [jD (Decidable.not_not.1 c1)]), by rw [if_pos (Decidable.not_not.1 c1)]; exact hw.one 3 rfl⟩))
theorem zFn (x : ShtD) (w : World) (hx : x.wf) (rd_x : ShtD.rd x w []) : Rets Tryz.prog 26 #[.agg (ShtD.cells x).toArray] w fun u_ w' => ∃ (r : Value), u_ = .tuple #[r, Vi (yC x.a.ok)] ∧ Own w [] [Res.vec 5 1 r (if x.a.ok then x.a.enc else []).length ((if x.a.ok then x.a.enc else []).map vb)] w' := by
  refine zT Tryz.func26 rfl Tryz.ntmps26 (Own.start w) ?_
  refine zB (z7 rfl rfl (fun b1 => zK rfl (zK rfl (zA (zQ (zk [0] rfl (by decide) (by kernel_rfl) (fun w' hw hS => zC 1 rfl (xp (cs := (ShtD.cells x)) 0 rfl rfl) hS (zN 0 rfl hw (zH rfl rfl (fun w' hw => (zIb w').mono ?_))))))))))
  rintro _ w1 ⟨cb1_, rfl, hO⟩
  refine (?_ : CL _ _ _ _ _ _ (Own w [] [Res.row b1 38 (ShtD.cells x), Res.row cb1_ 193 [.func (.func 147) #[] #[], .func (.func 151) #[] #[], .func (.func 153) #[] #[]]])) w1 (hw.frame0 hO)
  refine zE [0] rfl (by decide) (fun w' hw hS => zN 2 rfl hw (zH rfl rfl (fun w' hw => (zEG x cb1_ w' ‹_› (hw.rdRes0 1 rfl) (rd_x.at0 hw)).mono ?_)))
  rintro _ w1 ⟨r2_, rfl, hO⟩
  refine (?_ : CL _ _ _ _ _ _ (Own w [] [Res.row b1 38 (ShtD.cells x), Res.row cb1_ 193 [.func (.func 147) #[] #[], .func (.func 151) #[] #[], .func (.func 153) #[] #[]], Res.vec 5 1 r2_ (if x.a.ok then x.a.enc else []).length ((if x.a.ok then x.a.enc else []).map vb)])) w1 (hw.frame0 hO)
  refine zE [0] rfl (by decide) (fun w' hw hS => zC 3 rfl (yx (vs := [r2_, Vi (yC x.a.ok)]) rfl rfl) hS (zC 4 rfl (yx (vs := [r2_, Vi (yC x.a.ok)]) rfl rfl) hS (zC 5 rfl (ya) hS (zC 6 rfl (ya) hS (zX ?_)))))
  refine (?_ : C _ _ _ _ _ _ _ (Own w [] [Res.row b1 38 (ShtD.cells x), Res.row cb1_ 193 [.func (.func 147) #[] #[], .func (.func 151) #[] #[], .func (.func 153) #[] #[]], Res.vec 5 1 r2_ (if x.a.ok then x.a.enc else []).length ((if x.a.ok then x.a.enc else []).map vb)])) _ hw
  exact zY (xP (v := r2_) (v' := Vi (yC x.a.ok)) rfl rfl rfl (fun w' hw => ⟨r2_, rfl, hw.sel [2] rfl (by decide)⟩))
structure HrdD where
  term : Nat
  vote : Int
  deriving DecidableEq
def HrdD.cells (x : HrdD) : List Value := [.int .u64 x.term, .int .i64 x.vote]
def HrdD.ok (x : HrdD) : Prop := 0 ≤ x.vote ∧ x.vote ≤ 16
instance (x : HrdD) : Decidable x.ok := inferInstanceAs (Decidable (_ ∧ _))
def HrdD.enc (x : HrdD) : List UInt8 := zp [x.term, u64 x.vote]
theorem zDt (x : HrdD) (w : World) : Rets Tryz.prog 101 #[.agg (HrdD.cells x).toArray] w fun u_ w' => u_ = .bool (decide x.ok) ∧ Own w [] [] w' := by
  refine zT Tryz.func101 rfl Tryz.ntmps101 (Own.start w) ?_
  refine zB (z7 rfl rfl (fun b1 => zK rfl (zA (zB (zJ (o := 1) rfl rfl (zM 0 (v := Vi x.vote) rfl rfl rfl rfl (kK rfl rfl rfl (zD rfl (yd (q := 0 ≤ x.vote) 3 3 [9, 8, 7] (x.vote ≤ 16) rfl rfl rfl rfl rfl rfl trivial rfl (fun h1_3 => ?_) (fun g1_7 => ?_))))))))))
  ·
   refine zO rfl (gT h1_3) (zJ (o := 1) rfl rfl (zO rfl (gT h1_3) (zM 0 (v := Vi x.vote) rfl rfl rfl rfl (zO rfl (gT h1_3) (x4 rfl rfl rfl ?_)))))
   exact yK rfl (fun _ hw => hw)
  refine zK rfl (zA ?_)
  exact zY (yD (v := .bool (decide ((0 ≤ x.vote) ∧ (x.vote ≤ 16)))) rfl rfl (fun w' hw => ⟨rfl, hw.drop⟩))
theorem zEX {S : List Nat} (o : Nat) (sl : Value) (bs : List UInt8) (x : HrdD) (w : World) (hb : bs.length ≤ 10000000000) (hx : x.term < 18446744073709551616) (hin : Own w S [Res.bv o yW sl bs] w) : Rets Tryz.prog 102 #[.pointer (some ⟨o, 0, none⟩), .agg (HrdD.cells x).toArray] w fun u_ w' => ∃ (sl' : Value), u_ = .tuple #[] ∧ Own w S [Res.bv o yW sl' (bs ++ x.enc)] w' := by
  refine zT Tryz.func102 rfl Tryz.ntmps102 hin ?_
  refine zB (z7 rfl rfl (fun b3 => zA (zW (zD rfl (zJ (o := 0) rfl rfl (zM 1 (v := Vn x.term) rfl rfl rfl rfl (zJ (o := 1) rfl rfl (zM 1 (v := Vi x.vote) rfl rfl rfl rfl (xe (by kernel_rfl) rfl (kM _) rfl ?_ (by kernel_rfl))))))))))
  refine z4 (e := 22) (sz := 1) (vs := [Vn x.term, Vn (u64 x.vote)]) (by kernel_rfl) rfl rfl (by simp [Value.cells]) (by decide) rfl (fun b10 => zH rfl rfl (fun w' hw => (js o _ _ (.slice (some ⟨b10, 0, none⟩) 2 2) [x.term, u64 x.vote] w' (by first | assumption | (simp [y2]; done) | (simp [y2]; omega) | (simp; omega)) (by first | omega | (simp <;> omega) | (constructor <;> (first | omega | (simp <;> omega)))) (hw.give [0] rfl (by decide)) (hw.rdVec 2 rfl [0] rfl rfl)).mono ?_))
  rintro _ w1 ⟨sl'1_, rfl, hO⟩
  refine (?_ : CL _ _ _ _ _ _ (Own w S [Res.row b3 32 (HrdD.cells x), Res.vec 22 1 (.slice (some ⟨b10, 0, none⟩) 2 2) [x.term, u64 x.vote].length ([x.term, u64 x.vote].flatMap U1), Res.bv o yW sl'1_ (bs ++ zp [x.term, u64 x.vote])])) w1 (hw.frameL [0] rfl hO)
  exact zj (yM rfl (fun w' hw => ⟨sl'1_, rfl, hw.sel [2] rfl (by decide)⟩))
theorem zIN (w : World) : Rets Tryz.prog 60 #[] w fun u_ w' => u_ = .agg #[.func (.func 101) #[] #[], .func (.func 102) #[] #[], .func (.func 104) #[] #[]] ∧ Own w [] [] w' := by
  refine zT Tryz.func60 rfl Tryz.ntmps60 (Own.start w) ?_
  refine zB (yS (v := .agg #[.nilFunc, .nilFunc, .nilFunc]) (by kernel_rfl) rfl (fun b0 => zA (zB (yc (cs := [.func (.func 101) #[] #[], .func (.func 102) #[] #[], .func (.func 104) #[] #[]]) (z := [.nilFunc, .nilFunc, .nilFunc]) (pl := [(0, 1), (1, 1), (2, 1)]) (by kernel_rfl) (by kernel_rfl) rfl (yH 0 rfl rfl rfl (xx rfl) rfl (zA ?_))))))
  exact zY (jt (cs := [.func (.func 101) #[] #[], .func (.func 102) #[] #[], .func (.func 104) #[] #[]]) rfl rfl (by kernel_rfl) (Own.rowCells (i := 0) rfl) (fun w' hw => ⟨rfl, hw.drop⟩))
theorem zD1 (x : HrdD) (w : World) (hx : x.term < 18446744073709551616) : Rets Tryz.prog 61 #[.agg #[.func (.func 101) #[] #[], .func (.func 102) #[] #[], .func (.func 104) #[] #[]], .agg (HrdD.cells x).toArray] w fun u_ w' => ∃ (r : Value), u_ = .tuple #[r, Vi (yC x.ok)] ∧ Own w [] [Res.vec 5 1 r (if x.ok then x.enc else []).length ((if x.ok then x.enc else []).map vb)] w' := by
  refine zT Tryz.func61 rfl Tryz.ntmps61 (Own.start w) ?_
  refine zB (z7 rfl rfl (fun b2 => z7 rfl rfl (fun b3 => zK rfl (zK rfl (zA (zQ (zB (zJ (o := 0) rfl rfl (zM 0 (v := .func (.func 101) #[] #[]) rfl rfl rfl rfl (yY (cs := (HrdD.cells x)) 1 rfl rfl rfl (yh (fst := []) (cap := []) rfl (by kernel_rfl) rfl rfl (fun w' hw => (zDt x w').mono ?_))))))))))))
  rintro _ w1 ⟨rfl, hO⟩
  refine (?_ : CL _ _ _ _ _ _ (Own w [] [Res.row b2 133 [.func (.func 101) #[] #[], .func (.func 102) #[] #[], .func (.func 104) #[] #[]], Res.row b3 32 (HrdD.cells x)])) w1 (hw.frame0 hO)
  refine xM (q := x.ok) rfl rfl (zA (zf rfl (fun c1 => ?_) (fun c1 => ?_)))
  ·
   refine zB (zK rfl (zK rfl (zA ?_)))
   exact zY (xP (v := .slice none 0 0) (v' := Vi 2) rfl rfl rfl (fun w' hw => ⟨.slice none 0 0, (by rw [jX c1]), by rw [if_neg c1]; exact (zt hw T8 1).one 2 rfl⟩))
  ·
   refine zR (zB (yc (cs := [.slice none 0 0]) (z := [.slice none 0 0]) (pl := [(0, 1)]) (by kernel_rfl) (by kernel_rfl) rfl (z7 rfl rfl (fun b13 => zK rfl (zA (zB (zJ (o := 1) rfl rfl (zM 0 (v := .func (.func 102) #[] #[]) rfl rfl rfl rfl (zD rfl (yY (cs := (HrdD.cells x)) 1 rfl rfl rfl ?_))))))))))
   refine zx [Res.row b2 133 [.func (.func 101) #[] #[], .func (.func 102) #[] #[], .func (.func 104) #[] #[]], Res.row b3 32 (HrdD.cells x), Res.bv b13 yW (.slice none 0 0) ([] : List UInt8)] (fun w' hw => (zt hw T8 1).joinBv (i := 2) (j := 3) (by decide) rfl rfl) ?_
   refine yh (fst := []) (cap := []) rfl (by kernel_rfl) rfl rfl (fun w' hw => (zEX b13 (.slice none 0 0) ([] : List UInt8) x w' (by first | omega | (simp <;> omega) | (constructor <;> (first | omega | (simp <;> omega)))) (by first | omega | (simp <;> omega)) (hw.give [2] rfl (by decide))).mono ?_)
   rintro _ w1 ⟨sl'1_, rfl, hO⟩
   refine (?_ : CL _ _ _ _ _ _ (Own w [] [Res.row b2 133 [.func (.func 101) #[] #[], .func (.func 102) #[] #[], .func (.func 104) #[] #[]], Res.row b3 32 (HrdD.cells x), Res.bv b13 yW sl'1_ (([] : List UInt8) ++ x.enc)])) w1 (hw.frameL [2] rfl hO)
   refine zA (zB (zD rfl (zh rfl rfl (zJ (o := 0) rfl rfl ?_))))
   refine zx [Res.row b2 133 [.func (.func 101) #[] #[], .func (.func 102) #[] #[], .func (.func 104) #[] #[]], Res.row b3 32 (HrdD.cells x), Res.row b13 yW [sl'1_], Res.vec 5 1 sl'1_ (([] : List UInt8) ++ x.enc).length ((([] : List UInt8) ++ x.enc).map vb)] (fun w' hw => hw.splitBv (i := 2) (o := b13) (T := yW) (v := sl'1_) (bs := (([] : List UInt8) ++ x.enc)) rfl) ?_
   refine zM 2 (v := sl'1_) rfl rfl rfl rfl (zK rfl (zK rfl (zA ?_)))
   exact zY (xP (v := sl'1_) (v' := Vi 0) rfl rfl rfl (fun w' hw => ⟨sl'1_, (by rw [jD (Decidable.not_not.1 c1)]), by rw [if_pos (Decidable.not_not.1 c1)]; exact hw.one 3 rfl⟩))
theorem zFL (x : HrdD) (w : World) (hx : x.term < 18446744073709551616) : Rets Tryz.prog 25 #[.agg (HrdD.cells x).toArray] w fun u_ w' => ∃ (r : Value), u_ = .tuple #[r, Vi (yC x.ok)] ∧ Own w [] [Res.vec 5 1 r (if x.ok then x.enc else []).length ((if x.ok then x.enc else []).map vb)] w' := by
  refine zT Tryz.func25 rfl Tryz.ntmps25 (Own.start w) ?_
  refine zB (z7 rfl rfl (fun b1 => zK rfl (zK rfl (zA (zQ (zk [0] rfl (by decide) (by kernel_rfl) (fun w' hw hS => zC 1 rfl (xp (cs := (HrdD.cells x)) 0 rfl rfl) hS (zN 0 rfl hw (zH rfl rfl (fun w' hw => (zIN w').mono ?_))))))))))
  rintro _ w1 ⟨rfl, hO⟩
  refine (?_ : CL _ _ _ _ _ _ (Own w [] [Res.row b1 32 (HrdD.cells x)])) w1 (hw.frame0 hO)
  refine zE [0] rfl (by decide) (fun w' hw hS => zN 2 rfl hw (zH rfl rfl (fun w' hw => (zD1 x w' (by first | omega | (simp <;> omega))).mono ?_)))
  rintro _ w1 ⟨r1_, rfl, hO⟩
  refine (?_ : CL _ _ _ _ _ _ (Own w [] [Res.row b1 32 (HrdD.cells x), Res.vec 5 1 r1_ (if x.ok then x.enc else []).length ((if x.ok then x.enc else []).map vb)])) w1 (hw.frame0 hO)
  refine zE [0] rfl (by decide) (fun w' hw hS => zC 3 rfl (yx (vs := [r1_, Vi (yC x.ok)]) rfl rfl) hS (zC 4 rfl (yx (vs := [r1_, Vi (yC x.ok)]) rfl rfl) hS (zC 5 rfl (ya) hS (zC 6 rfl (ya) hS (zX ?_)))))
  refine (?_ : C _ _ _ _ _ _ _ (Own w [] [Res.row b1 32 (HrdD.cells x), Res.vec 5 1 r1_ (if x.ok then x.enc else []).length ((if x.ok then x.enc else []).map vb)])) _ hw
  exact zY (xP (v := r1_) (v' := Vi (yC x.ok)) rfl rfl rfl (fun w' hw => ⟨r1_, rfl, hw.sel [1] rfl (by decide)⟩))
end Go.Proofs.YtkkeknmkipkbmaaGreat
