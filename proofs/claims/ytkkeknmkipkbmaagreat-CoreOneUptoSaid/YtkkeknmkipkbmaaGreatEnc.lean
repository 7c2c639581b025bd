import Derived.Test.YtkkeknmkipkbmaaGreatRefW
import Derived.Test.YtkkeknmkipkbmaaGreatConfDec
set_option linter.unusedSectionVars false
set_option linter.unusedSimpArgs false
set_option linter.unusedVariables false
set_option maxRecDepth 10000
namespace Go.Proofs.YtkkeknmkipkbmaaGreat
open Go Go.Sc Go.Proofs
def pv (p : Value × List UInt8) : List Value := [p.1]
abbrev BsRd (p : Value × List UInt8) (w : World) (S : List Nat) : Prop := Rd w S (Res.sl p.1 p.2.length (p.2.map vb))
theorem BsRd.at0 {p : Value × List UInt8} {w0 w : World} {S : List Nat} {L : List Res} (h : BsRd p w0 S) (hw : Own w0 S L w) : BsRd p w [] := hw.rd0 h
theorem BsRd.at {p : Value × List UInt8} {w0 w : World} {S : List Nat} {L Lin : List Res} (h : BsRd p w0 S) (hw : Own w0 S L w) (m : List Nat) (hm : m.mapM (fun i => L[i]?) = some Lin) : BsRd p w (y1 Lin) := hw.rdTo h m hm
def yK (ps : List (Value × List UInt8)) : List UInt8 := ps.flatMap fun p => dat p.2
theorem zAq (v : Value) (bs : List UInt8) (lv : Value) (ps : List (Value × List UInt8)) (w : World) (hb : bs.length + (yK ps).length ≤ 100000000000) (hn : zT ps.length) (hv : Rd w [] (Res.sl v bs.length (bs.map vb))) (hl : Rd w [] (Res.sl lv ps.length (ps.flatMap pv))) (all_hl : ∀ p ∈ ps, BsRd p w []) : Rets Tryz.prog 155 #[v, lv] w fun u_ w' => ∃ (r : Value), u_ = r ∧ Own w [] [Res.vec 5 1 r (bs ++ yK ps).length ((bs ++ yK ps).map vb)] w' := by
  have hbl : bs.length ≤ 100000000000 := by omega
  refine zR Tryz.func155 rfl Tryz.ntmps155 (Own.start w) ?_
  refine zB (zH rfl (zA (zB (zC rfl (zF rfl rfl (fun w' hw => (kB v bs w' (by first | assumption | omega | (simp <;> omega) | (constructor <;> (first | omega | (simp only [zT]; omega) | (simp <;> omega)))) (hw.rd0 hv)).mono ?_))))))
  rintro r1_ w1 ⟨_, rfl, hO⟩
  refine (?_ : CL _ _ _ _ _ _ (Own w [] [Res.vec 5 1 r1_ bs.length (bs.map vb)])) w1 (hw.frame0 hO)
  refine zH rfl (zA (zQ (zB (zC rfl (zk (pR hl) rfl rfl (zC rfl (zA (zY ?_))))))))
  refine xe (fun (k : Nat) (o : Value) => [(5, o), (10, lv), (11, Vj ps.length), (12, Vj k)]) (fun (k : Nat) (o : Value) => k ≤ ps.length) (fun (k : Nat) (o : Value) => [Res.vec 5 1 o (bs ++ yK (ps.take k)).length ((bs ++ yK (ps.take k)).map vb)]) (fun (k : Nat) (o : Value) => ps.length - k) (fun w' hw => ⟨0, r1_, ⟨rfl, rfl, rfl, rfl, trivial⟩, Nat.zero_le _, by simpa [yK] using hw⟩) (fun k o g hΦ => ?_)
  have hle := y2 (fun p : Value × List UInt8 => dat p.2) ps (k + 1)
  refine zB (z4 rfl rfl rfl (zA (zQ (zV rfl (fun c1 => ?_) (fun c1 => ?_)))))
  ·
   rw [z5 (by omega), List.flatMap_append] at hle
   simp only [List.length_append, List.flatMap_cons, List.flatMap_nil, List.append_nil, dat] at hle
   have hcl : (yK (ps.take k)).length + ((num (zU ps k).2.length).length + (zU ps k).2.length) ≤ (yK ps).length := hle
   refine zP (zQ (zY (zB (z6 (pR hl) 1 k rfl rfl rfl (by omega) rfl (yY (pR hl) 1 k 0 (fun _ => rfl) rfl rfl (by omega) rfl rfl (zH rfl (zA (zZ (zC rfl (zC rfl (zk (pR (all_hl _ (zt (by omega)))) rfl rfl (yf (by kernel_rfl) rfl (yn (by omega)) rfl ?_ (by kernel_rfl)))))))))))))
   refine zF rfl rfl (fun w' hw => (zAV o (bs ++ yK (ps.take k)) (((zU ps k).2).length) w' (by first | omega | (simp <;> omega)) (by first | omega | (simp <;> omega) | (constructor <;> (first | omega | (simp <;> omega)))) (hw.rdVec0 0 rfl)).mono ?_)
   rintro r2_ w1 ⟨_, rfl, hO⟩
   refine (?_ : CL _ _ _ _ _ _ (Own w [] [Res.vec 5 1 o (bs ++ yK (ps.take k)).length ((bs ++ yK (ps.take k)).map vb), Res.vec 5 1 r2_ ((bs ++ yK (ps.take k)) ++ num (((zU ps k).2).length)).length (((bs ++ yK (ps.take k)) ++ num (((zU ps k).2).length)).map vb)])) w1 (hw.frame0 hO)
   refine zC rfl (zAh (l := ((bs ++ yK (ps.take k)) ++ num (((zU ps k).2).length))) (l' := (zU ps k).2) 1 (by kernel_rfl) rfl rfl rfl (fun w' hw' => Own.rd (all_hl _ (zt (by omega))) hw') (by first | omega | (simp <;> omega)) rfl (fun v22 => zH rfl (zA (zZ (zu rfl rfl (zo (by omega)) rfl (zC rfl ?_))))))
   exact zl (fun w' hw => ⟨k + 1, v22, ⟨rfl, rfl, rfl, rfl, trivial⟩, (by omega), by rw [z5 (by omega)]; have h := hw.one 1 rfl; simpa [yK, dat] using h, (by omega)⟩)
  ·
   refine z8 rfl (zB (zC rfl (zH rfl (zA ?_))))
   exact zS (zx (v := o) rfl rfl (fun w' hw => ⟨o, rfl, by rw [List.take_of_length_le (by omega)] at hw; exact hw⟩))
theorem zC1 {S : List Nat} (o : Nat) (sl : Value) (bs : List UInt8) (lv : Value) (ps : List (Value × List UInt8)) (w : World) (hb : bs.length + (yK ps).length ≤ 100000000000) (hn : zT ps.length) (hin : Own w S [Res.bv o yA sl bs] w) (hl : Rd w S (Res.sl lv ps.length (ps.flatMap pv))) (all_hl : ∀ p ∈ ps, BsRd p w S) : Rets Tryz.prog 110 #[.pointer (some ⟨o, 0, none⟩), lv] w fun u_ w' => ∃ (sl' : Value), u_ = .tuple #[] ∧ Own w S [Res.bv o yA sl' (bs ++ yK ps)] w' := by
  refine zR Tryz.func110 rfl Tryz.ntmps110 hin ?_
  refine zZ (zC rfl (zC rfl (za rfl rfl (zL (o := 0) rfl rfl ?_))))
  refine xg [Res.row o yA [sl], Res.vec 5 1 sl bs.length (bs.map vb)] (fun w' hw => hw.splitBv (i := 0) (o := o) (T := yA) (v := sl) (bs := bs) rfl) ?_
  refine zI 0 (v := sl) rfl rfl rfl rfl (zC rfl (zF rfl rfl (fun w' hw => (zAq sl bs lv ps w' (by first | omega | (simp <;> omega)) (by first | assumption | omega | (simp <;> omega) | (constructor <;> (first | omega | (simp only [zT]; omega) | (simp <;> omega)))) (hw.rdVec0 1 rfl) (hw.rd0 hl) (fun p hp => BsRd.at0 (all_hl p hp) hw)).mono ?_)))
  rintro r1_ w1 ⟨_, rfl, hO⟩
  refine (?_ : CL _ _ _ _ _ _ (Own w S [Res.row o yA [sl], Res.vec 5 1 sl bs.length (bs.map vb), Res.vec 5 1 r1_ (bs ++ yK ps).length ((bs ++ yK ps).map vb)])) w1 (hw.frame0 hO)
  refine za rfl rfl (zL (o := 0) rfl rfl ?_)
  refine zd (fun w' hw => Own.cell1Vec (i := 2) rfl hw) (fun hc1_ => ?_)
  refine zf (cs := [sl]) 0 rfl rfl rfl hc1_ rfl ?_
  exact zl (yb rfl (fun w' hw => ⟨r1_, rfl, (hw.joinBv (i := 0) (j := 2) (o := o) (T := yA) (v := r1_) (bs := bs ++ yK ps) (by decide) rfl rfl).one 0 rfl⟩))
structure EntA where
  index : Nat
  term : Nat
  kind : Int
  delta : Int
  data : List UInt8
  deriving DecidableEq, Inhabited
structure EntD extends EntA where
  dv : Value
  deriving Inhabited
structure EntA.wf (x : EntA) : Prop where
  index : x.index < 18446744073709551616
  term : x.term < 18446744073709551616
  data : x.data.length ≤ 1000000000
def EntD.cells (x : EntD) : List Value := [.int .u64 x.index, .int .u64 x.term, .int .i64 x.kind, .int .i64 x.delta, x.dv]
structure EntD.rd (x : EntD) (w : World) (S : List Nat) : Prop where
  dv : Rd w S (Res.sl x.dv x.data.length (x.data.map vb))
theorem EntD.rd.at0 {x : EntD} {w0 w : World} {S : List Nat} {L : List Res} (h : x.rd w0 S) (hw : Own w0 S L w) : x.rd w [] := ⟨hw.rd0 h.dv⟩
theorem EntD.rd.at {x : EntD} {w0 w : World} {S : List Nat} {L Lin : List Res} (h : x.rd w0 S) (hw : Own w0 S L w) (m : List Nat) (hm : m.mapM (fun i => L[i]?) = some Lin) : x.rd w (y1 Lin) := ⟨hw.rdTo h.dv m hm⟩
def EntD.dres (x : EntD) : Res := Res.vec 5 1 x.dv x.data.length (x.data.map vb)
theorem EntD.dres_rd {x : EntD} {w : World} {S : List Nat} (h : Rd w S x.dres) : x.rd w S := ⟨h.sub Vec.sl ky⟩
theorem EntD.rd.star0 {es : List EntD} {w0 w : World} {S : List Nat} {L : List Res} (j : Nat) (hL : L[j]? = some (Res.star (es.map EntD.dres))) (h : Own w0 S L w) : ∀ p ∈ es, p.rd w [] := fun p hp => EntD.dres_rd (h.star0 j hL _ (List.mem_map_of_mem hp))
theorem EntD.rd.star {es : List EntD} {w0 w : World} {S : List Nat} {L Lin : List Res} (j : Nat) (hL : L[j]? = some (Res.star (es.map EntD.dres))) (m : List Nat) (hm : m.mapM (fun i => L[i]?) = some Lin) (hj : m.any (Nat.beq j) = false) (h : Own w0 S L w) : ∀ p ∈ es, p.rd w (y1 Lin) := fun p hp => EntD.dres_rd (h.star j hL m hm hj _ (List.mem_map_of_mem hp))
def EntA.ok (x : EntA) : Prop := ((1 ≤ x.index ∧ 1 ≤ x.term) ∧ (x.index ≤ 4611686018427387904 ∧ x.term ≤ 4611686018427387904) ∧ (0 ≤ x.delta ∧ x.delta ≤ 1099511627776) ∧ x.data.length ≤ 4096) ∧
  if x.kind = 1 then x.data.length = 0 else if x.kind = 3 then (kg x.data).isSome = true else x.kind = 2
instance (x : EntA) : Decidable x.ok := by unfold EntA.ok; infer_instance
def EntA.enc (x : EntA) : List UInt8 := zw [x.index, x.term, u64 x.kind, u64 x.delta] ++ dat x.data
theorem EntA.enc_le {x : EntA} (h : x.wf) : x.enc.length ≤ x.data.length + 60 := by
  have h1 := yX (ns := [x.index, x.term, u64 x.kind, u64 x.delta]) (by have := h.index; have := h.term; simp [yl, *])
  have h2 := ku x.data (by have := h.data; omega)
  simp only [EntA.enc, List.length_append, List.length_cons, List.length_nil] at *
  omega
theorem ValPost.iff {α : Type} {d : Option α} {x z : α} {e : Int} (h : ValPost d x z e) : e = 0 ↔ d.isSome = true := by
  rcases h with ⟨rfl, h⟩ | ⟨rfl, h, _⟩ <;> simp [h]
theorem RefPost.iff {α : Type} {d : Option α} {x : α} {f : Bool} (h : RefPost d x f) : f = true ↔ d.isSome = true := by
  cases f with
  | true => simp [h.yes rfl]
  | false => simp [h.no rfl]
theorem zAi (x : EntD) (w : World) (hx : x.wf) (rd_x : EntD.rd x w []) : Rets Tryz.prog 166 #[.agg (EntD.cells x).toArray] w fun u_ w' => u_ = .bool (decide x.ok) ∧ Own w [] [] w' := by
  have hd := hx.data
  have h1 := hx.index
  have h2 := hx.term
  refine zR Tryz.func166 rfl Tryz.ntmps166 (Own.start w) ?_
  refine zB (zr rfl rfl (fun b1 => zH rfl (zA (zQ (zB (zL (o := 0) rfl rfl (zI 0 (v := Vn x.index) rfl rfl rfl rfl (z4 rfl rfl rfl (zC rfl (yC (q := ((x.index : Nat) : Int) < ((1 : Nat) : Int)) 3 3 [11, 10, 9] (((x.term : Nat) : Int) < ((1 : Nat) : Int)) rfl rfl rfl rfl rfl rfl trivial rfl (fun h1_3 => ?_) (fun g1_7 => ?_)))))))))))
  ·
   refine zN rfl (gF h1_3) (zL (o := 1) rfl rfl (zN rfl (gF h1_3) (zI 0 (v := Vn x.term) rfl rfl rfl rfl (zN rfl (gF h1_3) (z4 rfl rfl rfl ?_)))))
   exact z7 rfl (fun _ hw => hw)
  refine zC rfl (yC (q := (((x.index : Nat) : Int) < ((1 : Nat) : Int)) ∨ (((x.term : Nat) : Int) < ((1 : Nat) : Int))) 6 8 [19, 18, 17, 16, 15, 14] (((4611686018427387904 : Nat) : Int) < ((max x.index x.term : Nat) : Int)) rfl rfl rfl rfl rfl rfl trivial rfl (fun h1_8 => ?_) (fun g1_15 => ?_))
  ·
   refine zN rfl (gF h1_8) (zL (o := 0) rfl rfl (zN rfl (gF h1_8) (zI 0 (v := Vn x.index) rfl rfl rfl rfl (zN rfl (gF h1_8) (zL (o := 1) rfl rfl (zN rfl (gF h1_8) (zI 0 (v := Vn x.term) rfl rfl rfl rfl (zN rfl (gF h1_8) (zBF (c := ((max x.index x.term : Nat) : Int)) rfl rfl (zEO _ _) rfl (zN rfl (gF h1_8) (yP rfl rfl rfl ?_)))))))))))
   exact z7 rfl (fun _ hw => hw)
  refine zC rfl (yC (q := ((((x.index : Nat) : Int) < ((1 : Nat) : Int)) ∨ (((x.term : Nat) : Int) < ((1 : Nat) : Int))) ∨ (((4611686018427387904 : Nat) : Int) < ((max x.index x.term : Nat) : Int))) 3 16 [24, 23, 22] (x.delta < 0) rfl rfl rfl rfl rfl rfl trivial rfl (fun h1_16 => ?_) (fun g1_20 => ?_))
  ·
   refine zN rfl (gF h1_16) (zL (o := 3) rfl rfl (zN rfl (gF h1_16) (zI 0 (v := Vi x.delta) rfl rfl rfl rfl (zN rfl (gF h1_16) (z4 rfl rfl rfl ?_)))))
   exact z7 rfl (fun _ hw => hw)
  refine zC rfl (yC (q := (((((x.index : Nat) : Int) < ((1 : Nat) : Int)) ∨ (((x.term : Nat) : Int) < ((1 : Nat) : Int))) ∨ (((4611686018427387904 : Nat) : Int) < ((max x.index x.term : Nat) : Int))) ∨ (x.delta < 0)) 3 21 [29, 28, 27] (1099511627776 < x.delta) rfl rfl rfl rfl rfl rfl trivial rfl (fun h1_21 => ?_) (fun g1_25 => ?_))
  ·
   refine zN rfl (gF h1_21) (zL (o := 3) rfl rfl (zN rfl (gF h1_21) (zI 0 (v := Vi x.delta) rfl rfl rfl rfl (zN rfl (gF h1_21) (yP rfl rfl rfl ?_)))))
   exact z7 rfl (fun _ hw => hw)
  refine zC rfl (yC (q := ((((((x.index : Nat) : Int) < ((1 : Nat) : Int)) ∨ (((x.term : Nat) : Int) < ((1 : Nat) : Int))) ∨ (((4611686018427387904 : Nat) : Int) < ((max x.index x.term : Nat) : Int))) ∨ (x.delta < 0)) ∨ (1099511627776 < x.delta)) 4 26 [35, 34, 33, 32] (4096 < ((x.data.length : Nat) : Int)) rfl rfl rfl rfl rfl rfl trivial rfl (fun h1_26 => ?_) (fun g1_31 => ?_))
  ·
   refine zN rfl (gF h1_26) (zL (o := 4) rfl rfl (zN rfl (gF h1_26) (zI 0 (v := x.dv) rfl rfl rfl rfl (zN rfl (gF h1_26) (zk (pR rd_x.dv) rfl rfl (zN rfl (gF h1_26) (yP rfl rfl rfl ?_)))))))
   exact z7 rfl (fun _ hw => hw)
  refine zA (zV rfl (fun c1 => ?_) (fun c1 => ?_))
  ·
   refine zB (zH rfl (zA ?_))
   exact zS (zx (v := .bool false) rfl rfl (fun w' hw => ⟨(by rw [decide_eq_false]; rintro ⟨h, _⟩; omega), hw.drop⟩))
  ·
   refine zP (zQ (zB (zL (o := 2) rfl rfl (zI 0 (v := Vi x.kind) rfl rfl rfl rfl (zA (zY (zB (yk rfl rfl rfl (zH rfl (zA (zV rfl (fun c2 => ?_) (fun c2 => ?_))))))))))))
   ·
    refine zB (zL (o := 4) rfl rfl (zI 0 (v := x.dv) rfl rfl rfl rfl (zk (pR rd_x.dv) rfl rfl (yk rfl rfl rfl (zH rfl (zA ?_))))))
    exact zS (zx (v := .bool (decide (((x.data.length : Nat) : Int) = 0))) rfl rfl (fun w' hw => ⟨(by congr 1; exact decide_eq_decide.2 (by unfold EntA.ok; rw [if_pos c2]; exact ⟨fun h => ⟨by omega, by omega⟩, fun h => by have := h.2; omega⟩)), hw.drop⟩))
   ·
    refine zB (yk rfl rfl rfl (zH rfl (zA (zV rfl (fun c3 => ?_) (fun c3 => ?_)))))
    ·
     refine zB (zL (o := 4) rfl rfl (zI 0 (v := x.dv) rfl rfl rfl rfl (zF rfl rfl (fun w' hw => (zC8 x.dv x.data w' (by first | assumption | omega | (simp <;> omega) | (constructor <;> (first | omega | (simp only [zT]; omega) | (simp <;> omega)))) (hw.rd0 rd_x.dv)).mono ?_))))
     rintro _ w1 ⟨r11_, l12_, r23_, l24_, e5_, rfl, hf7_2, hf7_2_1, hf7_2_2, hO⟩
     refine (?_ : CL _ _ _ _ _ _ (Own w [] [Res.row b1 81 (EntD.cells x), Res.vec 3 1 r11_ l12_.length (l12_.flatMap I1), Res.vec 3 1 r23_ l24_.length (l24_.flatMap I1)])) w1 (hw.frame0 hO)
     refine zC rfl (zh (vs := [.agg #[r11_, r23_], Vi e5_]) rfl rfl rfl (zh (vs := [.agg #[r11_, r23_], Vi e5_]) rfl rfl rfl (z3 (v := .agg #[.slice none 0 0, .slice none 0 0]) (by kernel_rfl) rfl (fun b3 => ?_))))
     refine zd (fun w' hw => Own.cell1Vec (i := 1) rfl hw) (fun hc1_ => ?_)
     refine zd (fun w' hw => Own.cell1Vec (i := 2) rfl hw) (fun hc2_ => ?_)
     refine zn 3 rfl rfl rfl (zJ hc1_ (zJ hc2_ zj)) rfl (zH rfl (zA (zB (zC rfl (yk rfl rfl rfl (zH rfl (zA ?_)))))))
     exact zS (zx (v := .bool (decide (e5_ = 0))) rfl rfl (fun w' hw => ⟨(by congr 1; exact decide_eq_decide.2 (by unfold EntA.ok; rw [if_neg c2, if_pos c3, ← hf7_2.iff]; exact ⟨fun h => ⟨by omega, h⟩, fun h => h.2⟩)), hw.drop⟩))
    ·
     refine zP (zB (zL (o := 2) rfl rfl (zI 0 (v := Vi x.kind) rfl rfl rfl rfl (yk rfl rfl rfl (zH rfl (zA ?_))))))
     exact zS (zx (v := .bool (decide (x.kind = 2))) rfl rfl (fun w' hw => ⟨(by congr 1; exact decide_eq_decide.2 (by unfold EntA.ok; rw [if_neg c2, if_neg c3]; exact ⟨fun h => ⟨by omega, h⟩, fun h => h.2⟩)), hw.drop⟩))
theorem zAf {S : List Nat} (o : Nat) (sl : Value) (bs : List UInt8) (x : EntD) (w : World) (hx : x.wf) (hb : bs.length + x.enc.length ≤ 10000000000) (hin : Own w S [Res.bv o yA sl bs] w) (rd_x : EntD.rd x w S) : Rets Tryz.prog 167 #[.pointer (some ⟨o, 0, none⟩), .agg (EntD.cells x).toArray] w fun u_ w' => ∃ (sl' : Value), u_ = .tuple #[] ∧ Own w S [Res.bv o yA sl' (bs ++ x.enc)] w' := by
  have hd := hx.data
  have h1 := hx.index
  have h2 := hx.term
  have he : x.enc.length = (zw [x.index, x.term, u64 x.kind, u64 x.delta]).length + (dat x.data).length := by simp [EntA.enc]
  refine zR Tryz.func167 rfl Tryz.ntmps167 hin ?_
  refine zB (zr rfl rfl (fun b3 => zA (zB (zC rfl (zL (o := 0) rfl rfl (zI 1 (v := Vn x.index) rfl rfl rfl rfl (zL (o := 1) rfl rfl (zI 1 (v := Vn x.term) rfl rfl rfl rfl (zL (o := 2) rfl rfl (zI 1 (v := Vi x.kind) rfl rfl rfl rfl (yf (by kernel_rfl) rfl (y6 _) rfl ?_ (by kernel_rfl))))))))))))
  refine zL (o := 3) rfl rfl (zI 1 (v := Vi x.delta) rfl rfl rfl rfl (yf (by kernel_rfl) rfl (y6 _) rfl ?_ (by kernel_rfl)))
  refine zy (e := 22) (sz := 1) (vs := [Vn x.index, Vn x.term, Vn (u64 x.kind), Vn (u64 x.delta)]) (by kernel_rfl) rfl rfl (by simp [Value.cells]) (by decide) rfl (fun b15 => zF rfl rfl (fun w' hw => (j0 o _ _ (.slice (some ⟨b15, 0, none⟩) 4 4) [x.index, x.term, u64 x.kind, u64 x.delta] w' (by first | assumption | (simp [yl]; done) | (simp [yl]; omega) | (simp; omega)) (by first | omega | (simp <;> omega) | (constructor <;> (first | omega | (simp <;> omega)))) (hw.give [0] rfl (by decide)) (hw.rdVec 2 rfl [0] rfl rfl)).mono ?_))
  rintro _ w1 ⟨sl'1_, rfl, hO⟩
  refine (?_ : CL _ _ _ _ _ _ (Own w S [Res.row b3 81 (EntD.cells x), Res.vec 22 1 (.slice (some ⟨b15, 0, none⟩) 4 4) [x.index, x.term, u64 x.kind, u64 x.delta].length ([x.index, x.term, u64 x.kind, u64 x.delta].flatMap U1), Res.bv o yA sl'1_ (bs ++ zw [x.index, x.term, u64 x.kind, u64 x.delta])])) w1 (hw.frameL [0] rfl hO)
  refine zA (zZ (zC rfl (zL (o := 4) rfl rfl (zI 0 (v := x.dv) rfl rfl rfl rfl (zAz (e := 36) (vs := [x.dv]) (by kernel_rfl) rfl rfl (zJ (Sl.cell1 (Rd.φ rd_x.dv)) zj) (by decide) rfl (fun b20 => zF rfl rfl (fun w' hw => (zC1 o sl'1_ (bs ++ zw [x.index, x.term, u64 x.kind, u64 x.delta]) (.slice (some ⟨b20, 0, none⟩) 1 1) [(x.dv, x.data)] w' (by simp [yK]; omega) (by show 1 ≤ _; omega) (hw.give [2] rfl (by decide)) (hw.rdVec 3 rfl [2] rfl rfl) (all_cons (hw.rdTo rd_x.dv [2] rfl) (fun p hp => by cases hp))).mono ?_)))))))
  rintro _ w1 ⟨sl'2_, rfl, hO⟩
  refine (?_ : CL _ _ _ _ _ _ (Own w S [Res.row b3 81 (EntD.cells x), Res.vec 22 1 (.slice (some ⟨b15, 0, none⟩) 4 4) [x.index, x.term, u64 x.kind, u64 x.delta].length ([x.index, x.term, u64 x.kind, u64 x.delta].flatMap U1), Res.vec 36 1 (.slice (some ⟨b20, 0, none⟩) 1 1) [(x.dv, x.data)].length ([(x.dv, x.data)].flatMap pv), Res.bv o yA sl'2_ ((bs ++ zw [x.index, x.term, u64 x.kind, u64 x.delta]) ++ yK [(x.dv, x.data)])])) w1 (hw.frameL [2] rfl hO)
  exact zl (yb rfl (fun w' hw => ⟨sl'2_, rfl, by have h := hw.one 3 rfl; simpa [EntA.enc, yK] using h⟩))
theorem zBr (w : World) : Rets Tryz.prog 124 #[] w fun u_ w' => u_ = .agg #[.func (.func 166) #[] #[], .func (.func 167) #[] #[], .func (.func 168) #[] #[]] ∧ Own w [] [] w' := by
  refine zR Tryz.func124 rfl Tryz.ntmps124 (Own.start w) ?_
  refine zB (z3 (v := .agg #[.nilFunc, .nilFunc, .nilFunc]) (by kernel_rfl) rfl (fun b0 => zA (zB (yN (cs := [.func (.func 166) #[] #[], .func (.func 167) #[] #[], .func (.func 168) #[] #[]]) (z := [.nilFunc, .nilFunc, .nilFunc]) (pl := [(0, 1), (1, 1), (2, 1)]) (by kernel_rfl) (by kernel_rfl) rfl (zn 0 rfl rfl rfl (y5 rfl) rfl (zA ?_))))))
  exact zS (xp (cs := [.func (.func 166) #[] #[], .func (.func 167) #[] #[], .func (.func 168) #[] #[]]) rfl rfl (by kernel_rfl) (Own.rowCells (i := 0) rfl) (fun w' hw => ⟨rfl, hw.drop⟩))
theorem zAv (x : EntD) (w : World) (hx : x.wf) (rd_x : EntD.rd x w []) : Rets Tryz.prog 157 #[.agg #[.func (.func 166) #[] #[], .func (.func 167) #[] #[], .func (.func 168) #[] #[]], .agg (EntD.cells x).toArray] w fun u_ w' => ∃ (r : Value), u_ = .tuple #[r, Vi (zq x.ok)] ∧ Own w [] [Res.vec 5 1 r (if x.ok then x.enc else []).length ((if x.ok then x.enc else []).map vb)] w' := by
  have hd := hx.data
  have hl := EntA.enc_le hx
  refine zR Tryz.func157 rfl Tryz.ntmps157 (Own.start w) ?_
  refine zB (zr rfl rfl (fun b2 => zr rfl rfl (fun b3 => zH rfl (zH rfl (zA (zQ (zB (zL (o := 0) rfl rfl (zI 0 (v := .func (.func 166) #[] #[]) rfl rfl rfl rfl (yO (cs := (EntD.cells x)) 1 rfl rfl rfl (yV (fst := []) (cap := []) rfl (by kernel_rfl) rfl rfl (fun w' hw => (zAi x w' ‹_› (rd_x.at0 hw)).mono ?_))))))))))))
  rintro _ w1 ⟨rfl, hO⟩
  refine (?_ : CL _ _ _ _ _ _ (Own w [] [Res.row b2 218 [.func (.func 166) #[] #[], .func (.func 167) #[] #[], .func (.func 168) #[] #[]], Res.row b3 81 (EntD.cells x)])) w1 (hw.frame0 hO)
  refine xJ (q := x.ok) rfl rfl (zA (zV rfl (fun c1 => ?_) (fun c1 => ?_)))
  ·
   refine zB (zH rfl (zH rfl (zA ?_)))
   exact zS (yj (v := .slice none 0 0) (v' := Vi 2) rfl rfl rfl (fun w' hw => ⟨.slice none 0 0, (by rw [kp c1]), by rw [if_neg c1]; exact (zz hw T8 1).one 2 rfl⟩))
  ·
   refine zP (zB (yN (cs := [.slice none 0 0]) (z := [.slice none 0 0]) (pl := [(0, 1)]) (by kernel_rfl) (by kernel_rfl) rfl (zr rfl rfl (fun b13 => zH rfl (zA (zB (zL (o := 1) rfl rfl (zI 0 (v := .func (.func 167) #[] #[]) rfl rfl rfl rfl (zC rfl (yO (cs := (EntD.cells x)) 1 rfl rfl rfl ?_))))))))))
   refine xg [Res.row b2 218 [.func (.func 166) #[] #[], .func (.func 167) #[] #[], .func (.func 168) #[] #[]], Res.row b3 81 (EntD.cells x), Res.bv b13 yA (.slice none 0 0) ([] : List UInt8)] (fun w' hw => (zz hw T8 1).joinBv (i := 2) (j := 3) (by decide) rfl rfl) ?_
   refine yV (fst := []) (cap := []) rfl (by kernel_rfl) rfl rfl (fun w' hw => (zAf b13 (.slice none 0 0) ([] : List UInt8) x w' ‹_› (by first | omega | (simp <;> omega) | (constructor <;> (first | omega | (simp <;> omega)))) (hw.give [2] rfl (by decide)) (rd_x.at hw [2] rfl)).mono ?_)
   rintro _ w1 ⟨sl'1_, rfl, hO⟩
   refine (?_ : CL _ _ _ _ _ _ (Own w [] [Res.row b2 218 [.func (.func 166) #[] #[], .func (.func 167) #[] #[], .func (.func 168) #[] #[]], Res.row b3 81 (EntD.cells x), Res.bv b13 yA sl'1_ (([] : List UInt8) ++ x.enc)])) w1 (hw.frameL [2] rfl hO)
   refine zA (zB (zC rfl (za rfl rfl (zL (o := 0) rfl rfl ?_))))
   refine xg [Res.row b2 218 [.func (.func 166) #[] #[], .func (.func 167) #[] #[], .func (.func 168) #[] #[]], Res.row b3 81 (EntD.cells x), Res.row b13 yA [sl'1_], Res.vec 5 1 sl'1_ (([] : List UInt8) ++ x.enc).length ((([] : List UInt8) ++ x.enc).map vb)] (fun w' hw => hw.splitBv (i := 2) (o := b13) (T := yA) (v := sl'1_) (bs := (([] : List UInt8) ++ x.enc)) rfl) ?_
   refine zI 2 (v := sl'1_) rfl rfl rfl rfl (zH rfl (zH rfl (zA ?_)))
   exact zS (yj (v := sl'1_) (v' := Vi 0) rfl rfl rfl (fun w' hw => ⟨sl'1_, (by rw [xa (Decidable.not_not.1 c1)]), by rw [if_pos (Decidable.not_not.1 c1)]; exact hw.one 3 rfl⟩))
theorem zAe (x : EntD) (w : World) (hx : x.wf) (rd_x : EntD.rd x w []) : Rets Tryz.prog 113 #[.agg (EntD.cells x).toArray] w fun u_ w' => ∃ (r : Value), u_ = .tuple #[r, Vi (zq x.ok)] ∧ Own w [] [Res.vec 5 1 r (if x.ok then x.enc else []).length ((if x.ok then x.enc else []).map vb)] w' := by
  refine zR Tryz.func113 rfl Tryz.ntmps113 (Own.start w) ?_
  refine zB (zr rfl rfl (fun b1 => zH rfl (zH rfl (zA (zQ (zc [0] rfl (by decide) (by kernel_rfl) (fun w' hw hS => zD 1 rfl (xh (cs := (EntD.cells x)) 0 rfl rfl) hS (zK 0 rfl hw (zF rfl rfl (fun w' hw => (zBr w').mono ?_))))))))))
  rintro _ w1 ⟨rfl, hO⟩
  refine (?_ : CL _ _ _ _ _ _ (Own w [] [Res.row b1 81 (EntD.cells x)])) w1 (hw.frame0 hO)
  refine zE [0] rfl (by decide) (fun w' hw hS => zK 2 rfl hw (zF rfl rfl (fun w' hw => (zAv x w' ‹_› (rd_x.at0 hw)).mono ?_)))
  rintro _ w1 ⟨r1_, rfl, hO⟩
  refine (?_ : CL _ _ _ _ _ _ (Own w [] [Res.row b1 81 (EntD.cells x), Res.vec 5 1 r1_ (if x.ok then x.enc else []).length ((if x.ok then x.enc else []).map vb)])) w1 (hw.frame0 hO)
  refine zE [0] rfl (by decide) (fun w' hw hS => zD 3 rfl (yu (vs := [r1_, Vi (zq x.ok)]) rfl rfl) hS (zD 4 rfl (yu (vs := [r1_, Vi (zq x.ok)]) rfl rfl) hS (zD 5 rfl (yU) hS (zD 6 rfl (yU) hS (zW ?_)))))
  refine (?_ : C _ _ _ _ _ _ _ (Own w [] [Res.row b1 81 (EntD.cells x), Res.vec 5 1 r1_ (if x.ok then x.enc else []).length ((if x.ok then x.enc else []).map vb)])) _ hw
  exact zS (yj (v := r1_) (v' := Vi (zq x.ok)) rfl rfl rfl (fun w' hw => ⟨r1_, rfl, hw.sel [1] rfl (by decide)⟩))
end Go.Proofs.YtkkeknmkipkbmaaGreat
