import Derived.Test.YthincafbmpialaaGreatRefW
import Derived.Test.YthincafbmpialaaGreatConfDec
set_option linter.unusedSectionVars false
set_option linter.unusedSimpArgs false
set_option linter.unusedVariables false
set_option maxRecDepth 10000
namespace Go.Proofs.YthincafbmpialaaGreat
open Go Go.Sc Go.Proofs
def pv (p : Value × List UInt8) : List Value := [p.1]
abbrev BsRd (p : Value × List UInt8) (w : World) (S : List Nat) : Prop := Rd w S (Res.sl p.1 p.2.length (p.2.map vb))
theorem BsRd.at0 {p : Value × List UInt8} {w0 w : World} {S : List Nat} {L : List Res} (h : BsRd p w0 S) (hw : Own w0 S L w) : BsRd p w [] := hw.rd0 h
theorem BsRd.at {p : Value × List UInt8} {w0 w : World} {S : List Nat} {L Lin : List Res} (h : BsRd p w0 S) (hw : Own w0 S L w) (m : List Nat) (hm : m.mapM (fun i => L[i]?) = some Lin) : BsRd p w (xN Lin) := hw.rdTo h m hm
def yA (ps : List (Value × List UInt8)) : List UInt8 := ps.flatMap fun p => jj p.2
theorem jP (v : Value) (bs : List UInt8) (lv : Value) (ps : List (Value × List UInt8)) (w : World) (hb : bs.length + (yA ps).length ≤ 100000000000) (hn : zd ps.length) (hv : Rd w [] (Res.sl v bs.length (bs.map vb))) (hl : Rd w [] (Res.sl lv ps.length (ps.flatMap pv))) (all_hl : ∀ p ∈ ps, BsRd p w []) : Rets Tryz.prog 50 #[v, lv] w fun u_ w' => ∃ (r : Value), u_ = r ∧ Own w [] [Res.vec 5 1 r (bs ++ yA ps).length ((bs ++ yA ps).map vb)] w' := by
  have hbl : bs.length ≤ 100000000000 := by omega
  refine zb Tryz.func50 rfl Tryz.ntmps50 (Own.start w) ?_
  refine zB (zD rfl (zA (zB (zC rfl (zK rfl rfl (fun w' hw => (zEO v bs w' (by first | assumption | omega | (simp <;> omega) | (constructor <;> (first | omega | (simp only [zd]; omega) | (simp <;> omega)))) (hw.rd0 hv)).mono ?_))))))
  rintro r1_ w1 ⟨_, rfl, hO⟩
  refine (?_ : CL _ _ _ _ _ _ (Own w [] [Res.vec 5 1 r1_ bs.length (bs.map vb)])) w1 (hw.frame0 hO)
  refine zD rfl (zA (zL (zB (zC rfl (yO (pR hl) rfl rfl (zC rfl (zA (zQ ?_))))))))
  refine xY (fun (k : Nat) (o : Value) => [(5, o), (10, lv), (11, Vj ps.length), (12, Vj k)]) (fun (k : Nat) (o : Value) => k ≤ ps.length) (fun (k : Nat) (o : Value) => [Res.vec 5 1 o (bs ++ yA (ps.take k)).length ((bs ++ yA (ps.take k)).map vb)]) (fun (k : Nat) (o : Value) => ps.length - k) (fun w' hw => ⟨0, r1_, ⟨rfl, rfl, rfl, rfl, trivial⟩, Nat.zero_le _, by simpa [yA] using hw⟩) (fun k o g hΦ => ?_)
  have hle := zBp (fun p : Value × List UInt8 => jj p.2) ps (k + 1)
  refine zB (yZ rfl rfl rfl (zA (zL (zZ rfl (fun c1 => ?_) (fun c1 => ?_)))))
  ·
   rw [yD (by omega), List.flatMap_append] at hle
   simp only [List.length_append, List.flatMap_cons, List.flatMap_nil, List.append_nil, jj] at hle
   have hcl : (yA (ps.take k)).length + ((z2 (zI ps k).2.length).length + (zI ps k).2.length) ≤ (yA ps).length := hle
   refine zM (zL (zQ (zB (zH (pR hl) 1 k rfl rfl rfl (by omega) rfl (zR (pR hl) 1 k 0 (fun _ => rfl) rfl rfl (by omega) rfl rfl (zD rfl (zA (zj (zC rfl (zC rfl (yO (pR (all_hl _ (yH (by omega)))) rfl rfl (yv (by kernel_rfl) rfl (kq (by omega)) rfl ?_ (by kernel_rfl)))))))))))))
   refine zK rfl rfl (fun w' hw => (xR o (bs ++ yA (ps.take k)) (((zI ps k).2).length) w' (by first | omega | (simp <;> omega)) (by first | omega | (simp <;> omega) | (constructor <;> (first | omega | (simp <;> omega)))) (hw.rdVec0 0 rfl)).mono ?_)
   rintro r2_ w1 ⟨_, rfl, hO⟩
   refine (?_ : CL _ _ _ _ _ _ (Own w [] [Res.vec 5 1 o (bs ++ yA (ps.take k)).length ((bs ++ yA (ps.take k)).map vb), Res.vec 5 1 r2_ ((bs ++ yA (ps.take k)) ++ z2 (((zI ps k).2).length)).length (((bs ++ yA (ps.take k)) ++ z2 (((zI ps k).2).length)).map vb)])) w1 (hw.frame0 hO)
   refine zC rfl (zEs (l := ((bs ++ yA (ps.take k)) ++ z2 (((zI ps k).2).length))) (l' := (zI ps k).2) 1 (by kernel_rfl) rfl rfl rfl (fun w' hw' => Own.rd (all_hl _ (yH (by omega))) hw') (by first | omega | (simp; omega)) rfl (fun v22 => zD rfl (zA (zj (z6 rfl rfl (zz (by omega)) rfl (zC rfl ?_))))))
   exact zf (fun w' hw => ⟨k + 1, v22, ⟨rfl, rfl, rfl, rfl, trivial⟩, (by omega), by rw [yD (by omega)]; have h := hw.one 1 rfl; simpa [yA, jj] using h, (by omega)⟩)
  ·
   refine yK rfl (zB (zC rfl (zD rfl (zA ?_))))
   exact zP (z8 (v := o) rfl rfl (fun w' hw => ⟨o, rfl, by rw [List.take_of_length_le (by omega)] at hw; exact hw⟩))
theorem zHR {S : List Nat} (o : Nat) (sl : Value) (bs : List UInt8) (lv : Value) (ps : List (Value × List UInt8)) (w : World) (hb : bs.length + (yA ps).length ≤ 100000000000) (hn : zd ps.length) (hin : Own w S [Res.bv o xU sl bs] w) (hl : Rd w S (Res.sl lv ps.length (ps.flatMap pv))) (all_hl : ∀ p ∈ ps, BsRd p w S) : Rets Tryz.prog 102 #[.pointer (some ⟨o, 0, none⟩), lv] w fun u_ w' => ∃ (sl' : Value), u_ = .tuple #[] ∧ Own w S [Res.bv o xU sl' (bs ++ yA ps)] w' := by
  refine zb Tryz.func102 rfl Tryz.ntmps102 hin ?_
  refine zj (zC rfl (zC rfl (zr rfl rfl (zX (o := 0) rfl rfl ?_))))
  refine zBH [Res.row o xU [sl], Res.vec 5 1 sl bs.length (bs.map vb)] (fun w' hw => hw.splitBv (i := 0) (o := o) (T := xU) (v := sl) (bs := bs) rfl) ?_
  refine zY 0 (v := sl) rfl rfl rfl rfl (zC rfl (zK rfl rfl (fun w' hw => (jP sl bs lv ps w' (by first | omega | (simp <;> omega)) (by first | assumption | omega | (simp <;> omega) | (constructor <;> (first | omega | (simp only [zd]; omega) | (simp <;> omega)))) (hw.rdVec0 1 rfl) (hw.rd0 hl) (fun p hp => BsRd.at0 (all_hl p hp) hw)).mono ?_)))
  rintro r1_ w1 ⟨_, rfl, hO⟩
  refine (?_ : CL _ _ _ _ _ _ (Own w S [Res.row o xU [sl], Res.vec 5 1 sl bs.length (bs.map vb), Res.vec 5 1 r1_ (bs ++ yA ps).length ((bs ++ yA ps).map vb)])) w1 (hw.frame0 hO)
  refine zr rfl rfl (zX (o := 0) rfl rfl ?_)
  refine yu (fun w' hw => Own.cell1Vec (i := 2) rfl hw) (fun hc1_ => ?_)
  refine xr (cs := [sl]) 0 rfl rfl rfl hc1_ rfl ?_
  exact zf (jQ rfl (fun w' hw => ⟨r1_, rfl, (hw.joinBv (i := 0) (j := 2) (o := o) (T := xU) (v := r1_) (bs := bs ++ yA ps) (by decide) rfl rfl).one 0 rfl⟩))
structure EntA where
  index : Nat
  term : Nat
  kind : Int
  delta : Int
  data : List UInt8
  deriving DecidableEq, Inhabited
structure EntD extends EntA where
  dv : Value
  deriving Inhabited
structure EntA.wf (x : EntA) : Prop where
  index : x.index < 18446744073709551616
  term : x.term < 18446744073709551616
  data : x.data.length ≤ 1000000000
def EntD.cells (x : EntD) : List Value := [.int .u64 x.index, .int .u64 x.term, .int .i64 x.kind, .int .i64 x.delta, x.dv]
structure EntD.rd (x : EntD) (w : World) (S : List Nat) : Prop where
  dv : Rd w S (Res.sl x.dv x.data.length (x.data.map vb))
theorem EntD.rd.at0 {x : EntD} {w0 w : World} {S : List Nat} {L : List Res} (h : x.rd w0 S) (hw : Own w0 S L w) : x.rd w [] := ⟨hw.rd0 h.dv⟩
theorem EntD.rd.at {x : EntD} {w0 w : World} {S : List Nat} {L Lin : List Res} (h : x.rd w0 S) (hw : Own w0 S L w) (m : List Nat) (hm : m.mapM (fun i => L[i]?) = some Lin) : x.rd w (xN Lin) := ⟨hw.rdTo h.dv m hm⟩
def EntD.dres (x : EntD) : Res := Res.vec 5 1 x.dv x.data.length (x.data.map vb)
theorem EntD.dres_rd {x : EntD} {w : World} {S : List Nat} (h : Rd w S x.dres) : x.rd w S := ⟨h.sub Vec.sl zA2⟩
theorem EntD.rd.star0 {es : List EntD} {w0 w : World} {S : List Nat} {L : List Res} (j : Nat) (hL : L[j]? = some (Res.star (es.map EntD.dres))) (h : Own w0 S L w) : ∀ p ∈ es, p.rd w [] := fun p hp => EntD.dres_rd (h.star0 j hL _ (List.mem_map_of_mem hp))
theorem EntD.rd.star {es : List EntD} {w0 w : World} {S : List Nat} {L Lin : List Res} (j : Nat) (hL : L[j]? = some (Res.star (es.map EntD.dres))) (m : List Nat) (hm : m.mapM (fun i => L[i]?) = some Lin) (hj : m.any (Nat.beq j) = false) (h : Own w0 S L w) : ∀ p ∈ es, p.rd w (xN Lin) := fun p hp => EntD.dres_rd (h.star j hL m hm hj _ (List.mem_map_of_mem hp))
def EntA.ok (x : EntA) : Prop := ((1 ≤ x.index ∧ 1 ≤ x.term) ∧ (x.index ≤ 4611686018427387904 ∧ x.term ≤ 4611686018427387904) ∧ (0 ≤ x.delta ∧ x.delta ≤ 1099511627776) ∧ x.data.length ≤ 4096) ∧
  if x.kind = 1 then x.data.length = 0 else if x.kind = 3 then (zDQ x.data).isSome = true else x.kind = 2
instance (x : EntA) : Decidable x.ok := by unfold EntA.ok; infer_instance
def EntA.enc (x : EntA) : List UInt8 := yj [x.index, x.term, u64 x.kind, u64 x.delta] ++ jj x.data
theorem EntA.enc_le {x : EntA} (h : x.wf) : x.enc.length ≤ x.data.length + 60 := by
  have h1 := xh (ns := [x.index, x.term, u64 x.kind, u64 x.delta]) (by have := h.index; have := h.term; simp [yh, *])
  have h2 := zAg x.data (by have := h.data; omega)
  simp only [EntA.enc, List.length_append, List.length_cons, List.length_nil] at *
  omega
theorem ValPost.iff {α : Type} {d : Option α} {x z : α} {e : Int} (h : ValPost d x z e) : e = 0 ↔ d.isSome = true := by
  rcases h with ⟨rfl, h⟩ | ⟨rfl, h, _⟩ <;> simp [h]
theorem RefPost.iff {α : Type} {d : Option α} {x : α} {f : Bool} (h : RefPost d x f) : f = true ↔ d.isSome = true := by
  cases f with
  | true => simp [h.yes rfl]
  | false => simp [h.no rfl]
theorem zEz (x : EntD) (w : World) (hx : x.wf) (rd_x : EntD.rd x w []) : Rets Tryz.prog 123 #[.agg (EntD.cells x).toArray] w fun u_ w' => u_ = .bool (decide x.ok) ∧ Own w [] [] w' := by
  have hd := hx.data
  have h1 := hx.index
  have h2 := hx.term
  refine zb Tryz.func123 rfl Tryz.ntmps123 (Own.start w) ?_
  refine zB (yb rfl rfl (fun b1 => zD rfl (zA (zL (zB (zX (o := 0) rfl rfl (zY 0 (v := Vn x.index) rfl rfl rfl rfl (yZ rfl rfl rfl (zC rfl (y6 (q := ((x.index : Nat) : Int) < ((1 : Nat) : Int)) 3 3 [11, 10, 9] (((x.term : Nat) : Int) < ((1 : Nat) : Int)) rfl rfl rfl rfl rfl rfl trivial rfl (fun h1_3 => ?_) (fun g1_7 => ?_)))))))))))
  ·
   refine zS rfl (gF h1_3) (zX (o := 1) rfl rfl (zS rfl (gF h1_3) (zY 0 (v := Vn x.term) rfl rfl rfl rfl (zS rfl (gF h1_3) (yZ rfl rfl rfl ?_)))))
   exact ya rfl (fun _ hw => hw)
  refine zC rfl (y6 (q := (((x.index : Nat) : Int) < ((1 : Nat) : Int)) ∨ (((x.term : Nat) : Int) < ((1 : Nat) : Int))) 6 8 [19, 18, 17, 16, 15, 14] (((4611686018427387904 : Nat) : Int) < ((max x.index x.term : Nat) : Int)) rfl rfl rfl rfl rfl rfl trivial rfl (fun h1_8 => ?_) (fun g1_15 => ?_))
  ·
   refine zS rfl (gF h1_8) (zX (o := 0) rfl rfl (zS rfl (gF h1_8) (zY 0 (v := Vn x.index) rfl rfl rfl rfl (zS rfl (gF h1_8) (zX (o := 1) rfl rfl (zS rfl (gF h1_8) (zY 0 (v := Vn x.term) rfl rfl rfl rfl (zS rfl (gF h1_8) (zL0 (c := ((max x.index x.term : Nat) : Int)) rfl rfl (zMK _ _) rfl (zS rfl (gF h1_8) (y9 rfl rfl rfl ?_)))))))))))
   exact ya rfl (fun _ hw => hw)
  refine zC rfl (y6 (q := ((((x.index : Nat) : Int) < ((1 : Nat) : Int)) ∨ (((x.term : Nat) : Int) < ((1 : Nat) : Int))) ∨ (((4611686018427387904 : Nat) : Int) < ((max x.index x.term : Nat) : Int))) 3 16 [24, 23, 22] (x.delta < 0) rfl rfl rfl rfl rfl rfl trivial rfl (fun h1_16 => ?_) (fun g1_20 => ?_))
  ·
   refine zS rfl (gF h1_16) (zX (o := 3) rfl rfl (zS rfl (gF h1_16) (zY 0 (v := Vi x.delta) rfl rfl rfl rfl (zS rfl (gF h1_16) (yZ rfl rfl rfl ?_)))))
   exact ya rfl (fun _ hw => hw)
  refine zC rfl (y6 (q := (((((x.index : Nat) : Int) < ((1 : Nat) : Int)) ∨ (((x.term : Nat) : Int) < ((1 : Nat) : Int))) ∨ (((4611686018427387904 : Nat) : Int) < ((max x.index x.term : Nat) : Int))) ∨ (x.delta < 0)) 3 21 [29, 28, 27] (1099511627776 < x.delta) rfl rfl rfl rfl rfl rfl trivial rfl (fun h1_21 => ?_) (fun g1_25 => ?_))
  ·
   refine zS rfl (gF h1_21) (zX (o := 3) rfl rfl (zS rfl (gF h1_21) (zY 0 (v := Vi x.delta) rfl rfl rfl rfl (zS rfl (gF h1_21) (y9 rfl rfl rfl ?_)))))
   exact ya rfl (fun _ hw => hw)
  refine zC rfl (y6 (q := ((((((x.index : Nat) : Int) < ((1 : Nat) : Int)) ∨ (((x.term : Nat) : Int) < ((1 : Nat) : Int))) ∨ (((4611686018427387904 : Nat) : Int) < ((max x.index x.term : Nat) : Int))) ∨ (x.delta < 0)) ∨ (1099511627776 < x.delta)) 4 26 [35, 34, 33, 32] (4096 < ((x.data.length : Nat) : Int)) rfl rfl rfl rfl rfl rfl trivial rfl (fun h1_26 => ?_) (fun g1_31 => ?_))
  ·
   refine zS rfl (gF h1_26) (zX (o := 4) rfl rfl (zS rfl (gF h1_26) (zY 0 (v := x.dv) rfl rfl rfl rfl (zS rfl (gF h1_26) (yO (pR rd_x.dv) rfl rfl (zS rfl (gF h1_26) (y9 rfl rfl rfl ?_)))))))
   exact ya rfl (fun _ hw => hw)
  refine zA (zZ rfl (fun c1 => ?_) (fun c1 => ?_))
  ·
   refine zB (zD rfl (zA ?_))
   exact zP (z8 (v := .bool false) rfl rfl (fun w' hw => ⟨(by rw [decide_eq_false]; rintro ⟨h, _⟩; omega), hw.drop⟩))
  ·
   refine zM (zL (zB (zX (o := 2) rfl rfl (zY 0 (v := Vi x.kind) rfl rfl rfl rfl (zA (zQ (zB (xM rfl rfl rfl (zD rfl (zA (zZ rfl (fun c2 => ?_) (fun c2 => ?_))))))))))))
   ·
    refine zB (zX (o := 4) rfl rfl (zY 0 (v := x.dv) rfl rfl rfl rfl (yO (pR rd_x.dv) rfl rfl (xM rfl rfl rfl (zD rfl (zA ?_))))))
    exact zP (z8 (v := .bool (decide (((x.data.length : Nat) : Int) = 0))) rfl rfl (fun w' hw => ⟨(by congr 1; exact decide_eq_decide.2 (by unfold EntA.ok; rw [if_pos c2]; exact ⟨fun h => ⟨by omega, by omega⟩, fun h => by have := h.2; omega⟩)), hw.drop⟩))
   ·
    refine zB (xM rfl rfl rfl (zD rfl (zA (zZ rfl (fun c3 => ?_) (fun c3 => ?_)))))
    ·
     refine zB (zX (o := 4) rfl rfl (zY 0 (v := x.dv) rfl rfl rfl rfl (zK rfl rfl (fun w' hw => (zHA x.dv x.data w' (by first | assumption | omega | (simp <;> omega) | (constructor <;> (first | omega | (simp only [zd]; omega) | (simp <;> omega)))) (hw.rd0 rd_x.dv)).mono ?_))))
     rintro _ w1 ⟨r11_, l12_, r23_, l24_, e5_, rfl, hf7_2, hf7_2_1, hf7_2_2, hO⟩
     refine (?_ : CL _ _ _ _ _ _ (Own w [] [Res.row b1 57 (EntD.cells x), Res.vec 3 1 r11_ l12_.length (l12_.flatMap I1), Res.vec 3 1 r23_ l24_.length (l24_.flatMap I1)])) w1 (hw.frame0 hO)
     refine zC rfl (zp (vs := [.agg #[r11_, r23_], Vi e5_]) rfl rfl rfl (zp (vs := [.agg #[r11_, r23_], Vi e5_]) rfl rfl rfl (yL (v := .agg #[.slice none 0 0, .slice none 0 0]) (by kernel_rfl) rfl (fun b3 => ?_))))
     refine yu (fun w' hw => Own.cell1Vec (i := 1) rfl hw) (fun hc1_ => ?_)
     refine yu (fun w' hw => Own.cell1Vec (i := 2) rfl hw) (fun hc2_ => ?_)
     refine zo 3 rfl rfl rfl (zx hc1_ (zx hc2_ xB)) rfl (zD rfl (zA (zB (zC rfl (xM rfl rfl rfl (zD rfl (zA ?_)))))))
     exact zP (z8 (v := .bool (decide (e5_ = 0))) rfl rfl (fun w' hw => ⟨(by congr 1; exact decide_eq_decide.2 (by unfold EntA.ok; rw [if_neg c2, if_pos c3, ← hf7_2.iff]; exact ⟨fun h => ⟨by omega, h⟩, fun h => h.2⟩)), hw.drop⟩))
    ·
     refine zM (zB (zX (o := 2) rfl rfl (zY 0 (v := Vi x.kind) rfl rfl rfl rfl (xM rfl rfl rfl (zD rfl (zA ?_))))))
     exact zP (z8 (v := .bool (decide (x.kind = 2))) rfl rfl (fun w' hw => ⟨(by congr 1; exact decide_eq_decide.2 (by unfold EntA.ok; rw [if_neg c2, if_neg c3]; exact ⟨fun h => ⟨by omega, h⟩, fun h => h.2⟩)), hw.drop⟩))
theorem zEm {S : List Nat} (o : Nat) (sl : Value) (bs : List UInt8) (x : EntD) (w : World) (hx : x.wf) (hb : bs.length + x.enc.length ≤ 10000000000) (hin : Own w S [Res.bv o xU sl bs] w) (rd_x : EntD.rd x w S) : Rets Tryz.prog 125 #[.pointer (some ⟨o, 0, none⟩), .agg (EntD.cells x).toArray] w fun u_ w' => ∃ (sl' : Value), u_ = .tuple #[] ∧ Own w S [Res.bv o xU sl' (bs ++ x.enc)] w' := by
  have hd := hx.data
  have h1 := hx.index
  have h2 := hx.term
  have he : x.enc.length = (yj [x.index, x.term, u64 x.kind, u64 x.delta]).length + (jj x.data).length := by simp [EntA.enc]
  refine zb Tryz.func125 rfl Tryz.ntmps125 hin ?_
  refine zB (yb rfl rfl (fun b3 => zA (zB (zC rfl (zX (o := 0) rfl rfl (zY 1 (v := Vn x.index) rfl rfl rfl rfl (zX (o := 1) rfl rfl (zY 1 (v := Vn x.term) rfl rfl rfl rfl (zX (o := 2) rfl rfl (zY 1 (v := Vi x.kind) rfl rfl rfl rfl (yv (by kernel_rfl) rfl (xK _) rfl ?_ (by kernel_rfl))))))))))))
  refine zX (o := 3) rfl rfl (zY 1 (v := Vi x.delta) rfl rfl rfl rfl (yv (by kernel_rfl) rfl (xK _) rfl ?_ (by kernel_rfl)))
  refine xF (e := 28) (sz := 1) (vs := [Vn x.index, Vn x.term, Vn (u64 x.kind), Vn (u64 x.delta)]) (by kernel_rfl) rfl rfl (by simp [Value.cells]) (by decide) rfl (fun b15 => zK rfl rfl (fun w' hw => (zDN o _ _ (.slice (some ⟨b15, 0, none⟩) 4 4) [x.index, x.term, u64 x.kind, u64 x.delta] w' (by first | assumption | (simp [yh]; done) | (simp [yh]; omega) | (simp; omega)) (by first | omega | (simp <;> omega) | (constructor <;> (first | omega | (simp <;> omega)))) (hw.give [0] rfl (by decide)) (hw.rdVec 2 rfl [0] rfl rfl)).mono ?_))
  rintro _ w1 ⟨sl'1_, rfl, hO⟩
  refine (?_ : CL _ _ _ _ _ _ (Own w S [Res.row b3 57 (EntD.cells x), Res.vec 28 1 (.slice (some ⟨b15, 0, none⟩) 4 4) [x.index, x.term, u64 x.kind, u64 x.delta].length ([x.index, x.term, u64 x.kind, u64 x.delta].flatMap U1), Res.bv o xU sl'1_ (bs ++ yj [x.index, x.term, u64 x.kind, u64 x.delta])])) w1 (hw.frameL [0] rfl hO)
  refine zA (zj (zC rfl (zX (o := 4) rfl rfl (zY 0 (v := x.dv) rfl rfl rfl rfl (zB5 (e := 52) (vs := [x.dv]) (by kernel_rfl) rfl rfl (zx (Sl.cell1 (Rd.φ rd_x.dv)) xB) (by decide) rfl (fun b20 => zK rfl rfl (fun w' hw => (zHR o sl'1_ (bs ++ yj [x.index, x.term, u64 x.kind, u64 x.delta]) (.slice (some ⟨b20, 0, none⟩) 1 1) [(x.dv, x.data)] w' (by simp [yA]; omega) (by show 1 ≤ _; omega) (hw.give [2] rfl (by decide)) (hw.rdVec 3 rfl [2] rfl rfl) (all_cons (hw.rdTo rd_x.dv [2] rfl) (fun p hp => by cases hp))).mono ?_)))))))
  rintro _ w1 ⟨sl'2_, rfl, hO⟩
  refine (?_ : CL _ _ _ _ _ _ (Own w S [Res.row b3 57 (EntD.cells x), Res.vec 28 1 (.slice (some ⟨b15, 0, none⟩) 4 4) [x.index, x.term, u64 x.kind, u64 x.delta].length ([x.index, x.term, u64 x.kind, u64 x.delta].flatMap U1), Res.vec 52 1 (.slice (some ⟨b20, 0, none⟩) 1 1) [(x.dv, x.data)].length ([(x.dv, x.data)].flatMap pv), Res.bv o xU sl'2_ ((bs ++ yj [x.index, x.term, u64 x.kind, u64 x.delta]) ++ yA [(x.dv, x.data)])])) w1 (hw.frameL [2] rfl hO)
  exact zf (jQ rfl (fun w' hw => ⟨sl'2_, rfl, by have h := hw.one 3 rfl; simpa [EntA.enc, yA] using h⟩))
theorem zGB (w : World) : Rets Tryz.prog 92 #[] w fun u_ w' => u_ = .agg #[.func (.func 123) #[] #[], .func (.func 125) #[] #[], .func (.func 126) #[] #[]] ∧ Own w [] [] w' := by
  refine zb Tryz.func92 rfl Tryz.ntmps92 (Own.start w) ?_
  refine zB (yL (v := .agg #[.nilFunc, .nilFunc, .nilFunc]) (by kernel_rfl) rfl (fun b0 => zA (zB (yn (cs := [.func (.func 123) #[] #[], .func (.func 125) #[] #[], .func (.func 126) #[] #[]]) (z := [.nilFunc, .nilFunc, .nilFunc]) (pl := [(0, 1), (1, 1), (2, 1)]) (by kernel_rfl) (by kernel_rfl) rfl (zo 0 rfl rfl rfl (yI rfl) rfl (zA ?_))))))
  exact zP (jo (cs := [.func (.func 123) #[] #[], .func (.func 125) #[] #[], .func (.func 126) #[] #[]]) rfl rfl (by kernel_rfl) (Own.rowCells (i := 0) rfl) (fun w' hw => ⟨rfl, hw.drop⟩))
theorem zEq (x : EntD) (w : World) (hx : x.wf) (rd_x : EntD.rd x w []) : Rets Tryz.prog 93 #[.agg #[.func (.func 123) #[] #[], .func (.func 125) #[] #[], .func (.func 126) #[] #[]], .agg (EntD.cells x).toArray] w fun u_ w' => ∃ (r : Value), u_ = .tuple #[r, Vi (yg x.ok)] ∧ Own w [] [Res.vec 5 1 r (if x.ok then x.enc else []).length ((if x.ok then x.enc else []).map vb)] w' := by
  have hd := hx.data
  have hl := EntA.enc_le hx
  refine zb Tryz.func93 rfl Tryz.ntmps93 (Own.start w) ?_
  refine zB (yb rfl rfl (fun b2 => yb rfl rfl (fun b3 => zD rfl (zD rfl (zA (zL (zB (zX (o := 0) rfl rfl (zY 0 (v := .func (.func 123) #[] #[]) rfl rfl rfl rfl (yd (cs := (EntD.cells x)) 1 rfl rfl rfl (y4 (fst := []) (cap := []) rfl (by kernel_rfl) rfl rfl (fun w' hw => (zEz x w' ‹_› (rd_x.at0 hw)).mono ?_))))))))))))
  rintro _ w1 ⟨rfl, hO⟩
  refine (?_ : CL _ _ _ _ _ _ (Own w [] [Res.row b2 161 [.func (.func 123) #[] #[], .func (.func 125) #[] #[], .func (.func 126) #[] #[]], Res.row b3 57 (EntD.cells x)])) w1 (hw.frame0 hO)
  refine kR (q := x.ok) rfl rfl (zA (zZ rfl (fun c1 => ?_) (fun c1 => ?_)))
  ·
   refine zB (zD rfl (zD rfl (zA ?_)))
   exact zP (xk (v := .slice none 0 0) (v' := Vi 2) rfl rfl rfl (fun w' hw => ⟨.slice none 0 0, (by rw [zDY c1]), by rw [if_neg c1]; exact (yQ hw T8 1).one 2 rfl⟩))
  ·
   refine zM (zB (yn (cs := [.slice none 0 0]) (z := [.slice none 0 0]) (pl := [(0, 1)]) (by kernel_rfl) (by kernel_rfl) rfl (yb rfl rfl (fun b13 => zD rfl (zA (zB (zX (o := 1) rfl rfl (zY 0 (v := .func (.func 125) #[] #[]) rfl rfl rfl rfl (zC rfl (yd (cs := (EntD.cells x)) 1 rfl rfl rfl ?_))))))))))
   refine zBH [Res.row b2 161 [.func (.func 123) #[] #[], .func (.func 125) #[] #[], .func (.func 126) #[] #[]], Res.row b3 57 (EntD.cells x), Res.bv b13 xU (.slice none 0 0) ([] : List UInt8)] (fun w' hw => (yQ hw T8 1).joinBv (i := 2) (j := 3) (by decide) rfl rfl) ?_
   refine y4 (fst := []) (cap := []) rfl (by kernel_rfl) rfl rfl (fun w' hw => (zEm b13 (.slice none 0 0) ([] : List UInt8) x w' ‹_› (by first | omega | (simp <;> omega) | (constructor <;> (first | omega | (simp <;> omega)))) (hw.give [2] rfl (by decide)) (rd_x.at hw [2] rfl)).mono ?_)
   rintro _ w1 ⟨sl'1_, rfl, hO⟩
   refine (?_ : CL _ _ _ _ _ _ (Own w [] [Res.row b2 161 [.func (.func 123) #[] #[], .func (.func 125) #[] #[], .func (.func 126) #[] #[]], Res.row b3 57 (EntD.cells x), Res.bv b13 xU sl'1_ (([] : List UInt8) ++ x.enc)])) w1 (hw.frameL [2] rfl hO)
   refine zA (zB (zC rfl (zr rfl rfl (zX (o := 0) rfl rfl ?_))))
   refine zBH [Res.row b2 161 [.func (.func 123) #[] #[], .func (.func 125) #[] #[], .func (.func 126) #[] #[]], Res.row b3 57 (EntD.cells x), Res.row b13 xU [sl'1_], Res.vec 5 1 sl'1_ (([] : List UInt8) ++ x.enc).length ((([] : List UInt8) ++ x.enc).map vb)] (fun w' hw => hw.splitBv (i := 2) (o := b13) (T := xU) (v := sl'1_) (bs := (([] : List UInt8) ++ x.enc)) rfl) ?_
   refine zY 2 (v := sl'1_) rfl rfl rfl rfl (zD rfl (zD rfl (zA ?_)))
   exact zP (xk (v := sl'1_) (v' := Vi 0) rfl rfl rfl (fun w' hw => ⟨sl'1_, (by rw [zDs (Decidable.not_not.1 c1)]), by rw [if_pos (Decidable.not_not.1 c1)]; exact hw.one 3 rfl⟩))
theorem zFG (x : EntD) (w : World) (hx : x.wf) (rd_x : EntD.rd x w []) : Rets Tryz.prog 54 #[.agg (EntD.cells x).toArray] w fun u_ w' => ∃ (r : Value), u_ = .tuple #[r, Vi (yg x.ok)] ∧ Own w [] [Res.vec 5 1 r (if x.ok then x.enc else []).length ((if x.ok then x.enc else []).map vb)] w' := by
  refine zb Tryz.func54 rfl Tryz.ntmps54 (Own.start w) ?_
  refine zB (yb rfl rfl (fun b1 => zD rfl (zD rfl (zA (zL (zi [0] rfl (by decide) (by kernel_rfl) (fun w' hw hS => zG 1 rfl (je (cs := (EntD.cells x)) 0 rfl rfl) hS (ze 0 rfl hw (zK rfl rfl (fun w' hw => (zGB w').mono ?_))))))))))
  rintro _ w1 ⟨rfl, hO⟩
  refine (?_ : CL _ _ _ _ _ _ (Own w [] [Res.row b1 57 (EntD.cells x)])) w1 (hw.frame0 hO)
  refine zF [0] rfl (by decide) (fun w' hw hS => ze 2 rfl hw (zK rfl rfl (fun w' hw => (zEq x w' ‹_› (rd_x.at0 hw)).mono ?_)))
  rintro _ w1 ⟨r1_, rfl, hO⟩
  refine (?_ : CL _ _ _ _ _ _ (Own w [] [Res.row b1 57 (EntD.cells x), Res.vec 5 1 r1_ (if x.ok then x.enc else []).length ((if x.ok then x.enc else []).map vb)])) w1 (hw.frame0 hO)
  refine zF [0] rfl (by decide) (fun w' hw hS => zG 3 rfl (yw (vs := [r1_, Vi (yg x.ok)]) rfl rfl) hS (zG 4 rfl (yw (vs := [r1_, Vi (yg x.ok)]) rfl rfl) hS (zG 5 rfl (xV) hS (zG 6 rfl (xV) hS (zO ?_)))))
  refine (?_ : C _ _ _ _ _ _ _ (Own w [] [Res.row b1 57 (EntD.cells x), Res.vec 5 1 r1_ (if x.ok then x.enc else []).length ((if x.ok then x.enc else []).map vb)])) _ hw
  exact zP (xk (v := r1_) (v' := Vi (yg x.ok)) rfl rfl rfl (fun w' hw => ⟨r1_, rfl, hw.sel [1] rfl (by decide)⟩))
end Go.Proofs.YthincafbmpialaaGreat
