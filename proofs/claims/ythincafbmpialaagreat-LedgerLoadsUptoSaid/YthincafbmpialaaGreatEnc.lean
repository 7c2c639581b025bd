import Derived.Test.YthincafbmpialaaGreatRefW
import Derived.Test.YthincafbmpialaaGreatConfDec
set_option linter.unusedSectionVars false
set_option linter.unusedSimpArgs false
set_option linter.unusedVariables false
set_option maxRecDepth 10000
namespace Go.Proofs.YthincafbmpialaaGreat
open Go Go.Sc Go.Proofs
def pv (p : Value × List UInt8) : List Value := [p.1]
abbrev BsRd (p : Value × List UInt8) (w : World) (S : List Nat) : Prop := Rd w S (Res.sl p.1 p.2.length (p.2.map vb))
theorem BsRd.at0 {p : Value × List UInt8} {w0 w : World} {S : List Nat} {L : List Res} (h : BsRd p w0 S) (hw : Own w0 S L w) : BsRd p w [] := hw.rd0 h
theorem BsRd.at {p : Value × List UInt8} {w0 w : World} {S : List Nat} {L Lin : List Res} (h : BsRd p w0 S) (hw : Own w0 S L w) (m : List Nat) (hm : m.mapM (fun i => L[i]?) = some Lin) : BsRd p w (xZ Lin) := hw.rdTo h m hm
def yJ (ps : List (Value × List UInt8)) : List UInt8 := ps.flatMap fun p => dat p.2
theorem jm (v : Value) (bs : List UInt8) (lv : Value) (ps : List (Value × List UInt8)) (w : World) (hb : bs.length + (yJ ps).length ≤ 100000000000) (hn : zb ps.length) (hv : Rd w [] (Res.sl v bs.length (bs.map vb))) (hl : Rd w [] (Res.sl lv ps.length (ps.flatMap pv))) (all_hl : ∀ p ∈ ps, BsRd p w []) : Rets Tryz.prog 50 #[v, lv] w fun u_ w' => ∃ (r : Value), u_ = r ∧ Own w [] [Res.vec 5 1 r (bs ++ yJ ps).length ((bs ++ yJ ps).map vb)] w' := by
  have hbl : bs.length ≤ 100000000000 := by omega
  refine zW Tryz.func50 rfl Tryz.ntmps50 (Own.start w) ?_
  refine zB (zD rfl (zA (zB (zC rfl (zJ rfl rfl (fun w' hw => (zFJ v bs w' (by first | assumption | omega | (simp <;> omega) | (constructor <;> (first | omega | (simp only [zb]; omega) | (simp <;> omega)))) (hw.rd0 hv)).mono ?_))))))
  rintro r1_ w1 ⟨_, rfl, hO⟩
  refine (?_ : CL _ _ _ _ _ _ (Own w [] [Res.vec 5 1 r1_ bs.length (bs.map vb)])) w1 (hw.frame0 hO)
  refine zD rfl (zA (zL (zB (zC rfl (yC (pR hl) rfl rfl (zC rfl (zA (zT ?_))))))))
  refine xT (fun (k : Nat) (o : Value) => [(5, o), (10, lv), (11, Vj ps.length), (12, Vj k)]) (fun (k : Nat) (o : Value) => k ≤ ps.length) (fun (k : Nat) (o : Value) => [Res.vec 5 1 o (bs ++ yJ (ps.take k)).length ((bs ++ yJ (ps.take k)).map vb)]) (fun (k : Nat) (o : Value) => ps.length - k) (fun w' hw => ⟨0, r1_, ⟨rfl, rfl, rfl, rfl, trivial⟩, Nat.zero_le _, by simpa [yJ] using hw⟩) (fun k o g hΦ => ?_)
  have hle := zBw (fun p : Value × List UInt8 => dat p.2) ps (k + 1)
  refine zB (yI rfl rfl rfl (zA (zL (zU rfl (fun c1 => ?_) (fun c1 => ?_)))))
  ·
   rw [yB (by omega), List.flatMap_append] at hle
   simp only [List.length_append, List.flatMap_cons, List.flatMap_nil, List.append_nil, dat] at hle
   have hcl : (yJ (ps.take k)).length + ((yO (zI ps k).2.length).length + (zI ps k).2.length) ≤ (yJ ps).length := hle
   refine zK (zL (zT (zB (zH (pR hl) 1 k rfl rfl rfl (by omega) rfl (zV (pR hl) 1 k 0 (fun _ => rfl) rfl rfl (by omega) rfl rfl (zD rfl (zA (zd (zC rfl (zC rfl (yC (pR (all_hl _ (yM (by omega)))) rfl rfl (yw (by kernel_rfl) rfl (kS (by omega)) rfl ?_ (by kernel_rfl)))))))))))))
   refine zJ rfl rfl (fun w' hw => (xd o (bs ++ yJ (ps.take k)) (((zI ps k).2).length) w' (by first | omega | (simp <;> omega)) (by first | omega | (simp <;> omega) | (constructor <;> (first | omega | (simp <;> omega)))) (hw.rdVec0 0 rfl)).mono ?_)
   rintro r2_ w1 ⟨_, rfl, hO⟩
   refine (?_ : CL _ _ _ _ _ _ (Own w [] [Res.vec 5 1 o (bs ++ yJ (ps.take k)).length ((bs ++ yJ (ps.take k)).map vb), Res.vec 5 1 r2_ ((bs ++ yJ (ps.take k)) ++ yO (((zI ps k).2).length)).length (((bs ++ yJ (ps.take k)) ++ yO (((zI ps k).2).length)).map vb)])) w1 (hw.frame0 hO)
   refine zC rfl (zCi (l := ((bs ++ yJ (ps.take k)) ++ yO (((zI ps k).2).length))) (l' := (zI ps k).2) 1 (by kernel_rfl) rfl rfl rfl (fun w' hw' => Own.rd (all_hl _ (yM (by omega))) hw') (by first | omega | (simp; omega)) rfl (fun v22 => zD rfl (zA (zd (zt rfl rfl (zr (by omega)) rfl (zC rfl ?_))))))
   exact zj (fun w' hw => ⟨k + 1, v22, ⟨rfl, rfl, rfl, rfl, trivial⟩, (by omega), by rw [yB (by omega)]; have h := hw.one 1 rfl; simpa [yJ, dat] using h, (by omega)⟩)
  ·
   refine yG rfl (zB (zC rfl (zD rfl (zA ?_))))
   exact zM (z6 (v := o) rfl rfl (fun w' hw => ⟨o, rfl, by rw [List.take_of_length_le (by omega)] at hw; exact hw⟩))
theorem zIq {S : List Nat} (o : Nat) (sl : Value) (bs : List UInt8) (lv : Value) (ps : List (Value × List UInt8)) (w : World) (hb : bs.length + (yJ ps).length ≤ 100000000000) (hn : zb ps.length) (hin : Own w S [Res.bv o xi sl bs] w) (hl : Rd w S (Res.sl lv ps.length (ps.flatMap pv))) (all_hl : ∀ p ∈ ps, BsRd p w S) : Rets Tryz.prog 102 #[.pointer (some ⟨o, 0, none⟩), lv] w fun u_ w' => ∃ (sl' : Value), u_ = .tuple #[] ∧ Own w S [Res.bv o xi sl' (bs ++ yJ ps)] w' := by
  refine zW Tryz.func102 rfl Tryz.ntmps102 hin ?_
  refine zd (zC rfl (zC rfl (zm rfl rfl (zP (o := 0) rfl rfl ?_))))
  refine zBM [Res.row o xi [sl], Res.vec 5 1 sl bs.length (bs.map vb)] (fun w' hw => hw.splitBv (i := 0) (o := o) (T := xi) (v := sl) (bs := bs) rfl) ?_
  refine zS 0 (v := sl) rfl rfl rfl rfl (zC rfl (zJ rfl rfl (fun w' hw => (jm sl bs lv ps w' (by first | omega | (simp <;> omega)) (by first | assumption | omega | (simp <;> omega) | (constructor <;> (first | omega | (simp only [zb]; omega) | (simp <;> omega)))) (hw.rdVec0 1 rfl) (hw.rd0 hl) (fun p hp => BsRd.at0 (all_hl p hp) hw)).mono ?_)))
  rintro r1_ w1 ⟨_, rfl, hO⟩
  refine (?_ : CL _ _ _ _ _ _ (Own w S [Res.row o xi [sl], Res.vec 5 1 sl bs.length (bs.map vb), Res.vec 5 1 r1_ (bs ++ yJ ps).length ((bs ++ yJ ps).map vb)])) w1 (hw.frame0 hO)
  refine zm rfl rfl (zP (o := 0) rfl rfl ?_)
  refine yS (fun w' hw => Own.cell1Vec (i := 2) rfl hw) (fun hc1_ => ?_)
  refine yi (cs := [sl]) 0 rfl rfl rfl hc1_ rfl ?_
  exact zj (jq rfl (fun w' hw => ⟨r1_, rfl, (hw.joinBv (i := 0) (j := 2) (o := o) (T := xi) (v := r1_) (bs := bs ++ yJ ps) (by decide) rfl rfl).one 0 rfl⟩))
structure EntA where
  index : Nat
  term : Nat
  kind : Int
  delta : Int
  data : List UInt8
  deriving DecidableEq, Inhabited
structure EntD extends EntA where
  dv : Value
  deriving Inhabited
structure EntA.wf (x : EntA) : Prop where
  index : x.index < 18446744073709551616
  term : x.term < 18446744073709551616
  data : x.data.length ≤ 1000000000
def EntD.cells (x : EntD) : List Value := [.int .u64 x.index, .int .u64 x.term, .int .i64 x.kind, .int .i64 x.delta, x.dv]
structure EntD.rd (x : EntD) (w : World) (S : List Nat) : Prop where
  dv : Rd w S (Res.sl x.dv x.data.length (x.data.map vb))
theorem EntD.rd.at0 {x : EntD} {w0 w : World} {S : List Nat} {L : List Res} (h : x.rd w0 S) (hw : Own w0 S L w) : x.rd w [] := ⟨hw.rd0 h.dv⟩
theorem EntD.rd.at {x : EntD} {w0 w : World} {S : List Nat} {L Lin : List Res} (h : x.rd w0 S) (hw : Own w0 S L w) (m : List Nat) (hm : m.mapM (fun i => L[i]?) = some Lin) : x.rd w (xZ Lin) := ⟨hw.rdTo h.dv m hm⟩
def EntD.dres (x : EntD) : Res := Res.vec 5 1 x.dv x.data.length (x.data.map vb)
theorem EntD.dres_rd {x : EntD} {w : World} {S : List Nat} (h : Rd w S x.dres) : x.rd w S := ⟨h.sub Vec.sl zBQ⟩
theorem EntD.rd.star0 {es : List EntD} {w0 w : World} {S : List Nat} {L : List Res} (j : Nat) (hL : L[j]? = some (Res.star (es.map EntD.dres))) (h : Own w0 S L w) : ∀ p ∈ es, p.rd w [] := fun p hp => EntD.dres_rd (h.star0 j hL _ (List.mem_map_of_mem hp))
theorem EntD.rd.star {es : List EntD} {w0 w : World} {S : List Nat} {L Lin : List Res} (j : Nat) (hL : L[j]? = some (Res.star (es.map EntD.dres))) (m : List Nat) (hm : m.mapM (fun i => L[i]?) = some Lin) (hj : m.any (Nat.beq j) = false) (h : Own w0 S L w) : ∀ p ∈ es, p.rd w (xZ Lin) := fun p hp => EntD.dres_rd (h.star j hL m hm hj _ (List.mem_map_of_mem hp))
def EntA.ok (x : EntA) : Prop := ((1 ≤ x.index ∧ 1 ≤ x.term) ∧ (x.index ≤ 4611686018427387904 ∧ x.term ≤ 4611686018427387904) ∧ (0 ≤ x.delta ∧ x.delta ≤ 1099511627776) ∧ x.data.length ≤ 4096) ∧
  if x.kind = 1 then x.data.length = 0 else if x.kind = 3 then (zB2 x.data).isSome = true else x.kind = 2
instance (x : EntA) : Decidable x.ok := by unfold EntA.ok; infer_instance
def EntA.enc (x : EntA) : List UInt8 := y7 [x.index, x.term, u64 x.kind, u64 x.delta] ++ dat x.data
theorem EntA.enc_le {x : EntA} (h : x.wf) : x.enc.length ≤ x.data.length + 60 := by
  have h1 := xv (ns := [x.index, x.term, u64 x.kind, u64 x.delta]) (by have := h.index; have := h.term; simp [xM, *])
  have h2 := zA2 x.data (by have := h.data; omega)
  simp only [EntA.enc, List.length_append, List.length_cons, List.length_nil] at *
  omega
theorem ValPost.iff {α : Type} {d : Option α} {x z : α} {e : Int} (h : ValPost d x z e) : e = 0 ↔ d.isSome = true := by
  rcases h with ⟨rfl, h⟩ | ⟨rfl, h, _⟩ <;> simp [h]
theorem RefPost.iff {α : Type} {d : Option α} {x : α} {f : Bool} (h : RefPost d x f) : f = true ↔ d.isSome = true := by
  cases f with
  | true => simp [h.yes rfl]
  | false => simp [h.no rfl]
theorem zFu (x : EntD) (w : World) (hx : x.wf) (rd_x : EntD.rd x w []) : Rets Tryz.prog 123 #[.agg (EntD.cells x).toArray] w fun u_ w' => u_ = .bool (decide x.ok) ∧ Own w [] [] w' := by
  have hd := hx.data
  have h1 := hx.index
  have h2 := hx.term
  refine zW Tryz.func123 rfl Tryz.ntmps123 (Own.start w) ?_
  refine zB (yc rfl rfl (fun b1 => zD rfl (zA (zL (zB (zP (o := 0) rfl rfl (zS 0 (v := Vn x.index) rfl rfl rfl rfl (yI rfl rfl rfl (zC rfl (yY (q := ((x.index : Nat) : Int) < ((1 : Nat) : Int)) 3 3 [11, 10, 9] (((x.term : Nat) : Int) < ((1 : Nat) : Int)) rfl rfl rfl rfl rfl rfl trivial rfl (fun h1_3 => ?_) (fun g1_7 => ?_)))))))))))
  ·
   refine zO rfl (gF h1_3) (zP (o := 1) rfl rfl (zO rfl (gF h1_3) (zS 0 (v := Vn x.term) rfl rfl rfl rfl (zO rfl (gF h1_3) (yI rfl rfl rfl ?_)))))
   exact yL rfl (fun _ hw => hw)
  refine zC rfl (yY (q := (((x.index : Nat) : Int) < ((1 : Nat) : Int)) ∨ (((x.term : Nat) : Int) < ((1 : Nat) : Int))) 6 8 [19, 18, 17, 16, 15, 14] (((4611686018427387904 : Nat) : Int) < ((max x.index x.term : Nat) : Int)) rfl rfl rfl rfl rfl rfl trivial rfl (fun h1_8 => ?_) (fun g1_15 => ?_))
  ·
   refine zO rfl (gF h1_8) (zP (o := 0) rfl rfl (zO rfl (gF h1_8) (zS 0 (v := Vn x.index) rfl rfl rfl rfl (zO rfl (gF h1_8) (zP (o := 1) rfl rfl (zO rfl (gF h1_8) (zS 0 (v := Vn x.term) rfl rfl rfl rfl (zO rfl (gF h1_8) (zMr (c := ((max x.index x.term : Nat) : Int)) rfl rfl (zNd _ _) rfl (zO rfl (gF h1_8) (yg rfl rfl rfl ?_)))))))))))
   exact yL rfl (fun _ hw => hw)
  refine zC rfl (yY (q := ((((x.index : Nat) : Int) < ((1 : Nat) : Int)) ∨ (((x.term : Nat) : Int) < ((1 : Nat) : Int))) ∨ (((4611686018427387904 : Nat) : Int) < ((max x.index x.term : Nat) : Int))) 3 16 [24, 23, 22] (x.delta < 0) rfl rfl rfl rfl rfl rfl trivial rfl (fun h1_16 => ?_) (fun g1_20 => ?_))
  ·
   refine zO rfl (gF h1_16) (zP (o := 3) rfl rfl (zO rfl (gF h1_16) (zS 0 (v := Vi x.delta) rfl rfl rfl rfl (zO rfl (gF h1_16) (yI rfl rfl rfl ?_)))))
   exact yL rfl (fun _ hw => hw)
  refine zC rfl (yY (q := (((((x.index : Nat) : Int) < ((1 : Nat) : Int)) ∨ (((x.term : Nat) : Int) < ((1 : Nat) : Int))) ∨ (((4611686018427387904 : Nat) : Int) < ((max x.index x.term : Nat) : Int))) ∨ (x.delta < 0)) 3 21 [29, 28, 27] (1099511627776 < x.delta) rfl rfl rfl rfl rfl rfl trivial rfl (fun h1_21 => ?_) (fun g1_25 => ?_))
  ·
   refine zO rfl (gF h1_21) (zP (o := 3) rfl rfl (zO rfl (gF h1_21) (zS 0 (v := Vi x.delta) rfl rfl rfl rfl (zO rfl (gF h1_21) (yg rfl rfl rfl ?_)))))
   exact yL rfl (fun _ hw => hw)
  refine zC rfl (yY (q := ((((((x.index : Nat) : Int) < ((1 : Nat) : Int)) ∨ (((x.term : Nat) : Int) < ((1 : Nat) : Int))) ∨ (((4611686018427387904 : Nat) : Int) < ((max x.index x.term : Nat) : Int))) ∨ (x.delta < 0)) ∨ (1099511627776 < x.delta)) 4 26 [35, 34, 33, 32] (4096 < ((x.data.length : Nat) : Int)) rfl rfl rfl rfl rfl rfl trivial rfl (fun h1_26 => ?_) (fun g1_31 => ?_))
  ·
   refine zO rfl (gF h1_26) (zP (o := 4) rfl rfl (zO rfl (gF h1_26) (zS 0 (v := x.dv) rfl rfl rfl rfl (zO rfl (gF h1_26) (yC (pR rd_x.dv) rfl rfl (zO rfl (gF h1_26) (yg rfl rfl rfl ?_)))))))
   exact yL rfl (fun _ hw => hw)
  refine zA (zU rfl (fun c1 => ?_) (fun c1 => ?_))
  ·
   refine zB (zD rfl (zA ?_))
   exact zM (z6 (v := .bool false) rfl rfl (fun w' hw => ⟨(by rw [decide_eq_false]; rintro ⟨h, _⟩; omega), hw.drop⟩))
  ·
   refine zK (zL (zB (zP (o := 2) rfl rfl (zS 0 (v := Vi x.kind) rfl rfl rfl rfl (zA (zT (zB (yo rfl rfl rfl (zD rfl (zA (zU rfl (fun c2 => ?_) (fun c2 => ?_))))))))))))
   ·
    refine zB (zP (o := 4) rfl rfl (zS 0 (v := x.dv) rfl rfl rfl rfl (yC (pR rd_x.dv) rfl rfl (yo rfl rfl rfl (zD rfl (zA ?_))))))
    exact zM (z6 (v := .bool (decide (((x.data.length : Nat) : Int) = 0))) rfl rfl (fun w' hw => ⟨(by congr 1; exact decide_eq_decide.2 (by unfold EntA.ok; rw [if_pos c2]; exact ⟨fun h => ⟨by omega, by omega⟩, fun h => by have := h.2; omega⟩)), hw.drop⟩))
   ·
    refine zB (yo rfl rfl rfl (zD rfl (zA (zU rfl (fun c3 => ?_) (fun c3 => ?_)))))
    ·
     refine zB (zP (o := 4) rfl rfl (zS 0 (v := x.dv) rfl rfl rfl rfl (zJ rfl rfl (fun w' hw => (zIT x.dv x.data w' (by first | assumption | omega | (simp <;> omega) | (constructor <;> (first | omega | (simp only [zb]; omega) | (simp <;> omega)))) (hw.rd0 rd_x.dv)).mono ?_))))
     rintro _ w1 ⟨r11_, l12_, r23_, l24_, e5_, rfl, hf7_2, hf7_2_1, hf7_2_2, hO⟩
     refine (?_ : CL _ _ _ _ _ _ (Own w [] [Res.row b1 57 (EntD.cells x), Res.vec 3 1 r11_ l12_.length (l12_.flatMap I1), Res.vec 3 1 r23_ l24_.length (l24_.flatMap I1)])) w1 (hw.frame0 hO)
     refine zC rfl (zp (vs := [.agg #[r11_, r23_], Vi e5_]) rfl rfl rfl (zp (vs := [.agg #[r11_, r23_], Vi e5_]) rfl rfl rfl (yF (v := .agg #[.slice none 0 0, .slice none 0 0]) (by kernel_rfl) rfl (fun b3 => ?_))))
     refine yS (fun w' hw => Own.cell1Vec (i := 1) rfl hw) (fun hc1_ => ?_)
     refine yS (fun w' hw => Own.cell1Vec (i := 2) rfl hw) (fun hc2_ => ?_)
     refine zh 3 rfl rfl rfl (zn hc1_ (zn hc2_ yt)) rfl (zD rfl (zA (zB (zC rfl (yo rfl rfl rfl (zD rfl (zA ?_)))))))
     exact zM (z6 (v := .bool (decide (e5_ = 0))) rfl rfl (fun w' hw => ⟨(by congr 1; exact decide_eq_decide.2 (by unfold EntA.ok; rw [if_neg c2, if_pos c3, ← hf7_2.iff]; exact ⟨fun h => ⟨by omega, h⟩, fun h => h.2⟩)), hw.drop⟩))
    ·
     refine zK (zB (zP (o := 2) rfl rfl (zS 0 (v := Vi x.kind) rfl rfl rfl rfl (yo rfl rfl rfl (zD rfl (zA ?_))))))
     exact zM (z6 (v := .bool (decide (x.kind = 2))) rfl rfl (fun w' hw => ⟨(by congr 1; exact decide_eq_decide.2 (by unfold EntA.ok; rw [if_neg c2, if_neg c3]; exact ⟨fun h => ⟨by omega, h⟩, fun h => h.2⟩)), hw.drop⟩))
theorem zIf (x : EntD) (w : World) (hx : x.wf) (rd_x : EntD.rd x w []) : Rets Tryz.prog 57 #[.agg (EntD.cells x).toArray] w fun u_ w' => u_ = .bool (decide x.ok) ∧ Own w [] [] w' := by
  have hd := hx.data
  have h1 := hx.index
  have h2 := hx.term
  refine zW Tryz.func57 rfl Tryz.ntmps57 (Own.start w) ?_
  refine zB (yc rfl rfl (fun b1 => zD rfl (zA (zL (zB (zP (o := 0) rfl rfl (zS 0 (v := Vn x.index) rfl rfl rfl rfl (yI rfl rfl rfl (zC rfl (yY (q := ((x.index : Nat) : Int) < ((1 : Nat) : Int)) 3 3 [11, 10, 9] (((4611686018427387904 : Nat) : Int) < ((x.index : Nat) : Int)) rfl rfl rfl rfl rfl rfl trivial rfl (fun h1_3 => ?_) (fun g1_7 => ?_)))))))))))
  ·
   refine zO rfl (gF h1_3) (zP (o := 0) rfl rfl (zO rfl (gF h1_3) (zS 0 (v := Vn x.index) rfl rfl rfl rfl (zO rfl (gF h1_3) (yg rfl rfl rfl ?_)))))
   exact yL rfl (fun _ hw => hw)
  refine zC rfl (yY (q := (((x.index : Nat) : Int) < ((1 : Nat) : Int)) ∨ (((4611686018427387904 : Nat) : Int) < ((x.index : Nat) : Int))) 3 8 [16, 15, 14] (((x.term : Nat) : Int) < ((1 : Nat) : Int)) rfl rfl rfl rfl rfl rfl trivial rfl (fun h1_8 => ?_) (fun g1_12 => ?_))
  ·
   refine zO rfl (gF h1_8) (zP (o := 1) rfl rfl (zO rfl (gF h1_8) (zS 0 (v := Vn x.term) rfl rfl rfl rfl (zO rfl (gF h1_8) (yI rfl rfl rfl ?_)))))
   exact yL rfl (fun _ hw => hw)
  refine zC rfl (yY (q := ((((x.index : Nat) : Int) < ((1 : Nat) : Int)) ∨ (((4611686018427387904 : Nat) : Int) < ((x.index : Nat) : Int))) ∨ (((x.term : Nat) : Int) < ((1 : Nat) : Int))) 3 13 [21, 20, 19] (((4611686018427387904 : Nat) : Int) < ((x.term : Nat) : Int)) rfl rfl rfl rfl rfl rfl trivial rfl (fun h1_13 => ?_) (fun g1_17 => ?_))
  ·
   refine zO rfl (gF h1_13) (zP (o := 1) rfl rfl (zO rfl (gF h1_13) (zS 0 (v := Vn x.term) rfl rfl rfl rfl (zO rfl (gF h1_13) (yg rfl rfl rfl ?_)))))
   exact yL rfl (fun _ hw => hw)
  refine zC rfl (yY (q := (((((x.index : Nat) : Int) < ((1 : Nat) : Int)) ∨ (((4611686018427387904 : Nat) : Int) < ((x.index : Nat) : Int))) ∨ (((x.term : Nat) : Int) < ((1 : Nat) : Int))) ∨ (((4611686018427387904 : Nat) : Int) < ((x.term : Nat) : Int))) 3 18 [26, 25, 24] (x.delta < 0) rfl rfl rfl rfl rfl rfl trivial rfl (fun h1_18 => ?_) (fun g1_22 => ?_))
  ·
   refine zO rfl (gF h1_18) (zP (o := 3) rfl rfl (zO rfl (gF h1_18) (zS 0 (v := Vi x.delta) rfl rfl rfl rfl (zO rfl (gF h1_18) (yI rfl rfl rfl ?_)))))
   exact yL rfl (fun _ hw => hw)
  refine zC rfl (yY (q := ((((((x.index : Nat) : Int) < ((1 : Nat) : Int)) ∨ (((4611686018427387904 : Nat) : Int) < ((x.index : Nat) : Int))) ∨ (((x.term : Nat) : Int) < ((1 : Nat) : Int))) ∨ (((4611686018427387904 : Nat) : Int) < ((x.term : Nat) : Int))) ∨ (x.delta < 0)) 3 23 [31, 30, 29] (1099511627776 < x.delta) rfl rfl rfl rfl rfl rfl trivial rfl (fun h1_23 => ?_) (fun g1_27 => ?_))
  ·
   refine zO rfl (gF h1_23) (zP (o := 3) rfl rfl (zO rfl (gF h1_23) (zS 0 (v := Vi x.delta) rfl rfl rfl rfl (zO rfl (gF h1_23) (yg rfl rfl rfl ?_)))))
   exact yL rfl (fun _ hw => hw)
  refine zC rfl (yY (q := (((((((x.index : Nat) : Int) < ((1 : Nat) : Int)) ∨ (((4611686018427387904 : Nat) : Int) < ((x.index : Nat) : Int))) ∨ (((x.term : Nat) : Int) < ((1 : Nat) : Int))) ∨ (((4611686018427387904 : Nat) : Int) < ((x.term : Nat) : Int))) ∨ (x.delta < 0)) ∨ (1099511627776 < x.delta)) 4 28 [37, 36, 35, 34] (4096 < ((x.data.length : Nat) : Int)) rfl rfl rfl rfl rfl rfl trivial rfl (fun h1_28 => ?_) (fun g1_33 => ?_))
  ·
   refine zO rfl (gF h1_28) (zP (o := 4) rfl rfl (zO rfl (gF h1_28) (zS 0 (v := x.dv) rfl rfl rfl rfl (zO rfl (gF h1_28) (yC (pR rd_x.dv) rfl rfl (zO rfl (gF h1_28) (yg rfl rfl rfl ?_)))))))
   exact yL rfl (fun _ hw => hw)
  refine zA (zU rfl (fun c1 => ?_) (fun c1 => ?_))
  ·
   refine zB (zD rfl (zA ?_))
   exact zM (z6 (v := .bool false) rfl rfl (fun w' hw => ⟨(by rw [decide_eq_false]; rintro ⟨h, _⟩; omega), hw.drop⟩))
  ·
   refine zK (zL (zB (zP (o := 2) rfl rfl (zS 0 (v := Vi x.kind) rfl rfl rfl rfl (yo rfl rfl rfl (zA (zU rfl (fun c2 => ?_) (fun c2 => ?_))))))))
   ·
    refine zB (zP (o := 4) rfl rfl (zS 0 (v := x.dv) rfl rfl rfl rfl (yC (pR rd_x.dv) rfl rfl (yo rfl rfl rfl (zD rfl (zA ?_))))))
    exact zM (z6 (v := .bool (decide (((x.data.length : Nat) : Int) = 0))) rfl rfl (fun w' hw => ⟨(by congr 1; exact decide_eq_decide.2 (by unfold EntA.ok; rw [if_pos c2]; exact ⟨fun h => ⟨by omega, by omega⟩, fun h => by have := h.2; omega⟩)), hw.drop⟩))
   ·
    refine zK (zL (zB (zP (o := 2) rfl rfl (zS 0 (v := Vi x.kind) rfl rfl rfl rfl (yo rfl rfl rfl (zA (zU rfl (fun c3 => ?_) (fun c3 => ?_))))))))
    ·
     refine zB (zP (o := 4) rfl rfl (zS 0 (v := x.dv) rfl rfl rfl rfl (zJ rfl rfl (fun w' hw => (zHH x.dv x.data w' (by first | assumption | omega | (simp <;> omega) | (constructor <;> (first | omega | (simp only [zb]; omega) | (simp <;> omega)))) (hw.rd0 rd_x.dv)).mono ?_))))
     rintro _ w1 ⟨r11_, l12_, r23_, l24_, f5_, rfl, hf6_2, hf6_2_1, hf6_2_2, hO⟩
     refine (?_ : CL _ _ _ _ _ _ (Own w [] [Res.row b1 57 (EntD.cells x), Res.vec 3 1 r11_ l12_.length (l12_.flatMap I1), Res.vec 3 1 r23_ l24_.length (l24_.flatMap I1)])) w1 (hw.frame0 hO)
     refine zC rfl (zp (vs := [.agg #[r11_, r23_], .bool f5_]) rfl rfl rfl (zp (vs := [.agg #[r11_, r23_], .bool f5_]) rfl rfl rfl (yF (v := .agg #[.slice none 0 0, .slice none 0 0]) (by kernel_rfl) rfl (fun b3 => ?_))))
     refine yS (fun w' hw => Own.cell1Vec (i := 1) rfl hw) (fun hc1_ => ?_)
     refine yS (fun w' hw => Own.cell1Vec (i := 2) rfl hw) (fun hc2_ => ?_)
     refine zh 3 rfl rfl rfl (zn hc1_ (zn hc2_ yt)) rfl (zD rfl (zA (zB (zC rfl (zD rfl (zA ?_))))))
     exact zM (z6 (v := .bool f5_) rfl rfl (fun w' hw => ⟨(zHp (by unfold EntA.ok; rw [if_neg c2, if_pos c3, ← hf6_2.iff]; exact ⟨fun h => ⟨by omega, h⟩, fun h => h.2⟩)), hw.drop⟩))
    ·
     refine zK (zB (zP (o := 2) rfl rfl (zS 0 (v := Vi x.kind) rfl rfl rfl rfl (yo rfl rfl rfl (zD rfl (zA ?_))))))
     exact zM (z6 (v := .bool (decide (x.kind = 2))) rfl rfl (fun w' hw => ⟨(by congr 1; exact decide_eq_decide.2 (by unfold EntA.ok; rw [if_neg c2, if_neg c3]; exact ⟨fun h => ⟨by omega, h⟩, fun h => h.2⟩)), hw.drop⟩))
theorem zF3 {S : List Nat} (o : Nat) (sl : Value) (bs : List UInt8) (x : EntD) (w : World) (hx : x.wf) (hb : bs.length + x.enc.length ≤ 10000000000) (hin : Own w S [Res.bv o xi sl bs] w) (rd_x : EntD.rd x w S) : Rets Tryz.prog 125 #[.pointer (some ⟨o, 0, none⟩), .agg (EntD.cells x).toArray] w fun u_ w' => ∃ (sl' : Value), u_ = .tuple #[] ∧ Own w S [Res.bv o xi sl' (bs ++ x.enc)] w' := by
  have hd := hx.data
  have h1 := hx.index
  have h2 := hx.term
  have he : x.enc.length = (y7 [x.index, x.term, u64 x.kind, u64 x.delta]).length + (dat x.data).length := by simp [EntA.enc]
  refine zW Tryz.func125 rfl Tryz.ntmps125 hin ?_
  refine zB (yc rfl rfl (fun b3 => zA (zB (zC rfl (zP (o := 0) rfl rfl (zS 1 (v := Vn x.index) rfl rfl rfl rfl (zP (o := 1) rfl rfl (zS 1 (v := Vn x.term) rfl rfl rfl rfl (zP (o := 2) rfl rfl (zS 1 (v := Vi x.kind) rfl rfl rfl rfl (yw (by kernel_rfl) rfl (xX _) rfl ?_ (by kernel_rfl))))))))))))
  refine zP (o := 3) rfl rfl (zS 1 (v := Vi x.delta) rfl rfl rfl rfl (yw (by kernel_rfl) rfl (xX _) rfl ?_ (by kernel_rfl)))
  refine yj (e := 28) (sz := 1) (vs := [Vn x.index, Vn x.term, Vn (u64 x.kind), Vn (u64 x.delta)]) (by kernel_rfl) rfl rfl (by simp [Value.cells]) (by decide) rfl (fun b15 => zJ rfl rfl (fun w' hw => (zEA o _ _ (.slice (some ⟨b15, 0, none⟩) 4 4) [x.index, x.term, u64 x.kind, u64 x.delta] w' (by first | assumption | (simp [xM]; done) | (simp [xM]; omega) | (simp; omega)) (by first | omega | (simp <;> omega) | (constructor <;> (first | omega | (simp <;> omega)))) (hw.give [0] rfl (by decide)) (hw.rdVec 2 rfl [0] rfl rfl)).mono ?_))
  rintro _ w1 ⟨sl'1_, rfl, hO⟩
  refine (?_ : CL _ _ _ _ _ _ (Own w S [Res.row b3 57 (EntD.cells x), Res.vec 28 1 (.slice (some ⟨b15, 0, none⟩) 4 4) [x.index, x.term, u64 x.kind, u64 x.delta].length ([x.index, x.term, u64 x.kind, u64 x.delta].flatMap U1), Res.bv o xi sl'1_ (bs ++ y7 [x.index, x.term, u64 x.kind, u64 x.delta])])) w1 (hw.frameL [0] rfl hO)
  refine zA (zd (zC rfl (zP (o := 4) rfl rfl (zS 0 (v := x.dv) rfl rfl rfl rfl (zCq (e := 52) (vs := [x.dv]) (by kernel_rfl) rfl rfl (zn (Sl.cell1 (Rd.φ rd_x.dv)) yt) (by decide) rfl (fun b20 => zJ rfl rfl (fun w' hw => (zIq o sl'1_ (bs ++ y7 [x.index, x.term, u64 x.kind, u64 x.delta]) (.slice (some ⟨b20, 0, none⟩) 1 1) [(x.dv, x.data)] w' (by simp [yJ]; omega) (by show 1 ≤ _; omega) (hw.give [2] rfl (by decide)) (hw.rdVec 3 rfl [2] rfl rfl) (all_cons (hw.rdTo rd_x.dv [2] rfl) (fun p hp => by cases hp))).mono ?_)))))))
  rintro _ w1 ⟨sl'2_, rfl, hO⟩
  refine (?_ : CL _ _ _ _ _ _ (Own w S [Res.row b3 57 (EntD.cells x), Res.vec 28 1 (.slice (some ⟨b15, 0, none⟩) 4 4) [x.index, x.term, u64 x.kind, u64 x.delta].length ([x.index, x.term, u64 x.kind, u64 x.delta].flatMap U1), Res.vec 52 1 (.slice (some ⟨b20, 0, none⟩) 1 1) [(x.dv, x.data)].length ([(x.dv, x.data)].flatMap pv), Res.bv o xi sl'2_ ((bs ++ y7 [x.index, x.term, u64 x.kind, u64 x.delta]) ++ yJ [(x.dv, x.data)])])) w1 (hw.frameL [2] rfl hO)
  exact zj (jq rfl (fun w' hw => ⟨sl'2_, rfl, by have h := hw.one 3 rfl; simpa [EntA.enc, yJ] using h⟩))
theorem zGu (w : World) : Rets Tryz.prog 92 #[] w fun u_ w' => u_ = .agg #[.func (.func 123) #[] #[], .func (.func 125) #[] #[], .func (.func 126) #[] #[]] ∧ Own w [] [] w' := by
  refine zW Tryz.func92 rfl Tryz.ntmps92 (Own.start w) ?_
  refine zB (yF (v := .agg #[.nilFunc, .nilFunc, .nilFunc]) (by kernel_rfl) rfl (fun b0 => zA (zB (yQ (cs := [.func (.func 123) #[] #[], .func (.func 125) #[] #[], .func (.func 126) #[] #[]]) (z := [.nilFunc, .nilFunc, .nilFunc]) (pl := [(0, 1), (1, 1), (2, 1)]) (by kernel_rfl) (by kernel_rfl) rfl (zh 0 rfl rfl rfl (z8 rfl) rfl (zA ?_))))))
  exact zM (ji (cs := [.func (.func 123) #[] #[], .func (.func 125) #[] #[], .func (.func 126) #[] #[]]) rfl rfl (by kernel_rfl) (Own.rowCells (i := 0) rfl) (fun w' hw => ⟨rfl, hw.drop⟩))
theorem zF8 (x : EntD) (w : World) (hx : x.wf) (rd_x : EntD.rd x w []) : Rets Tryz.prog 93 #[.agg #[.func (.func 123) #[] #[], .func (.func 125) #[] #[], .func (.func 126) #[] #[]], .agg (EntD.cells x).toArray] w fun u_ w' => ∃ (r : Value), u_ = .tuple #[r, Vi (yy x.ok)] ∧ Own w [] [Res.vec 5 1 r (if x.ok then x.enc else []).length ((if x.ok then x.enc else []).map vb)] w' := by
  have hd := hx.data
  have hl := EntA.enc_le hx
  refine zW Tryz.func93 rfl Tryz.ntmps93 (Own.start w) ?_
  refine zB (yc rfl rfl (fun b2 => yc rfl rfl (fun b3 => zD rfl (zD rfl (zA (zL (zB (zP (o := 0) rfl rfl (zS 0 (v := .func (.func 123) #[] #[]) rfl rfl rfl rfl (yN (cs := (EntD.cells x)) 1 rfl rfl rfl (xI (fst := []) (cap := []) rfl (by kernel_rfl) rfl rfl (fun w' hw => (zFu x w' ‹_› (rd_x.at0 hw)).mono ?_))))))))))))
  rintro _ w1 ⟨rfl, hO⟩
  refine (?_ : CL _ _ _ _ _ _ (Own w [] [Res.row b2 161 [.func (.func 123) #[] #[], .func (.func 125) #[] #[], .func (.func 126) #[] #[]], Res.row b3 57 (EntD.cells x)])) w1 (hw.frame0 hO)
  refine xo (q := x.ok) rfl rfl (zA (zU rfl (fun c1 => ?_) (fun c1 => ?_)))
  ·
   refine zB (zD rfl (zD rfl (zA ?_)))
   exact zM (xK (v := .slice none 0 0) (v' := Vi 2) rfl rfl rfl (fun w' hw => ⟨.slice none 0 0, (by rw [zDn c1]), by rw [if_neg c1]; exact (yK hw T8 1).one 2 rfl⟩))
  ·
   refine zK (zB (yQ (cs := [.slice none 0 0]) (z := [.slice none 0 0]) (pl := [(0, 1)]) (by kernel_rfl) (by kernel_rfl) rfl (yc rfl rfl (fun b13 => zD rfl (zA (zB (zP (o := 1) rfl rfl (zS 0 (v := .func (.func 125) #[] #[]) rfl rfl rfl rfl (zC rfl (yN (cs := (EntD.cells x)) 1 rfl rfl rfl ?_))))))))))
   refine zBM [Res.row b2 161 [.func (.func 123) #[] #[], .func (.func 125) #[] #[], .func (.func 126) #[] #[]], Res.row b3 57 (EntD.cells x), Res.bv b13 xi (.slice none 0 0) ([] : List UInt8)] (fun w' hw => (yK hw T8 1).joinBv (i := 2) (j := 3) (by decide) rfl rfl) ?_
   refine xI (fst := []) (cap := []) rfl (by kernel_rfl) rfl rfl (fun w' hw => (zF3 b13 (.slice none 0 0) ([] : List UInt8) x w' ‹_› (by first | omega | (simp <;> omega) | (constructor <;> (first | omega | (simp <;> omega)))) (hw.give [2] rfl (by decide)) (rd_x.at hw [2] rfl)).mono ?_)
   rintro _ w1 ⟨sl'1_, rfl, hO⟩
   refine (?_ : CL _ _ _ _ _ _ (Own w [] [Res.row b2 161 [.func (.func 123) #[] #[], .func (.func 125) #[] #[], .func (.func 126) #[] #[]], Res.row b3 57 (EntD.cells x), Res.bv b13 xi sl'1_ (([] : List UInt8) ++ x.enc)])) w1 (hw.frameL [2] rfl hO)
   refine zA (zB (zC rfl (zm rfl rfl (zP (o := 0) rfl rfl ?_))))
   refine zBM [Res.row b2 161 [.func (.func 123) #[] #[], .func (.func 125) #[] #[], .func (.func 126) #[] #[]], Res.row b3 57 (EntD.cells x), Res.row b13 xi [sl'1_], Res.vec 5 1 sl'1_ (([] : List UInt8) ++ x.enc).length ((([] : List UInt8) ++ x.enc).map vb)] (fun w' hw => hw.splitBv (i := 2) (o := b13) (T := xi) (v := sl'1_) (bs := (([] : List UInt8) ++ x.enc)) rfl) ?_
   refine zS 2 (v := sl'1_) rfl rfl rfl rfl (zD rfl (zD rfl (zA ?_)))
   exact zM (xK (v := sl'1_) (v' := Vi 0) rfl rfl rfl (fun w' hw => ⟨sl'1_, (by rw [zEJ (Decidable.not_not.1 c1)]), by rw [if_pos (Decidable.not_not.1 c1)]; exact hw.one 3 rfl⟩))
theorem zFh (x : EntD) (w : World) (hx : x.wf) (rd_x : EntD.rd x w []) : Rets Tryz.prog 54 #[.agg (EntD.cells x).toArray] w fun u_ w' => ∃ (r : Value), u_ = .tuple #[r, Vi (yy x.ok)] ∧ Own w [] [Res.vec 5 1 r (if x.ok then x.enc else []).length ((if x.ok then x.enc else []).map vb)] w' := by
  refine zW Tryz.func54 rfl Tryz.ntmps54 (Own.start w) ?_
  refine zB (yc rfl rfl (fun b1 => zD rfl (zD rfl (zA (zL (zg [0] rfl (by decide) (by kernel_rfl) (fun w' hw hS => zF 1 rfl (kI (cs := (EntD.cells x)) 0 rfl rfl) hS (zY 0 rfl hw (zJ rfl rfl (fun w' hw => (zGu w').mono ?_))))))))))
  rintro _ w1 ⟨rfl, hO⟩
  refine (?_ : CL _ _ _ _ _ _ (Own w [] [Res.row b1 57 (EntD.cells x)])) w1 (hw.frame0 hO)
  refine zG [0] rfl (by decide) (fun w' hw hS => zY 2 rfl hw (zJ rfl rfl (fun w' hw => (zF8 x w' ‹_› (rd_x.at0 hw)).mono ?_)))
  rintro _ w1 ⟨r1_, rfl, hO⟩
  refine (?_ : CL _ _ _ _ _ _ (Own w [] [Res.row b1 57 (EntD.cells x), Res.vec 5 1 r1_ (if x.ok then x.enc else []).length ((if x.ok then x.enc else []).map vb)])) w1 (hw.frame0 hO)
  refine zG [0] rfl (by decide) (fun w' hw hS => zF 3 rfl (ya (vs := [r1_, Vi (yy x.ok)]) rfl rfl) hS (zF 4 rfl (ya (vs := [r1_, Vi (yy x.ok)]) rfl rfl) hS (zF 5 rfl (yx) hS (zF 6 rfl (yx) hS (zR ?_)))))
  refine (?_ : C _ _ _ _ _ _ _ (Own w [] [Res.row b1 57 (EntD.cells x), Res.vec 5 1 r1_ (if x.ok then x.enc else []).length ((if x.ok then x.enc else []).map vb)])) _ hw
  exact zM (xK (v := r1_) (v' := Vi (yy x.ok)) rfl rfl rfl (fun w' hw => ⟨r1_, rfl, hw.sel [1] rfl (by decide)⟩))
end Go.Proofs.YthincafbmpialaaGreat
