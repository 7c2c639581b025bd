import Derived.Test.YtkkeknmkipkbmaaGreatRefW
import Derived.Test.YtkkeknmkipkbmaaGreatConfDec
set_option linter.unusedSectionVars false
set_option linter.unusedSimpArgs false
set_option linter.unusedVariables false
set_option maxRecDepth 10000
namespace Go.Proofs.YtkkeknmkipkbmaaGreat
open Go Go.Sc Go.Proofs
def pv (p : Value × List UInt8) : List Value := [p.1]
abbrev BsRd (p : Value × List UInt8) (w : World) (S : List Nat) : Prop := Rd w S (Res.sl p.1 p.2.length (p.2.map vb))
theorem BsRd.at0 {p : Value × List UInt8} {w0 w : World} {S : List Nat} {L : List Res} (h : BsRd p w0 S) (hw : Own w0 S L w) : BsRd p w [] := hw.rd0 h
theorem BsRd.at {p : Value × List UInt8} {w0 w : World} {S : List Nat} {L Lin : List Res} (h : BsRd p w0 S) (hw : Own w0 S L w) (m : List Nat) (hm : m.mapM (fun i => L[i]?) = some Lin) : BsRd p w (y8 Lin) := hw.rdTo h m hm
def y4 (ps : List (Value × List UInt8)) : List UInt8 := ps.flatMap fun p => dat p.2
theorem zD0 (v : Value) (bs : List UInt8) (lv : Value) (ps : List (Value × List UInt8)) (w : World) (hb : bs.length + (y4 ps).length ≤ 100000000000) (hn : zd ps.length) (hv : Rd w [] (Res.sl v bs.length (bs.map vb))) (hl : Rd w [] (Res.sl lv ps.length (ps.flatMap pv))) (all_hl : ∀ p ∈ ps, BsRd p w []) : Rets Tryz.prog 155 #[v, lv] w fun u_ w' => ∃ (r : Value), u_ = r ∧ Own w [] [Res.vec 5 1 r (bs ++ y4 ps).length ((bs ++ y4 ps).map vb)] w' := by
  have hbl : bs.length ≤ 100000000000 := by omega
  refine zT Tryz.func155 rfl Tryz.ntmps155 (Own.start w) ?_
  refine zB (zK rfl (zA (zB (zD rfl (zH rfl rfl (fun w' hw => (zBd v bs w' (by first | assumption | omega | (simp <;> omega) | (constructor <;> (first | omega | (simp only [zd]; omega) | (simp <;> omega)))) (hw.rd0 hv)).mono ?_))))))
  rintro r1_ w1 ⟨_, rfl, hO⟩
  refine (?_ : CL _ _ _ _ _ _ (Own w [] [Res.vec 5 1 r1_ bs.length (bs.map vb)])) w1 (hw.frame0 hO)
  refine zK rfl (zA (zQ (zB (zD rfl (zq (pR hl) rfl rfl (zD rfl (zA (zc ?_))))))))
  refine y9 (fun (k : Nat) (o : Value) => [(5, o), (10, lv), (11, Vj ps.length), (12, Vj k)]) (fun (k : Nat) (o : Value) => k ≤ ps.length) (fun (k : Nat) (o : Value) => [Res.vec 5 1 o (bs ++ y4 (ps.take k)).length ((bs ++ y4 (ps.take k)).map vb)]) (fun (k : Nat) (o : Value) => ps.length - k) (fun w' hw => ⟨0, r1_, ⟨rfl, rfl, rfl, rfl, trivial⟩, Nat.zero_le _, by simpa [y4] using hw⟩) (fun k o g hΦ => ?_)
  have hle := xK (fun p : Value × List UInt8 => dat p.2) ps (k + 1)
  refine zB (yJ rfl rfl rfl (zA (zQ (zf rfl (fun c1 => ?_) (fun c1 => ?_)))))
  ·
   rw [zu (by omega), List.flatMap_append] at hle
   simp only [List.length_append, List.flatMap_cons, List.flatMap_nil, List.append_nil, dat] at hle
   have hcl : (y4 (ps.take k)).length + ((num (zG ps k).2.length).length + (zG ps k).2.length) ≤ (y4 ps).length := hle
   refine zR (zQ (zc (zB (zm (pR hl) 1 k rfl rfl rfl (by omega) rfl (yR (pR hl) 1 k 0 (fun _ => rfl) rfl rfl (by omega) rfl rfl (zK rfl (zA (zW (zD rfl (zD rfl (zq (pR (all_hl _ (zl (by omega)))) rfl rfl (xe (by kernel_rfl) rfl (y6 (by omega)) rfl ?_ (by kernel_rfl)))))))))))))
   refine zH rfl rfl (fun w' hw => (zDB o (bs ++ y4 (ps.take k)) (((zG ps k).2).length) w' (by first | omega | (simp <;> omega)) (by first | omega | (simp <;> omega) | (constructor <;> (first | omega | (simp <;> omega)))) (hw.rdVec0 0 rfl)).mono ?_)
   rintro r2_ w1 ⟨_, rfl, hO⟩
   refine (?_ : CL _ _ _ _ _ _ (Own w [] [Res.vec 5 1 o (bs ++ y4 (ps.take k)).length ((bs ++ y4 (ps.take k)).map vb), Res.vec 5 1 r2_ ((bs ++ y4 (ps.take k)) ++ num (((zG ps k).2).length)).length (((bs ++ y4 (ps.take k)) ++ num (((zG ps k).2).length)).map vb)])) w1 (hw.frame0 hO)
   refine zD rfl (zG1 (l := ((bs ++ y4 (ps.take k)) ++ num (((zG ps k).2).length))) (l' := (zG ps k).2) 1 (by kernel_rfl) rfl rfl rfl (fun w' hw' => Own.rd (all_hl _ (zl (by omega))) hw') (by first | omega | (simp <;> omega)) rfl (fun v22 => zK rfl (zA (zW (z3 rfl rfl (zy (by omega)) rfl (zD rfl ?_))))))
   exact zj (fun w' hw => ⟨k + 1, v22, ⟨rfl, rfl, rfl, rfl, trivial⟩, (by omega), by rw [zu (by omega)]; have h := hw.one 1 rfl; simpa [y4, dat] using h, (by omega)⟩)
  ·
   refine yQ rfl (zB (zD rfl (zK rfl (zA ?_))))
   exact zY (yD (v := o) rfl rfl (fun w' hw => ⟨o, rfl, by rw [List.take_of_length_le (by omega)] at hw; exact hw⟩))
theorem zED {S : List Nat} (o : Nat) (sl : Value) (bs : List UInt8) (lv : Value) (ps : List (Value × List UInt8)) (w : World) (hb : bs.length + (y4 ps).length ≤ 100000000000) (hn : zd ps.length) (hin : Own w S [Res.bv o yW sl bs] w) (hl : Rd w S (Res.sl lv ps.length (ps.flatMap pv))) (all_hl : ∀ p ∈ ps, BsRd p w S) : Rets Tryz.prog 110 #[.pointer (some ⟨o, 0, none⟩), lv] w fun u_ w' => ∃ (sl' : Value), u_ = .tuple #[] ∧ Own w S [Res.bv o yW sl' (bs ++ y4 ps)] w' := by
  refine zT Tryz.func110 rfl Tryz.ntmps110 hin ?_
  refine zW (zD rfl (zD rfl (zh rfl rfl (zJ (o := 0) rfl rfl ?_))))
  refine zx [Res.row o yW [sl], Res.vec 5 1 sl bs.length (bs.map vb)] (fun w' hw => hw.splitBv (i := 0) (o := o) (T := yW) (v := sl) (bs := bs) rfl) ?_
  refine zM 0 (v := sl) rfl rfl rfl rfl (zD rfl (zH rfl rfl (fun w' hw => (zD0 sl bs lv ps w' (by first | omega | (simp <;> omega)) (by first | assumption | omega | (simp <;> omega) | (constructor <;> (first | omega | (simp only [zd]; omega) | (simp <;> omega)))) (hw.rdVec0 1 rfl) (hw.rd0 hl) (fun p hp => BsRd.at0 (all_hl p hp) hw)).mono ?_)))
  rintro r1_ w1 ⟨_, rfl, hO⟩
  refine (?_ : CL _ _ _ _ _ _ (Own w S [Res.row o yW [sl], Res.vec 5 1 sl bs.length (bs.map vb), Res.vec 5 1 r1_ (bs ++ y4 ps).length ((bs ++ y4 ps).map vb)])) w1 (hw.frame0 hO)
  refine zh rfl rfl (zJ (o := 0) rfl rfl ?_)
  refine zg (fun w' hw => Own.cell1Vec (i := 2) rfl hw) (fun hc1_ => ?_)
  refine zo (cs := [sl]) 0 rfl rfl rfl hc1_ rfl ?_
  exact zj (yM rfl (fun w' hw => ⟨r1_, rfl, (hw.joinBv (i := 0) (j := 2) (o := o) (T := yW) (v := r1_) (bs := bs ++ y4 ps) (by decide) rfl rfl).one 0 rfl⟩))
structure EntA where
  index : Nat
  term : Nat
  kind : Int
  delta : Int
  data : List UInt8
  deriving DecidableEq, Inhabited
structure EntD extends EntA where
  dv : Value
  deriving Inhabited
structure EntA.wf (x : EntA) : Prop where
  index : x.index < 18446744073709551616
  term : x.term < 18446744073709551616
  data : x.data.length ≤ 1000000000
def EntD.cells (x : EntD) : List Value := [.int .u64 x.index, .int .u64 x.term, .int .i64 x.kind, .int .i64 x.delta, x.dv]
structure EntD.rd (x : EntD) (w : World) (S : List Nat) : Prop where
  dv : Rd w S (Res.sl x.dv x.data.length (x.data.map vb))
theorem EntD.rd.at0 {x : EntD} {w0 w : World} {S : List Nat} {L : List Res} (h : x.rd w0 S) (hw : Own w0 S L w) : x.rd w [] := ⟨hw.rd0 h.dv⟩
theorem EntD.rd.at {x : EntD} {w0 w : World} {S : List Nat} {L Lin : List Res} (h : x.rd w0 S) (hw : Own w0 S L w) (m : List Nat) (hm : m.mapM (fun i => L[i]?) = some Lin) : x.rd w (y8 Lin) := ⟨hw.rdTo h.dv m hm⟩
def EntD.dres (x : EntD) : Res := Res.vec 5 1 x.dv x.data.length (x.data.map vb)
theorem EntD.dres_rd {x : EntD} {w : World} {S : List Nat} (h : Rd w S x.dres) : x.rd w S := ⟨h.sub Vec.sl jP⟩
theorem EntD.rd.star0 {es : List EntD} {w0 w : World} {S : List Nat} {L : List Res} (j : Nat) (hL : L[j]? = some (Res.star (es.map EntD.dres))) (h : Own w0 S L w) : ∀ p ∈ es, p.rd w [] := fun p hp => EntD.dres_rd (h.star0 j hL _ (List.mem_map_of_mem hp))
theorem EntD.rd.star {es : List EntD} {w0 w : World} {S : List Nat} {L Lin : List Res} (j : Nat) (hL : L[j]? = some (Res.star (es.map EntD.dres))) (m : List Nat) (hm : m.mapM (fun i => L[i]?) = some Lin) (hj : m.any (Nat.beq j) = false) (h : Own w0 S L w) : ∀ p ∈ es, p.rd w (y8 Lin) := fun p hp => EntD.dres_rd (h.star j hL m hm hj _ (List.mem_map_of_mem hp))
def EntA.ok (x : EntA) : Prop := ((1 ≤ x.index ∧ 1 ≤ x.term) ∧ (x.index ≤ 4611686018427387904 ∧ x.term ≤ 4611686018427387904) ∧ (0 ≤ x.delta ∧ x.delta ≤ 1099511627776) ∧ x.data.length ≤ 4096) ∧
  if x.kind = 1 then x.data.length = 0 else if x.kind = 3 then (x0 x.data).isSome = true else x.kind = 2
instance (x : EntA) : Decidable x.ok := by unfold EntA.ok; infer_instance
def EntA.enc (x : EntA) : List UInt8 := zp [x.index, x.term, u64 x.kind, u64 x.delta] ++ dat x.data
theorem EntA.enc_le {x : EntA} (h : x.wf) : x.enc.length ≤ x.data.length + 60 := by
  have h1 := yI (ns := [x.index, x.term, u64 x.kind, u64 x.delta]) (by have := h.index; have := h.term; simp [y2, *])
  have h2 := jA x.data (by have := h.data; omega)
  simp only [EntA.enc, List.length_append, List.length_cons, List.length_nil] at *
  omega
theorem ValPost.iff {α : Type} {d : Option α} {x z : α} {e : Int} (h : ValPost d x z e) : e = 0 ↔ d.isSome = true := by
  rcases h with ⟨rfl, h⟩ | ⟨rfl, h, _⟩ <;> simp [h]
theorem RefPost.iff {α : Type} {d : Option α} {x : α} {f : Bool} (h : RefPost d x f) : f = true ↔ d.isSome = true := by
  cases f with
  | true => simp [h.yes rfl]
  | false => simp [h.no rfl]
theorem zBH (x : EntD) (w : World) (hx : x.wf) (rd_x : EntD.rd x w []) : Rets Tryz.prog 166 #[.agg (EntD.cells x).toArray] w fun u_ w' => u_ = .bool (decide x.ok) ∧ Own w [] [] w' := by
  have hd := hx.data
  have h1 := hx.index
  have h2 := hx.term
  refine zT Tryz.func166 rfl Tryz.ntmps166 (Own.start w) ?_
  refine zB (z7 rfl rfl (fun b1 => zK rfl (zA (zQ (zB (zJ (o := 0) rfl rfl (zM 0 (v := Vn x.index) rfl rfl rfl rfl (yJ rfl rfl rfl (zD rfl (yT (q := ((x.index : Nat) : Int) < ((1 : Nat) : Int)) 3 3 [11, 10, 9] (((x.term : Nat) : Int) < ((1 : Nat) : Int)) rfl rfl rfl rfl rfl rfl trivial rfl (fun h1_3 => ?_) (fun g1_7 => ?_)))))))))))
  ·
   refine zO rfl (gF h1_3) (zJ (o := 1) rfl rfl (zO rfl (gF h1_3) (zM 0 (v := Vn x.term) rfl rfl rfl rfl (zO rfl (gF h1_3) (yJ rfl rfl rfl ?_)))))
   exact yK rfl (fun _ hw => hw)
  refine zD rfl (yT (q := (((x.index : Nat) : Int) < ((1 : Nat) : Int)) ∨ (((x.term : Nat) : Int) < ((1 : Nat) : Int))) 6 8 [19, 18, 17, 16, 15, 14] (((4611686018427387904 : Nat) : Int) < ((max x.index x.term : Nat) : Int)) rfl rfl rfl rfl rfl rfl trivial rfl (fun h1_8 => ?_) (fun g1_15 => ?_))
  ·
   refine zO rfl (gF h1_8) (zJ (o := 0) rfl rfl (zO rfl (gF h1_8) (zM 0 (v := Vn x.index) rfl rfl rfl rfl (zO rfl (gF h1_8) (zJ (o := 1) rfl rfl (zO rfl (gF h1_8) (zM 0 (v := Vn x.term) rfl rfl rfl rfl (zO rfl (gF h1_8) (zBU (c := ((max x.index x.term : Nat) : Int)) rfl rfl (zCR _ _) rfl (zO rfl (gF h1_8) (yo rfl rfl rfl ?_)))))))))))
   exact yK rfl (fun _ hw => hw)
  refine zD rfl (yT (q := ((((x.index : Nat) : Int) < ((1 : Nat) : Int)) ∨ (((x.term : Nat) : Int) < ((1 : Nat) : Int))) ∨ (((4611686018427387904 : Nat) : Int) < ((max x.index x.term : Nat) : Int))) 3 16 [24, 23, 22] (x.delta < 0) rfl rfl rfl rfl rfl rfl trivial rfl (fun h1_16 => ?_) (fun g1_20 => ?_))
  ·
   refine zO rfl (gF h1_16) (zJ (o := 3) rfl rfl (zO rfl (gF h1_16) (zM 0 (v := Vi x.delta) rfl rfl rfl rfl (zO rfl (gF h1_16) (yJ rfl rfl rfl ?_)))))
   exact yK rfl (fun _ hw => hw)
  refine zD rfl (yT (q := (((((x.index : Nat) : Int) < ((1 : Nat) : Int)) ∨ (((x.term : Nat) : Int) < ((1 : Nat) : Int))) ∨ (((4611686018427387904 : Nat) : Int) < ((max x.index x.term : Nat) : Int))) ∨ (x.delta < 0)) 3 21 [29, 28, 27] (1099511627776 < x.delta) rfl rfl rfl rfl rfl rfl trivial rfl (fun h1_21 => ?_) (fun g1_25 => ?_))
  ·
   refine zO rfl (gF h1_21) (zJ (o := 3) rfl rfl (zO rfl (gF h1_21) (zM 0 (v := Vi x.delta) rfl rfl rfl rfl (zO rfl (gF h1_21) (yo rfl rfl rfl ?_)))))
   exact yK rfl (fun _ hw => hw)
  refine zD rfl (yT (q := ((((((x.index : Nat) : Int) < ((1 : Nat) : Int)) ∨ (((x.term : Nat) : Int) < ((1 : Nat) : Int))) ∨ (((4611686018427387904 : Nat) : Int) < ((max x.index x.term : Nat) : Int))) ∨ (x.delta < 0)) ∨ (1099511627776 < x.delta)) 4 26 [35, 34, 33, 32] (4096 < ((x.data.length : Nat) : Int)) rfl rfl rfl rfl rfl rfl trivial rfl (fun h1_26 => ?_) (fun g1_31 => ?_))
  ·
   refine zO rfl (gF h1_26) (zJ (o := 4) rfl rfl (zO rfl (gF h1_26) (zM 0 (v := x.dv) rfl rfl rfl rfl (zO rfl (gF h1_26) (zq (pR rd_x.dv) rfl rfl (zO rfl (gF h1_26) (yo rfl rfl rfl ?_)))))))
   exact yK rfl (fun _ hw => hw)
  refine zA (zf rfl (fun c1 => ?_) (fun c1 => ?_))
  ·
   refine zB (zK rfl (zA ?_))
   exact zY (yD (v := .bool false) rfl rfl (fun w' hw => ⟨(by rw [decide_eq_false]; rintro ⟨h, _⟩; omega), hw.drop⟩))
  ·
   refine zR (zQ (zB (zJ (o := 2) rfl rfl (zM 0 (v := Vi x.kind) rfl rfl rfl rfl (zA (zc (zB (yZ rfl rfl rfl (zK rfl (zA (zf rfl (fun c2 => ?_) (fun c2 => ?_))))))))))))
   ·
    refine zB (zJ (o := 4) rfl rfl (zM 0 (v := x.dv) rfl rfl rfl rfl (zq (pR rd_x.dv) rfl rfl (yZ rfl rfl rfl (zK rfl (zA ?_))))))
    exact zY (yD (v := .bool (decide (((x.data.length : Nat) : Int) = 0))) rfl rfl (fun w' hw => ⟨(by congr 1; exact decide_eq_decide.2 (by unfold EntA.ok; rw [if_pos c2]; exact ⟨fun h => ⟨by omega, by omega⟩, fun h => by have := h.2; omega⟩)), hw.drop⟩))
   ·
    refine zB (yZ rfl rfl rfl (zK rfl (zA (zf rfl (fun c3 => ?_) (fun c3 => ?_)))))
    ·
     refine zB (zJ (o := 4) rfl rfl (zM 0 (v := x.dv) rfl rfl rfl rfl (zH rfl rfl (fun w' hw => (zDI x.dv x.data w' (by first | assumption | omega | (simp <;> omega) | (constructor <;> (first | omega | (simp only [zd]; omega) | (simp <;> omega)))) (hw.rd0 rd_x.dv)).mono ?_))))
     rintro _ w1 ⟨r11_, l12_, r23_, l24_, e5_, rfl, hf7_2, hf7_2_1, hf7_2_2, hO⟩
     refine (?_ : CL _ _ _ _ _ _ (Own w [] [Res.row b1 81 (EntD.cells x), Res.vec 3 1 r11_ l12_.length (l12_.flatMap I1), Res.vec 3 1 r23_ l24_.length (l24_.flatMap I1)])) w1 (hw.frame0 hO)
     refine zD rfl (yE (vs := [.agg #[r11_, r23_], Vi e5_]) rfl rfl rfl (yE (vs := [.agg #[r11_, r23_], Vi e5_]) rfl rfl rfl (yS (v := .agg #[.slice none 0 0, .slice none 0 0]) (by kernel_rfl) rfl (fun b3 => ?_))))
     refine zg (fun w' hw => Own.cell1Vec (i := 1) rfl hw) (fun hc1_ => ?_)
     refine zg (fun w' hw => Own.cell1Vec (i := 2) rfl hw) (fun hc2_ => ?_)
     refine yH 3 rfl rfl rfl (zF hc1_ (zF hc2_ zw)) rfl (zK rfl (zA (zB (zD rfl (yZ rfl rfl rfl (zK rfl (zA ?_)))))))
     exact zY (yD (v := .bool (decide (e5_ = 0))) rfl rfl (fun w' hw => ⟨(by congr 1; exact decide_eq_decide.2 (by unfold EntA.ok; rw [if_neg c2, if_pos c3, ← hf7_2.iff]; exact ⟨fun h => ⟨by omega, h⟩, fun h => h.2⟩)), hw.drop⟩))
    ·
     refine zR (zB (zJ (o := 2) rfl rfl (zM 0 (v := Vi x.kind) rfl rfl rfl rfl (yZ rfl rfl rfl (zK rfl (zA ?_))))))
     exact zY (yD (v := .bool (decide (x.kind = 2))) rfl rfl (fun w' hw => ⟨(by congr 1; exact decide_eq_decide.2 (by unfold EntA.ok; rw [if_neg c2, if_neg c3]; exact ⟨fun h => ⟨by omega, h⟩, fun h => h.2⟩)), hw.drop⟩))
theorem zBA {S : List Nat} (o : Nat) (sl : Value) (bs : List UInt8) (x : EntD) (w : World) (hx : x.wf) (hb : bs.length + x.enc.length ≤ 10000000000) (hin : Own w S [Res.bv o yW sl bs] w) (rd_x : EntD.rd x w S) : Rets Tryz.prog 167 #[.pointer (some ⟨o, 0, none⟩), .agg (EntD.cells x).toArray] w fun u_ w' => ∃ (sl' : Value), u_ = .tuple #[] ∧ Own w S [Res.bv o yW sl' (bs ++ x.enc)] w' := by
  have hd := hx.data
  have h1 := hx.index
  have h2 := hx.term
  have he : x.enc.length = (zp [x.index, x.term, u64 x.kind, u64 x.delta]).length + (dat x.data).length := by simp [EntA.enc]
  refine zT Tryz.func167 rfl Tryz.ntmps167 hin ?_
  refine zB (z7 rfl rfl (fun b3 => zA (zB (zD rfl (zJ (o := 0) rfl rfl (zM 1 (v := Vn x.index) rfl rfl rfl rfl (zJ (o := 1) rfl rfl (zM 1 (v := Vn x.term) rfl rfl rfl rfl (zJ (o := 2) rfl rfl (zM 1 (v := Vi x.kind) rfl rfl rfl rfl (xe (by kernel_rfl) rfl (kM _) rfl ?_ (by kernel_rfl))))))))))))
  refine zJ (o := 3) rfl rfl (zM 1 (v := Vi x.delta) rfl rfl rfl rfl (xe (by kernel_rfl) rfl (kM _) rfl ?_ (by kernel_rfl)))
  refine z4 (e := 22) (sz := 1) (vs := [Vn x.index, Vn x.term, Vn (u64 x.kind), Vn (u64 x.delta)]) (by kernel_rfl) rfl rfl (by simp [Value.cells]) (by decide) rfl (fun b15 => zH rfl rfl (fun w' hw => (js o _ _ (.slice (some ⟨b15, 0, none⟩) 4 4) [x.index, x.term, u64 x.kind, u64 x.delta] w' (by first | assumption | (simp [y2]; done) | (simp [y2]; omega) | (simp; omega)) (by first | omega | (simp <;> omega) | (constructor <;> (first | omega | (simp <;> omega)))) (hw.give [0] rfl (by decide)) (hw.rdVec 2 rfl [0] rfl rfl)).mono ?_))
  rintro _ w1 ⟨sl'1_, rfl, hO⟩
  refine (?_ : CL _ _ _ _ _ _ (Own w S [Res.row b3 81 (EntD.cells x), Res.vec 22 1 (.slice (some ⟨b15, 0, none⟩) 4 4) [x.index, x.term, u64 x.kind, u64 x.delta].length ([x.index, x.term, u64 x.kind, u64 x.delta].flatMap U1), Res.bv o yW sl'1_ (bs ++ zp [x.index, x.term, u64 x.kind, u64 x.delta])])) w1 (hw.frameL [0] rfl hO)
  refine zA (zW (zD rfl (zJ (o := 4) rfl rfl (zM 0 (v := x.dv) rfl rfl rfl rfl (zCO (e := 36) (vs := [x.dv]) (by kernel_rfl) rfl rfl (zF (Sl.cell1 (Rd.φ rd_x.dv)) zw) (by decide) rfl (fun b20 => zH rfl rfl (fun w' hw => (zED o sl'1_ (bs ++ zp [x.index, x.term, u64 x.kind, u64 x.delta]) (.slice (some ⟨b20, 0, none⟩) 1 1) [(x.dv, x.data)] w' (by simp [y4]; omega) (by show 1 ≤ _; omega) (hw.give [2] rfl (by decide)) (hw.rdVec 3 rfl [2] rfl rfl) (all_cons (hw.rdTo rd_x.dv [2] rfl) (fun p hp => by cases hp))).mono ?_)))))))
  rintro _ w1 ⟨sl'2_, rfl, hO⟩
  refine (?_ : CL _ _ _ _ _ _ (Own w S [Res.row b3 81 (EntD.cells x), Res.vec 22 1 (.slice (some ⟨b15, 0, none⟩) 4 4) [x.index, x.term, u64 x.kind, u64 x.delta].length ([x.index, x.term, u64 x.kind, u64 x.delta].flatMap U1), Res.vec 36 1 (.slice (some ⟨b20, 0, none⟩) 1 1) [(x.dv, x.data)].length ([(x.dv, x.data)].flatMap pv), Res.bv o yW sl'2_ ((bs ++ zp [x.index, x.term, u64 x.kind, u64 x.delta]) ++ y4 [(x.dv, x.data)])])) w1 (hw.frameL [2] rfl hO)
  exact zj (yM rfl (fun w' hw => ⟨sl'2_, rfl, by have h := hw.one 3 rfl; simpa [EntA.enc, y4] using h⟩))
theorem zCH (w : World) : Rets Tryz.prog 124 #[] w fun u_ w' => u_ = .agg #[.func (.func 166) #[] #[], .func (.func 167) #[] #[], .func (.func 168) #[] #[]] ∧ Own w [] [] w' := by
  refine zT Tryz.func124 rfl Tryz.ntmps124 (Own.start w) ?_
  refine zB (yS (v := .agg #[.nilFunc, .nilFunc, .nilFunc]) (by kernel_rfl) rfl (fun b0 => zA (zB (yc (cs := [.func (.func 166) #[] #[], .func (.func 167) #[] #[], .func (.func 168) #[] #[]]) (z := [.nilFunc, .nilFunc, .nilFunc]) (pl := [(0, 1), (1, 1), (2, 1)]) (by kernel_rfl) (by kernel_rfl) rfl (yH 0 rfl rfl rfl (xx rfl) rfl (zA ?_))))))
  exact zY (jt (cs := [.func (.func 166) #[] #[], .func (.func 167) #[] #[], .func (.func 168) #[] #[]]) rfl rfl (by kernel_rfl) (Own.rowCells (i := 0) rfl) (fun w' hw => ⟨rfl, hw.drop⟩))
theorem zDz (x : EntD) (w : World) (hx : x.wf) (rd_x : EntD.rd x w []) : Rets Tryz.prog 157 #[.agg #[.func (.func 166) #[] #[], .func (.func 167) #[] #[], .func (.func 168) #[] #[]], .agg (EntD.cells x).toArray] w fun u_ w' => ∃ (r : Value), u_ = .tuple #[r, Vi (yC x.ok)] ∧ Own w [] [Res.vec 5 1 r (if x.ok then x.enc else []).length ((if x.ok then x.enc else []).map vb)] w' := by
  have hd := hx.data
  have hl := EntA.enc_le hx
  refine zT Tryz.func157 rfl Tryz.ntmps157 (Own.start w) ?_
  refine zB (z7 rfl rfl (fun b2 => z7 rfl rfl (fun b3 => zK rfl (zK rfl (zA (zQ (zB (zJ (o := 0) rfl rfl (zM 0 (v := .func (.func 166) #[] #[]) rfl rfl rfl rfl (yY (cs := (EntD.cells x)) 1 rfl rfl rfl (yh (fst := []) (cap := []) rfl (by kernel_rfl) rfl rfl (fun w' hw => (zBH x w' ‹_› (rd_x.at0 hw)).mono ?_))))))))))))
  rintro _ w1 ⟨rfl, hO⟩
  refine (?_ : CL _ _ _ _ _ _ (Own w [] [Res.row b2 218 [.func (.func 166) #[] #[], .func (.func 167) #[] #[], .func (.func 168) #[] #[]], Res.row b3 81 (EntD.cells x)])) w1 (hw.frame0 hO)
  refine xM (q := x.ok) rfl rfl (zA (zf rfl (fun c1 => ?_) (fun c1 => ?_)))
  ·
   refine zB (zK rfl (zK rfl (zA ?_)))
   exact zY (xP (v := .slice none 0 0) (v' := Vi 2) rfl rfl rfl (fun w' hw => ⟨.slice none 0 0, (by rw [jX c1]), by rw [if_neg c1]; exact (zt hw T8 1).one 2 rfl⟩))
  ·
   refine zR (zB (yc (cs := [.slice none 0 0]) (z := [.slice none 0 0]) (pl := [(0, 1)]) (by kernel_rfl) (by kernel_rfl) rfl (z7 rfl rfl (fun b13 => zK rfl (zA (zB (zJ (o := 1) rfl rfl (zM 0 (v := .func (.func 167) #[] #[]) rfl rfl rfl rfl (zD rfl (yY (cs := (EntD.cells x)) 1 rfl rfl rfl ?_))))))))))
   refine zx [Res.row b2 218 [.func (.func 166) #[] #[], .func (.func 167) #[] #[], .func (.func 168) #[] #[]], Res.row b3 81 (EntD.cells x), Res.bv b13 yW (.slice none 0 0) ([] : List UInt8)] (fun w' hw => (zt hw T8 1).joinBv (i := 2) (j := 3) (by decide) rfl rfl) ?_
   refine yh (fst := []) (cap := []) rfl (by kernel_rfl) rfl rfl (fun w' hw => (zBA b13 (.slice none 0 0) ([] : List UInt8) x w' ‹_› (by first | omega | (simp <;> omega) | (constructor <;> (first | omega | (simp <;> omega)))) (hw.give [2] rfl (by decide)) (rd_x.at hw [2] rfl)).mono ?_)
   rintro _ w1 ⟨sl'1_, rfl, hO⟩
   refine (?_ : CL _ _ _ _ _ _ (Own w [] [Res.row b2 218 [.func (.func 166) #[] #[], .func (.func 167) #[] #[], .func (.func 168) #[] #[]], Res.row b3 81 (EntD.cells x), Res.bv b13 yW sl'1_ (([] : List UInt8) ++ x.enc)])) w1 (hw.frameL [2] rfl hO)
   refine zA (zB (zD rfl (zh rfl rfl (zJ (o := 0) rfl rfl ?_))))
   refine zx [Res.row b2 218 [.func (.func 166) #[] #[], .func (.func 167) #[] #[], .func (.func 168) #[] #[]], Res.row b3 81 (EntD.cells x), Res.row b13 yW [sl'1_], Res.vec 5 1 sl'1_ (([] : List UInt8) ++ x.enc).length ((([] : List UInt8) ++ x.enc).map vb)] (fun w' hw => hw.splitBv (i := 2) (o := b13) (T := yW) (v := sl'1_) (bs := (([] : List UInt8) ++ x.enc)) rfl) ?_
   refine zM 2 (v := sl'1_) rfl rfl rfl rfl (zK rfl (zK rfl (zA ?_)))
   exact zY (xP (v := sl'1_) (v' := Vi 0) rfl rfl rfl (fun w' hw => ⟨sl'1_, (by rw [jD (Decidable.not_not.1 c1)]), by rw [if_pos (Decidable.not_not.1 c1)]; exact hw.one 3 rfl⟩))
theorem zDw (x : EntD) (w : World) (hx : x.wf) (rd_x : EntD.rd x w []) : Rets Tryz.prog 113 #[.agg (EntD.cells x).toArray] w fun u_ w' => ∃ (r : Value), u_ = .tuple #[r, Vi (yC x.ok)] ∧ Own w [] [Res.vec 5 1 r (if x.ok then x.enc else []).length ((if x.ok then x.enc else []).map vb)] w' := by
  refine zT Tryz.func113 rfl Tryz.ntmps113 (Own.start w) ?_
  refine zB (z7 rfl rfl (fun b1 => zK rfl (zK rfl (zA (zQ (zk [0] rfl (by decide) (by kernel_rfl) (fun w' hw hS => zC 1 rfl (xp (cs := (EntD.cells x)) 0 rfl rfl) hS (zN 0 rfl hw (zH rfl rfl (fun w' hw => (zCH w').mono ?_))))))))))
  rintro _ w1 ⟨rfl, hO⟩
  refine (?_ : CL _ _ _ _ _ _ (Own w [] [Res.row b1 81 (EntD.cells x)])) w1 (hw.frame0 hO)
  refine zE [0] rfl (by decide) (fun w' hw hS => zN 2 rfl hw (zH rfl rfl (fun w' hw => (zDz x w' ‹_› (rd_x.at0 hw)).mono ?_)))
  rintro _ w1 ⟨r1_, rfl, hO⟩
  refine (?_ : CL _ _ _ _ _ _ (Own w [] [Res.row b1 81 (EntD.cells x), Res.vec 5 1 r1_ (if x.ok then x.enc else []).length ((if x.ok then x.enc else []).map vb)])) w1 (hw.frame0 hO)
  refine zE [0] rfl (by decide) (fun w' hw hS => zC 3 rfl (yx (vs := [r1_, Vi (yC x.ok)]) rfl rfl) hS (zC 4 rfl (yx (vs := [r1_, Vi (yC x.ok)]) rfl rfl) hS (zC 5 rfl (ya) hS (zC 6 rfl (ya) hS (zX ?_)))))
  refine (?_ : C _ _ _ _ _ _ _ (Own w [] [Res.row b1 81 (EntD.cells x), Res.vec 5 1 r1_ (if x.ok then x.enc else []).length ((if x.ok then x.enc else []).map vb)])) _ hw
  exact zY (xP (v := r1_) (v' := Vi (yC x.ok)) rfl rfl rfl (fun w' hw => ⟨r1_, rfl, hw.sel [1] rfl (by decide)⟩))
end Go.Proofs.YtkkeknmkipkbmaaGreat
