/-
  THE WALKS OF the writers of entries, snapshots, terms and votes: the program's and the reference's.
-/
import Derived.Test.YthincafbmpialaaGreatRefW
import Derived.Test.YthincafbmpialaaGreatConfDec
set_option linter.unusedVariables false
set_option maxRecDepth 10000
namespace Go.Proofs.YthincafbmpialaaGreat
open Go Go.Sc Go.Proofs

def pv (p : Value × List UInt8) : List Value := [p.1]
/-- A list of bytes in a list that is only read. -/
abbrev BsRd (p : Value × List UInt8) (w : World) (S : List Nat) : Prop := Rd w S (Res.sl p.1 p.2.length (p.2.map vb))
theorem BsRd.at0 {p : Value × List UInt8} {w0 w : World} {S : List Nat} {L : List Res} (h : BsRd p w0 S) (hw : Own w0 S L w) : BsRd p w [] := hw.rd0 h
theorem BsRd.at {p : Value × List UInt8} {w0 w : World} {S : List Nat} {L Lin : List Res} (h : BsRd p w0 S) (hw : Own w0 S L w) (m : List Nat) (hm : m.mapM (fun i => L[i]?) = some Lin) : BsRd p w (fps Lin) := hw.rdTo h m hm
def datsB (ps : List (Value × List UInt8)) : List UInt8 := ps.flatMap fun p => dat p.2

theorem putBytes_s (v : Value) (bs : List UInt8) (lv : Value) (ps : List (Value × List UInt8)) (w : World) (hb : bs.length + (datsB ps).length ≤ 100000000000) (hn : LenOk ps.length) (hv : Rd w [] (Res.sl v bs.length (bs.map vb))) (hl : Rd w [] (Res.sl lv ps.length (ps.flatMap pv))) (all_hl : ∀ p ∈ ps, BsRd p w []) : Rets Tryz.prog 50 #[v, lv] w fun u_ w' => ∃ (r : Value), u_ = r ∧ Own w [] [Res.vec 5 1 r (bs ++ datsB ps).length ((bs ++ datsB ps).map vb)] w' := by
  have hbl : bs.length ≤ 100000000000 := by omega
  refine fn_own Tryz.func50 rfl Tryz.ntmps50 (Own.start w) ?_
  refine c_reg (l_as rfl (l_end (c_reg (l_mv rfl (a_call rfl rfl (fun w' hw => (cloneB_s v bs w' (by first | assumption | omega | (simp <;> omega) | (constructor <;> (first | omega | (simp only [LenOk]; omega) | (simp <;> omega)))) (hw.rd0 hv)).mono ?_))))))
  rintro r1_ w1 ⟨_, rfl, hO⟩
  refine (?_ : CL _ _ _ _ _ _ (Own w [] [Res.vec 5 1 r1_ bs.length (bs.map vb)])) w1 (hw.frame0 hO)
  refine l_as rfl (l_end (c_seq (c_reg (l_mv rfl (a_lenP (pR hl) rfl rfl (l_mv rfl (l_end (c_block ?_))))))))
  refine c_loop2 (fun (k : Nat) (o : Value) => [(5, o), (10, lv), (11, Vj ps.length), (12, Vj k)]) (fun (k : Nat) (o : Value) => k ≤ ps.length) (fun (k : Nat) (o : Value) => [Res.vec 5 1 o (bs ++ datsB (ps.take k)).length ((bs ++ datsB (ps.take k)).map vb)]) (fun (k : Nat) (o : Value) => ps.length - k) (fun w' hw => ⟨0, r1_, ⟨rfl, rfl, rfl, rfl, trivial⟩, Nat.zero_le _, by simpa [datsB] using hw⟩) (fun k o g hΦ => ?_)
  have hle := flatMap_take_le (fun p : Value × List UInt8 => dat p.2) ps (k + 1)
  refine c_reg (l_lss rfl rfl rfl (l_end (c_seq (c_dec rfl (fun c1 => ?_) (fun c1 => ?_)))))
  ·
   rw [take_nth (by omega), List.flatMap_append] at hle
   simp only [List.length_append, List.flatMap_cons, List.flatMap_nil, List.append_nil, dat] at hle
   have hcl : (datsB (ps.take k)).length + ((num (nth ps k).2.length).length + (nth ps k).2.length) ≤ (datsB ps).length := hle
   refine c_skipC (c_seq (c_block (c_reg (a_idxP (pR hl) 1 k rfl rfl rfl (by omega) rfl (a_ldP (pR hl) 1 k 0 (fun _ => rfl) rfl rfl (by omega) rfl rfl (l_as rfl (l_end (c_last (l_mv rfl (l_mv rfl (a_lenP (pR (all_hl _ (nth_mem (by omega)))) rfl rfl (l_cvt (by kernel_rfl) rfl (wu64 (by omega)) rfl ?_ (by kernel_rfl)))))))))))))
   refine a_call rfl rfl (fun w' hw => (putNum_s o (bs ++ datsB (ps.take k)) (((nth ps k).2).length) w' (by first | omega | (simp <;> omega)) (by first | omega | (simp <;> omega) | (constructor <;> (first | omega | (simp <;> omega)))) (hw.rdVec0 0 rfl)).mono ?_)
   rintro r2_ w1 ⟨_, rfl, hO⟩
   refine (?_ : CL _ _ _ _ _ _ (Own w [] [Res.vec 5 1 o (bs ++ datsB (ps.take k)).length ((bs ++ datsB (ps.take k)).map vb), Res.vec 5 1 r2_ ((bs ++ datsB (ps.take k)) ++ num (((nth ps k).2).length)).length (((bs ++ datsB (ps.take k)) ++ num (((nth ps k).2).length)).map vb)])) w1 (hw.frame0 hO)
   refine l_mv rfl (l_appM (l := ((bs ++ datsB (ps.take k)) ++ num (((nth ps k).2).length))) (l' := (nth ps k).2) 1 (by kernel_rfl) rfl rfl rfl (fun w' hw' => Own.rd (all_hl _ (nth_mem (by omega))) hw') (by first | omega | (simp; omega)) rfl (fun v22 => l_as rfl (l_end (c_last (l_add rfl rfl (wi64 (by omega)) rfl (l_mv rfl ?_))))))
   exact l_nil (fun w' hw => ⟨k + 1, v22, ⟨rfl, rfl, rfl, rfl, trivial⟩, (by omega), by rw [take_nth (by omega)]; have h := hw.one 1 rfl; simpa [datsB, dat] using h, (by omega)⟩)
  ·
   refine c_exitC rfl (c_reg (l_mv rfl (l_as rfl (l_end ?_))))
   exact c_ret (ret1 (v := o) rfl rfl (fun w' hw => ⟨o, rfl, by rw [List.take_of_length_le (by omega)] at hw; exact hw⟩))
theorem data_s {S : List Nat} (o : Nat) (sl : Value) (bs : List UInt8) (lv : Value) (ps : List (Value × List UInt8)) (w : World) (hb : bs.length + (datsB ps).length ≤ 100000000000) (hn : LenOk ps.length) (hin : Own w S [Res.bv o TOut sl bs] w) (hl : Rd w S (Res.sl lv ps.length (ps.flatMap pv))) (all_hl : ∀ p ∈ ps, BsRd p w S) : Rets Tryz.prog 102 #[.pointer (some ⟨o, 0, none⟩), lv] w fun u_ w' => ∃ (sl' : Value), u_ = .tuple #[] ∧ Own w S [Res.bv o TOut sl' (bs ++ datsB ps)] w' := by
  refine fn_own Tryz.func102 rfl Tryz.ntmps102 hin ?_
  refine c_last (l_mv rfl (l_mv rfl (l_nck rfl rfl (a_fld (o := 0) rfl rfl ?_))))
  refine l_own [Res.row o TOut [sl], Res.vec 5 1 sl bs.length (bs.map vb)] (fun w' hw => hw.splitBv (i := 0) (o := o) (T := TOut) (v := sl) (bs := bs) rfl) ?_
  refine a_ldo 0 (v := sl) rfl rfl rfl rfl (l_mv rfl (a_call rfl rfl (fun w' hw => (putBytes_s sl bs lv ps w' (by first | omega | (simp <;> omega)) (by first | assumption | omega | (simp <;> omega) | (constructor <;> (first | omega | (simp only [LenOk]; omega) | (simp <;> omega)))) (hw.rdVec0 1 rfl) (hw.rd0 hl) (fun p hp => BsRd.at0 (all_hl p hp) hw)).mono ?_)))
  rintro r1_ w1 ⟨_, rfl, hO⟩
  refine (?_ : CL _ _ _ _ _ _ (Own w S [Res.row o TOut [sl], Res.vec 5 1 sl bs.length (bs.map vb), Res.vec 5 1 r1_ (bs ++ datsB ps).length ((bs ++ datsB ps).map vb)])) w1 (hw.frame0 hO)
  refine l_nck rfl rfl (a_fld (o := 0) rfl rfl ?_)
  refine l_haveO (fun w' hw => Own.cell1Vec (i := 2) rfl hw) (fun hc1_ => ?_)
  refine a_st (cs := [sl]) 0 rfl rfl rfl hc1_ rfl ?_
  exact l_nil (ret0 rfl (fun w' hw => ⟨r1_, rfl, (hw.joinBv (i := 0) (j := 2) (o := o) (T := TOut) (v := r1_) (bs := bs ++ datsB ps) (by decide) rfl rfl).one 0 rfl⟩))

structure EntA where
  index : Nat
  term : Nat
  kind : Int
  delta : Int
  data : List UInt8
  deriving DecidableEq, Inhabited
structure EntD extends EntA where
  dv : Value
  deriving Inhabited
structure EntA.wf (x : EntA) : Prop where
  index : x.index < 18446744073709551616
  term : x.term < 18446744073709551616
  data : x.data.length ≤ 1000000000
def EntD.cells (x : EntD) : List Value := [.int .u64 x.index, .int .u64 x.term, .int .i64 x.kind, .int .i64 x.delta, x.dv]
structure EntD.rd (x : EntD) (w : World) (S : List Nat) : Prop where
  dv : Rd w S (Res.sl x.dv x.data.length (x.data.map vb))
theorem EntD.rd.at0 {x : EntD} {w0 w : World} {S : List Nat} {L : List Res} (h : x.rd w0 S) (hw : Own w0 S L w) : x.rd w [] := ⟨hw.rd0 h.dv⟩
theorem EntD.rd.at {x : EntD} {w0 w : World} {S : List Nat} {L Lin : List Res} (h : x.rd w0 S) (hw : Own w0 S L w) (m : List Nat) (hm : m.mapM (fun i => L[i]?) = some Lin) : x.rd w (fps Lin) := ⟨hw.rdTo h.dv m hm⟩
def EntD.dres (x : EntD) : Res := Res.vec 5 1 x.dv x.data.length (x.data.map vb)
theorem EntD.dres_rd {x : EntD} {w : World} {S : List Nat} (h : Rd w S x.dres) : x.rd w S := ⟨h.sub Vec.sl blkS_sub⟩
theorem EntD.rd.star0 {es : List EntD} {w0 w : World} {S : List Nat} {L : List Res} (j : Nat) (hL : L[j]? = some (Res.star (es.map EntD.dres))) (h : Own w0 S L w) : ∀ p ∈ es, p.rd w [] := fun p hp => EntD.dres_rd (h.star0 j hL _ (List.mem_map_of_mem hp))
theorem EntD.rd.star {es : List EntD} {w0 w : World} {S : List Nat} {L Lin : List Res} (j : Nat) (hL : L[j]? = some (Res.star (es.map EntD.dres))) (m : List Nat) (hm : m.mapM (fun i => L[i]?) = some Lin) (hj : m.any (Nat.beq j) = false) (h : Own w0 S L w) : ∀ p ∈ es, p.rd w (fps Lin) := fun p hp => EntD.dres_rd (h.star j hL m hm hj _ (List.mem_map_of_mem hp))
def EntA.ok (x : EntA) : Prop := ((1 ≤ x.index ∧ 1 ≤ x.term) ∧ (x.index ≤ 4611686018427387904 ∧ x.term ≤ 4611686018427387904) ∧ (0 ≤ x.delta ∧ x.delta ≤ 1099511627776) ∧ x.data.length ≤ 4096) ∧
  if x.kind = 1 then x.data.length = 0 else if x.kind = 3 then (decConf x.data).isSome = true else x.kind = 2
instance (x : EntA) : Decidable x.ok := by unfold EntA.ok; infer_instance
def EntA.enc (x : EntA) : List UInt8 := numsB [x.index, x.term, u64 x.kind, u64 x.delta] ++ dat x.data
theorem EntA.enc_le {x : EntA} (h : x.wf) : x.enc.length ≤ x.data.length + 60 := by
  have h1 := numsB_length (ns := [x.index, x.term, u64 x.kind, u64 x.delta]) (by have := h.index; have := h.term; simp [u64_lt, *])
  have h2 := dat_length x.data (by have := h.data; omega)
  simp only [EntA.enc, List.length_append, List.length_cons, List.length_nil] at *
  omega
theorem ValPost.iff {α : Type} {d : Option α} {x z : α} {e : Int} (h : ValPost d x z e) : e = 0 ↔ d.isSome = true := by
  rcases h with ⟨rfl, h⟩ | ⟨rfl, h, _⟩ <;> simp [h]
theorem RefPost.iff {α : Type} {d : Option α} {x : α} {f : Bool} (h : RefPost d x f) : f = true ↔ d.isSome = true := by
  cases f with
  | true => simp [h.yes rfl]
  | false => simp [h.no rfl]

theorem entSound_s (x : EntD) (w : World) (hx : x.wf) (rd_x : EntD.rd x w []) : Rets Tryz.prog 123 #[.agg (EntD.cells x).toArray] w fun u_ w' => u_ = .bool (decide x.ok) ∧ Own w [] [] w' := by
  have hd := hx.data
  have h1 := hx.index
  have h2 := hx.term
  refine fn_own Tryz.func123 rfl Tryz.ntmps123 (Own.start w) ?_
  refine c_reg (l_box rfl rfl (fun b1 => l_as rfl (l_end (c_seq (c_reg (a_fld (o := 0) rfl rfl (a_ldo 0 (v := Vn x.index) rfl rfl rfl rfl (l_lss rfl rfl rfl (l_mv rfl (l_bor (q := ((x.index : Nat) : Int) < ((1 : Nat) : Int)) 3 3 [11, 10, 9] (((x.term : Nat) : Int) < ((1 : Nat) : Int)) rfl rfl rfl rfl rfl rfl trivial rfl (fun h1_3 => ?_) (fun g1_7 => ?_)))))))))))
  ·
   refine l_on rfl (gF h1_3) (a_fld (o := 1) rfl rfl (l_on rfl (gF h1_3) (a_ldo 0 (v := Vn x.term) rfl rfl rfl rfl (l_on rfl (gF h1_3) (l_lss rfl rfl rfl ?_)))))
   exact l_gp rfl (fun _ hw => hw)
  refine l_mv rfl (l_bor (q := (((x.index : Nat) : Int) < ((1 : Nat) : Int)) ∨ (((x.term : Nat) : Int) < ((1 : Nat) : Int))) 6 8 [19, 18, 17, 16, 15, 14] (((4611686018427387904 : Nat) : Int) < ((max x.index x.term : Nat) : Int)) rfl rfl rfl rfl rfl rfl trivial rfl (fun h1_8 => ?_) (fun g1_15 => ?_))
  ·
   refine l_on rfl (gF h1_8) (a_fld (o := 0) rfl rfl (l_on rfl (gF h1_8) (a_ldo 0 (v := Vn x.index) rfl rfl rfl rfl (l_on rfl (gF h1_8) (a_fld (o := 1) rfl rfl (l_on rfl (gF h1_8) (a_ldo 0 (v := Vn x.term) rfl rfl rfl rfl (l_on rfl (gF h1_8) (l_max (c := ((max x.index x.term : Nat) : Int)) rfl rfl (maxc _ _) rfl (l_on rfl (gF h1_8) (l_gtr rfl rfl rfl ?_)))))))))))
   exact l_gp rfl (fun _ hw => hw)
  refine l_mv rfl (l_bor (q := ((((x.index : Nat) : Int) < ((1 : Nat) : Int)) ∨ (((x.term : Nat) : Int) < ((1 : Nat) : Int))) ∨ (((4611686018427387904 : Nat) : Int) < ((max x.index x.term : Nat) : Int))) 3 16 [24, 23, 22] (x.delta < 0) rfl rfl rfl rfl rfl rfl trivial rfl (fun h1_16 => ?_) (fun g1_20 => ?_))
  ·
   refine l_on rfl (gF h1_16) (a_fld (o := 3) rfl rfl (l_on rfl (gF h1_16) (a_ldo 0 (v := Vi x.delta) rfl rfl rfl rfl (l_on rfl (gF h1_16) (l_lss rfl rfl rfl ?_)))))
   exact l_gp rfl (fun _ hw => hw)
  refine l_mv rfl (l_bor (q := (((((x.index : Nat) : Int) < ((1 : Nat) : Int)) ∨ (((x.term : Nat) : Int) < ((1 : Nat) : Int))) ∨ (((4611686018427387904 : Nat) : Int) < ((max x.index x.term : Nat) : Int))) ∨ (x.delta < 0)) 3 21 [29, 28, 27] (1099511627776 < x.delta) rfl rfl rfl rfl rfl rfl trivial rfl (fun h1_21 => ?_) (fun g1_25 => ?_))
  ·
   refine l_on rfl (gF h1_21) (a_fld (o := 3) rfl rfl (l_on rfl (gF h1_21) (a_ldo 0 (v := Vi x.delta) rfl rfl rfl rfl (l_on rfl (gF h1_21) (l_gtr rfl rfl rfl ?_)))))
   exact l_gp rfl (fun _ hw => hw)
  refine l_mv rfl (l_bor (q := ((((((x.index : Nat) : Int) < ((1 : Nat) : Int)) ∨ (((x.term : Nat) : Int) < ((1 : Nat) : Int))) ∨ (((4611686018427387904 : Nat) : Int) < ((max x.index x.term : Nat) : Int))) ∨ (x.delta < 0)) ∨ (1099511627776 < x.delta)) 4 26 [35, 34, 33, 32] (4096 < ((x.data.length : Nat) : Int)) rfl rfl rfl rfl rfl rfl trivial rfl (fun h1_26 => ?_) (fun g1_31 => ?_))
  ·
   refine l_on rfl (gF h1_26) (a_fld (o := 4) rfl rfl (l_on rfl (gF h1_26) (a_ldo 0 (v := x.dv) rfl rfl rfl rfl (l_on rfl (gF h1_26) (a_lenP (pR rd_x.dv) rfl rfl (l_on rfl (gF h1_26) (l_gtr rfl rfl rfl ?_)))))))
   exact l_gp rfl (fun _ hw => hw)
  refine l_end (c_dec rfl (fun c1 => ?_) (fun c1 => ?_))
  ·
   refine c_reg (l_as rfl (l_end ?_))
   exact c_ret (ret1 (v := .bool false) rfl rfl (fun w' hw => ⟨(by rw [decide_eq_false]; rintro ⟨h, _⟩; omega), hw.drop⟩))
  ·
   refine c_skipC (c_seq (c_reg (a_fld (o := 2) rfl rfl (a_ldo 0 (v := Vi x.kind) rfl rfl rfl rfl (l_end (c_block (c_reg (l_eq rfl rfl rfl (l_as rfl (l_end (c_dec rfl (fun c2 => ?_) (fun c2 => ?_))))))))))))
   ·
    refine c_reg (a_fld (o := 4) rfl rfl (a_ldo 0 (v := x.dv) rfl rfl rfl rfl (a_lenP (pR rd_x.dv) rfl rfl (l_eq rfl rfl rfl (l_as rfl (l_end ?_))))))
    exact c_ret (ret1 (v := .bool (decide (((x.data.length : Nat) : Int) = 0))) rfl rfl (fun w' hw => ⟨(by congr 1; exact decide_eq_decide.2 (by unfold EntA.ok; rw [if_pos c2]; exact ⟨fun h => ⟨by omega, by omega⟩, fun h => by have := h.2; omega⟩)), hw.drop⟩))
   ·
    refine c_reg (l_eq rfl rfl rfl (l_as rfl (l_end (c_dec rfl (fun c3 => ?_) (fun c3 => ?_)))))
    ·
     refine c_reg (a_fld (o := 4) rfl rfl (a_ldo 0 (v := x.dv) rfl rfl rfl rfl (a_call rfl rfl (fun w' hw => (toConf_s x.dv x.data w' (by first | assumption | omega | (simp <;> omega) | (constructor <;> (first | omega | (simp only [LenOk]; omega) | (simp <;> omega)))) (hw.rd0 rd_x.dv)).mono ?_))))
     rintro _ w1 ⟨r11_, l12_, r23_, l24_, e5_, rfl, hf7_2, hf7_2_1, hf7_2_2, hO⟩
     refine (?_ : CL _ _ _ _ _ _ (Own w [] [Res.row b1 57 (EntD.cells x), Res.vec 3 1 r11_ l12_.length (l12_.flatMap I1), Res.vec 3 1 r23_ l24_.length (l24_.flatMap I1)])) w1 (hw.frame0 hO)
     refine l_mv rfl (l_ext (vs := [.agg #[r11_, r23_], Vi e5_]) rfl rfl rfl (l_ext (vs := [.agg #[r11_, r23_], Vi e5_]) rfl rfl rfl (l_new (v := .agg #[.slice none 0 0, .slice none 0 0]) (by kernel_rfl) rfl (fun b3 => ?_))))
     refine l_haveO (fun w' hw => Own.cell1Vec (i := 1) rfl hw) (fun hc1_ => ?_)
     refine l_haveO (fun w' hw => Own.cell1Vec (i := 2) rfl hw) (fun hc2_ => ?_)
     refine a_stN 3 rfl rfl rfl (allc_cons hc1_ (allc_cons hc2_ allc_nil)) rfl (l_as rfl (l_end (c_reg (l_mv rfl (l_eq rfl rfl rfl (l_as rfl (l_end ?_)))))))
     exact c_ret (ret1 (v := .bool (decide (e5_ = 0))) rfl rfl (fun w' hw => ⟨(by congr 1; exact decide_eq_decide.2 (by unfold EntA.ok; rw [if_neg c2, if_pos c3, ← hf7_2.iff]; exact ⟨fun h => ⟨by omega, h⟩, fun h => h.2⟩)), hw.drop⟩))
    ·
     refine c_skipC (c_reg (a_fld (o := 2) rfl rfl (a_ldo 0 (v := Vi x.kind) rfl rfl rfl rfl (l_eq rfl rfl rfl (l_as rfl (l_end ?_))))))
     exact c_ret (ret1 (v := .bool (decide (x.kind = 2))) rfl rfl (fun w' hw => ⟨(by congr 1; exact decide_eq_decide.2 (by unfold EntA.ok; rw [if_neg c2, if_neg c3]; exact ⟨fun h => ⟨by omega, h⟩, fun h => h.2⟩)), hw.drop⟩))
theorem rentOK_s (x : EntD) (w : World) (hx : x.wf) (rd_x : EntD.rd x w []) : Rets Tryz.prog 57 #[.agg (EntD.cells x).toArray] w fun u_ w' => u_ = .bool (decide x.ok) ∧ Own w [] [] w' := by
  have hd := hx.data
  have h1 := hx.index
  have h2 := hx.term
  refine fn_own Tryz.func57 rfl Tryz.ntmps57 (Own.start w) ?_
  refine c_reg (l_box rfl rfl (fun b1 => l_as rfl (l_end (c_seq (c_reg (a_fld (o := 0) rfl rfl (a_ldo 0 (v := Vn x.index) rfl rfl rfl rfl (l_lss rfl rfl rfl (l_mv rfl (l_bor (q := ((x.index : Nat) : Int) < ((1 : Nat) : Int)) 3 3 [11, 10, 9] (((4611686018427387904 : Nat) : Int) < ((x.index : Nat) : Int)) rfl rfl rfl rfl rfl rfl trivial rfl (fun h1_3 => ?_) (fun g1_7 => ?_)))))))))))
  ·
   refine l_on rfl (gF h1_3) (a_fld (o := 0) rfl rfl (l_on rfl (gF h1_3) (a_ldo 0 (v := Vn x.index) rfl rfl rfl rfl (l_on rfl (gF h1_3) (l_gtr rfl rfl rfl ?_)))))
   exact l_gp rfl (fun _ hw => hw)
  refine l_mv rfl (l_bor (q := (((x.index : Nat) : Int) < ((1 : Nat) : Int)) ∨ (((4611686018427387904 : Nat) : Int) < ((x.index : Nat) : Int))) 3 8 [16, 15, 14] (((x.term : Nat) : Int) < ((1 : Nat) : Int)) rfl rfl rfl rfl rfl rfl trivial rfl (fun h1_8 => ?_) (fun g1_12 => ?_))
  ·
   refine l_on rfl (gF h1_8) (a_fld (o := 1) rfl rfl (l_on rfl (gF h1_8) (a_ldo 0 (v := Vn x.term) rfl rfl rfl rfl (l_on rfl (gF h1_8) (l_lss rfl rfl rfl ?_)))))
   exact l_gp rfl (fun _ hw => hw)
  refine l_mv rfl (l_bor (q := ((((x.index : Nat) : Int) < ((1 : Nat) : Int)) ∨ (((4611686018427387904 : Nat) : Int) < ((x.index : Nat) : Int))) ∨ (((x.term : Nat) : Int) < ((1 : Nat) : Int))) 3 13 [21, 20, 19] (((4611686018427387904 : Nat) : Int) < ((x.term : Nat) : Int)) rfl rfl rfl rfl rfl rfl trivial rfl (fun h1_13 => ?_) (fun g1_17 => ?_))
  ·
   refine l_on rfl (gF h1_13) (a_fld (o := 1) rfl rfl (l_on rfl (gF h1_13) (a_ldo 0 (v := Vn x.term) rfl rfl rfl rfl (l_on rfl (gF h1_13) (l_gtr rfl rfl rfl ?_)))))
   exact l_gp rfl (fun _ hw => hw)
  refine l_mv rfl (l_bor (q := (((((x.index : Nat) : Int) < ((1 : Nat) : Int)) ∨ (((4611686018427387904 : Nat) : Int) < ((x.index : Nat) : Int))) ∨ (((x.term : Nat) : Int) < ((1 : Nat) : Int))) ∨ (((4611686018427387904 : Nat) : Int) < ((x.term : Nat) : Int))) 3 18 [26, 25, 24] (x.delta < 0) rfl rfl rfl rfl rfl rfl trivial rfl (fun h1_18 => ?_) (fun g1_22 => ?_))
  ·
   refine l_on rfl (gF h1_18) (a_fld (o := 3) rfl rfl (l_on rfl (gF h1_18) (a_ldo 0 (v := Vi x.delta) rfl rfl rfl rfl (l_on rfl (gF h1_18) (l_lss rfl rfl rfl ?_)))))
   exact l_gp rfl (fun _ hw => hw)
  refine l_mv rfl (l_bor (q := ((((((x.index : Nat) : Int) < ((1 : Nat) : Int)) ∨ (((4611686018427387904 : Nat) : Int) < ((x.index : Nat) : Int))) ∨ (((x.term : Nat) : Int) < ((1 : Nat) : Int))) ∨ (((4611686018427387904 : Nat) : Int) < ((x.term : Nat) : Int))) ∨ (x.delta < 0)) 3 23 [31, 30, 29] (1099511627776 < x.delta) rfl rfl rfl rfl rfl rfl trivial rfl (fun h1_23 => ?_) (fun g1_27 => ?_))
  ·
   refine l_on rfl (gF h1_23) (a_fld (o := 3) rfl rfl (l_on rfl (gF h1_23) (a_ldo 0 (v := Vi x.delta) rfl rfl rfl rfl (l_on rfl (gF h1_23) (l_gtr rfl rfl rfl ?_)))))
   exact l_gp rfl (fun _ hw => hw)
  refine l_mv rfl (l_bor (q := (((((((x.index : Nat) : Int) < ((1 : Nat) : Int)) ∨ (((4611686018427387904 : Nat) : Int) < ((x.index : Nat) : Int))) ∨ (((x.term : Nat) : Int) < ((1 : Nat) : Int))) ∨ (((4611686018427387904 : Nat) : Int) < ((x.term : Nat) : Int))) ∨ (x.delta < 0)) ∨ (1099511627776 < x.delta)) 4 28 [37, 36, 35, 34] (4096 < ((x.data.length : Nat) : Int)) rfl rfl rfl rfl rfl rfl trivial rfl (fun h1_28 => ?_) (fun g1_33 => ?_))
  ·
   refine l_on rfl (gF h1_28) (a_fld (o := 4) rfl rfl (l_on rfl (gF h1_28) (a_ldo 0 (v := x.dv) rfl rfl rfl rfl (l_on rfl (gF h1_28) (a_lenP (pR rd_x.dv) rfl rfl (l_on rfl (gF h1_28) (l_gtr rfl rfl rfl ?_)))))))
   exact l_gp rfl (fun _ hw => hw)
  refine l_end (c_dec rfl (fun c1 => ?_) (fun c1 => ?_))
  ·
   refine c_reg (l_as rfl (l_end ?_))
   exact c_ret (ret1 (v := .bool false) rfl rfl (fun w' hw => ⟨(by rw [decide_eq_false]; rintro ⟨h, _⟩; omega), hw.drop⟩))
  ·
   refine c_skipC (c_seq (c_reg (a_fld (o := 2) rfl rfl (a_ldo 0 (v := Vi x.kind) rfl rfl rfl rfl (l_eq rfl rfl rfl (l_end (c_dec rfl (fun c2 => ?_) (fun c2 => ?_))))))))
   ·
    refine c_reg (a_fld (o := 4) rfl rfl (a_ldo 0 (v := x.dv) rfl rfl rfl rfl (a_lenP (pR rd_x.dv) rfl rfl (l_eq rfl rfl rfl (l_as rfl (l_end ?_))))))
    exact c_ret (ret1 (v := .bool (decide (((x.data.length : Nat) : Int) = 0))) rfl rfl (fun w' hw => ⟨(by congr 1; exact decide_eq_decide.2 (by unfold EntA.ok; rw [if_pos c2]; exact ⟨fun h => ⟨by omega, by omega⟩, fun h => by have := h.2; omega⟩)), hw.drop⟩))
   ·
    refine c_skipC (c_seq (c_reg (a_fld (o := 2) rfl rfl (a_ldo 0 (v := Vi x.kind) rfl rfl rfl rfl (l_eq rfl rfl rfl (l_end (c_dec rfl (fun c3 => ?_) (fun c3 => ?_))))))))
    ·
     refine c_reg (a_fld (o := 4) rfl rfl (a_ldo 0 (v := x.dv) rfl rfl rfl rfl (a_call rfl rfl (fun w' hw => (rtoConf_s x.dv x.data w' (by first | assumption | omega | (simp <;> omega) | (constructor <;> (first | omega | (simp only [LenOk]; omega) | (simp <;> omega)))) (hw.rd0 rd_x.dv)).mono ?_))))
     rintro _ w1 ⟨r11_, l12_, r23_, l24_, f5_, rfl, hf6_2, hf6_2_1, hf6_2_2, hO⟩
     refine (?_ : CL _ _ _ _ _ _ (Own w [] [Res.row b1 57 (EntD.cells x), Res.vec 3 1 r11_ l12_.length (l12_.flatMap I1), Res.vec 3 1 r23_ l24_.length (l24_.flatMap I1)])) w1 (hw.frame0 hO)
     refine l_mv rfl (l_ext (vs := [.agg #[r11_, r23_], .bool f5_]) rfl rfl rfl (l_ext (vs := [.agg #[r11_, r23_], .bool f5_]) rfl rfl rfl (l_new (v := .agg #[.slice none 0 0, .slice none 0 0]) (by kernel_rfl) rfl (fun b3 => ?_))))
     refine l_haveO (fun w' hw => Own.cell1Vec (i := 1) rfl hw) (fun hc1_ => ?_)
     refine l_haveO (fun w' hw => Own.cell1Vec (i := 2) rfl hw) (fun hc2_ => ?_)
     refine a_stN 3 rfl rfl rfl (allc_cons hc1_ (allc_cons hc2_ allc_nil)) rfl (l_as rfl (l_end (c_reg (l_mv rfl (l_as rfl (l_end ?_))))))
     exact c_ret (ret1 (v := .bool f5_) rfl rfl (fun w' hw => ⟨(bool_iff (by unfold EntA.ok; rw [if_neg c2, if_pos c3, ← hf6_2.iff]; exact ⟨fun h => ⟨by omega, h⟩, fun h => h.2⟩)), hw.drop⟩))
    ·
     refine c_skipC (c_reg (a_fld (o := 2) rfl rfl (a_ldo 0 (v := Vi x.kind) rfl rfl rfl rfl (l_eq rfl rfl rfl (l_as rfl (l_end ?_))))))
     exact c_ret (ret1 (v := .bool (decide (x.kind = 2))) rfl rfl (fun w' hw => ⟨(by congr 1; exact decide_eq_decide.2 (by unfold EntA.ok; rw [if_neg c2, if_neg c3]; exact ⟨fun h => ⟨by omega, h⟩, fun h => h.2⟩)), hw.drop⟩))

theorem entWrite_s {S : List Nat} (o : Nat) (sl : Value) (bs : List UInt8) (x : EntD) (w : World) (hx : x.wf) (hb : bs.length + x.enc.length ≤ 10000000000) (hin : Own w S [Res.bv o TOut sl bs] w) (rd_x : EntD.rd x w S) : Rets Tryz.prog 125 #[.pointer (some ⟨o, 0, none⟩), .agg (EntD.cells x).toArray] w fun u_ w' => ∃ (sl' : Value), u_ = .tuple #[] ∧ Own w S [Res.bv o TOut sl' (bs ++ x.enc)] w' := by
  have hd := hx.data
  have h1 := hx.index
  have h2 := hx.term
  have he : x.enc.length = (numsB [x.index, x.term, u64 x.kind, u64 x.delta]).length + (dat x.data).length := by simp [EntA.enc]
  refine fn_own Tryz.func125 rfl Tryz.ntmps125 hin ?_
  refine c_reg (l_box rfl rfl (fun b3 => l_end (c_reg (l_mv rfl (a_fld (o := 0) rfl rfl (a_ldo 1 (v := Vn x.index) rfl rfl rfl rfl (a_fld (o := 1) rfl rfl (a_ldo 1 (v := Vn x.term) rfl rfl rfl rfl (a_fld (o := 2) rfl rfl (a_ldo 1 (v := Vi x.kind) rfl rfl rfl rfl (l_cvt (by kernel_rfl) rfl (wrap_u64 _) rfl ?_ (by kernel_rfl))))))))))))
  refine a_fld (o := 3) rfl rfl (a_ldo 1 (v := Vi x.delta) rfl rfl rfl rfl (l_cvt (by kernel_rfl) rfl (wrap_u64 _) rfl ?_ (by kernel_rfl)))
  refine l_bsl (e := 28) (sz := 1) (vs := [Vn x.index, Vn x.term, Vn (u64 x.kind), Vn (u64 x.delta)]) (by kernel_rfl) rfl rfl (by simp [Value.cells]) (by decide) rfl (fun b15 => a_call rfl rfl (fun w' hw => (nums_s o _ _ (.slice (some ⟨b15, 0, none⟩) 4 4) [x.index, x.term, u64 x.kind, u64 x.delta] w' (by first | assumption | (simp [u64_lt]; done) | (simp [u64_lt]; omega) | (simp; omega)) (by first | omega | (simp <;> omega) | (constructor <;> (first | omega | (simp <;> omega)))) (hw.give [0] rfl (by decide)) (hw.rdVec 2 rfl [0] rfl rfl)).mono ?_))
  rintro _ w1 ⟨sl'1_, rfl, hO⟩
  refine (?_ : CL _ _ _ _ _ _ (Own w S [Res.row b3 57 (EntD.cells x), Res.vec 28 1 (.slice (some ⟨b15, 0, none⟩) 4 4) [x.index, x.term, u64 x.kind, u64 x.delta].length ([x.index, x.term, u64 x.kind, u64 x.delta].flatMap U1), Res.bv o TOut sl'1_ (bs ++ numsB [x.index, x.term, u64 x.kind, u64 x.delta])])) w1 (hw.frameL [0] rfl hO)
  refine l_end (c_last (l_mv rfl (a_fld (o := 4) rfl rfl (a_ldo 0 (v := x.dv) rfl rfl rfl rfl (l_bsl1 (e := 52) (vs := [x.dv]) (by kernel_rfl) rfl rfl (allc_cons (Sl.cell1 (Rd.φ rd_x.dv)) allc_nil) (by decide) rfl (fun b20 => a_call rfl rfl (fun w' hw => (data_s o sl'1_ (bs ++ numsB [x.index, x.term, u64 x.kind, u64 x.delta]) (.slice (some ⟨b20, 0, none⟩) 1 1) [(x.dv, x.data)] w' (by simp [datsB]; omega) (by show 1 ≤ _; omega) (hw.give [2] rfl (by decide)) (hw.rdVec 3 rfl [2] rfl rfl) (all_cons (hw.rdTo rd_x.dv [2] rfl) (fun p hp => by cases hp))).mono ?_)))))))
  rintro _ w1 ⟨sl'2_, rfl, hO⟩
  refine (?_ : CL _ _ _ _ _ _ (Own w S [Res.row b3 57 (EntD.cells x), Res.vec 28 1 (.slice (some ⟨b15, 0, none⟩) 4 4) [x.index, x.term, u64 x.kind, u64 x.delta].length ([x.index, x.term, u64 x.kind, u64 x.delta].flatMap U1), Res.vec 52 1 (.slice (some ⟨b20, 0, none⟩) 1 1) [(x.dv, x.data)].length ([(x.dv, x.data)].flatMap pv), Res.bv o TOut sl'2_ ((bs ++ numsB [x.index, x.term, u64 x.kind, u64 x.delta]) ++ datsB [(x.dv, x.data)])])) w1 (hw.frameL [2] rfl hO)
  exact l_nil (ret0 rfl (fun w' hw => ⟨sl'2_, rfl, by have h := hw.one 3 rfl; simpa [EntA.enc, datsB] using h⟩))
theorem entries_s (w : World) : Rets Tryz.prog 92 #[] w fun u_ w' => u_ = .agg #[.func (.func 123) #[] #[], .func (.func 125) #[] #[], .func (.func 126) #[] #[]] ∧ Own w [] [] w' := by
  refine fn_own Tryz.func92 rfl Tryz.ntmps92 (Own.start w) ?_
  refine c_reg (l_new (v := .agg #[.nilFunc, .nilFunc, .nilFunc]) (by kernel_rfl) rfl (fun b0 => l_end (c_reg (l_bld (cs := [.func (.func 123) #[] #[], .func (.func 125) #[] #[], .func (.func 126) #[] #[]]) (z := [.nilFunc, .nilFunc, .nilFunc]) (pl := [(0, 1), (1, 1), (2, 1)]) (by kernel_rfl) (by kernel_rfl) rfl (a_stN 0 rfl rfl rfl (allc rfl) rfl (l_end ?_))))))
  exact c_ret (retc (cs := [.func (.func 123) #[] #[], .func (.func 125) #[] #[], .func (.func 126) #[] #[]]) rfl rfl (by kernel_rfl) (Own.rowCells (i := 0) rfl) (fun w' hw => ⟨rfl, hw.drop⟩))
theorem entBytes_s (x : EntD) (w : World) (hx : x.wf) (rd_x : EntD.rd x w []) : Rets Tryz.prog 93 #[.agg #[.func (.func 123) #[] #[], .func (.func 125) #[] #[], .func (.func 126) #[] #[]], .agg (EntD.cells x).toArray] w fun u_ w' => ∃ (r : Value), u_ = .tuple #[r, Vi (errOf x.ok)] ∧ Own w [] [Res.vec 5 1 r (if x.ok then x.enc else []).length ((if x.ok then x.enc else []).map vb)] w' := by
  have hd := hx.data
  have hl := EntA.enc_le hx
  refine fn_own Tryz.func93 rfl Tryz.ntmps93 (Own.start w) ?_
  refine c_reg (l_box rfl rfl (fun b2 => l_box rfl rfl (fun b3 => l_as rfl (l_as rfl (l_end (c_seq (c_reg (a_fld (o := 0) rfl rfl (a_ldo 0 (v := .func (.func 123) #[] #[]) rfl rfl rfl rfl (a_ldr (cs := (EntD.cells x)) 1 rfl rfl rfl (l_callv (fst := []) (cap := []) rfl (by kernel_rfl) rfl rfl (fun w' hw => (entSound_s x w' ‹_› (rd_x.at0 hw)).mono ?_))))))))))))
  rintro _ w1 ⟨rfl, hO⟩
  refine (?_ : CL _ _ _ _ _ _ (Own w [] [Res.row b2 161 [.func (.func 123) #[] #[], .func (.func 125) #[] #[], .func (.func 126) #[] #[]], Res.row b3 57 (EntD.cells x)])) w1 (hw.frame0 hO)
  refine l_notp (q := x.ok) rfl rfl (l_end (c_dec rfl (fun c1 => ?_) (fun c1 => ?_)))
  ·
   refine c_reg (l_as rfl (l_as rfl (l_end ?_)))
   exact c_ret (ret2 (v := .slice none 0 0) (v' := Vi 2) rfl rfl rfl (fun w' hw => ⟨.slice none 0 0, (by rw [errOf_F c1]), by rw [if_neg c1]; exact (own_nil hw T8 1).one 2 rfl⟩))
  ·
   refine c_skipC (c_reg (l_bld (cs := [.slice none 0 0]) (z := [.slice none 0 0]) (pl := [(0, 1)]) (by kernel_rfl) (by kernel_rfl) rfl (l_box rfl rfl (fun b13 => l_as rfl (l_end (c_reg (a_fld (o := 1) rfl rfl (a_ldo 0 (v := .func (.func 125) #[] #[]) rfl rfl rfl rfl (l_mv rfl (a_ldr (cs := (EntD.cells x)) 1 rfl rfl rfl ?_))))))))))
   refine l_own [Res.row b2 161 [.func (.func 123) #[] #[], .func (.func 125) #[] #[], .func (.func 126) #[] #[]], Res.row b3 57 (EntD.cells x), Res.bv b13 TOut (.slice none 0 0) ([] : List UInt8)] (fun w' hw => (own_nil hw T8 1).joinBv (i := 2) (j := 3) (by decide) rfl rfl) ?_
   refine l_callv (fst := []) (cap := []) rfl (by kernel_rfl) rfl rfl (fun w' hw => (entWrite_s b13 (.slice none 0 0) ([] : List UInt8) x w' ‹_› (by first | omega | (simp <;> omega) | (constructor <;> (first | omega | (simp <;> omega)))) (hw.give [2] rfl (by decide)) (rd_x.at hw [2] rfl)).mono ?_)
   rintro _ w1 ⟨sl'1_, rfl, hO⟩
   refine (?_ : CL _ _ _ _ _ _ (Own w [] [Res.row b2 161 [.func (.func 123) #[] #[], .func (.func 125) #[] #[], .func (.func 126) #[] #[]], Res.row b3 57 (EntD.cells x), Res.bv b13 TOut sl'1_ (([] : List UInt8) ++ x.enc)])) w1 (hw.frameL [2] rfl hO)
   refine l_end (c_reg (l_mv rfl (l_nck rfl rfl (a_fld (o := 0) rfl rfl ?_))))
   refine l_own [Res.row b2 161 [.func (.func 123) #[] #[], .func (.func 125) #[] #[], .func (.func 126) #[] #[]], Res.row b3 57 (EntD.cells x), Res.row b13 TOut [sl'1_], Res.vec 5 1 sl'1_ (([] : List UInt8) ++ x.enc).length ((([] : List UInt8) ++ x.enc).map vb)] (fun w' hw => hw.splitBv (i := 2) (o := b13) (T := TOut) (v := sl'1_) (bs := (([] : List UInt8) ++ x.enc)) rfl) ?_
   refine a_ldo 2 (v := sl'1_) rfl rfl rfl rfl (l_as rfl (l_as rfl (l_end ?_)))
   exact c_ret (ret2 (v := sl'1_) (v' := Vi 0) rfl rfl rfl (fun w' hw => ⟨sl'1_, (by rw [errOf_T (Decidable.not_not.1 c1)]), by rw [if_pos (Decidable.not_not.1 c1)]; exact hw.one 3 rfl⟩))
theorem msgEntry_s (x : EntD) (w : World) (hx : x.wf) (rd_x : EntD.rd x w []) : Rets Tryz.prog 54 #[.agg (EntD.cells x).toArray] w fun u_ w' => ∃ (r : Value), u_ = .tuple #[r, Vi (errOf x.ok)] ∧ Own w [] [Res.vec 5 1 r (if x.ok then x.enc else []).length ((if x.ok then x.enc else []).map vb)] w' := by
  refine fn_own Tryz.func54 rfl Tryz.ntmps54 (Own.start w) ?_
  refine c_reg (l_box rfl rfl (fun b1 => l_as rfl (l_as rfl (l_end (c_seq (c_heldo [0] rfl (by decide) (by kernel_rfl) (fun w' hw hS => g_tk 1 rfl (w_ldr (cs := (EntD.cells x)) 0 rfl rfl) hS (g_one 0 rfl hw (a_call rfl rfl (fun w' hw => (entries_s w').mono ?_))))))))))
  rintro _ w1 ⟨rfl, hO⟩
  refine (?_ : CL _ _ _ _ _ _ (Own w [] [Res.row b1 57 (EntD.cells x)])) w1 (hw.frame0 hO)
  refine l_nilH [0] rfl (by decide) (fun w' hw hS => g_one 2 rfl hw (a_call rfl rfl (fun w' hw => (entBytes_s x w' ‹_› (rd_x.at0 hw)).mono ?_)))
  rintro _ w1 ⟨r1_, rfl, hO⟩
  refine (?_ : CL _ _ _ _ _ _ (Own w [] [Res.row b1 57 (EntD.cells x), Res.vec 5 1 r1_ (if x.ok then x.enc else []).length ((if x.ok then x.enc else []).map vb)])) w1 (hw.frame0 hO)
  refine l_nilH [0] rfl (by decide) (fun w' hw hS => g_tk 3 rfl (v_ext (vs := [r1_, Vi (errOf x.ok)]) rfl rfl) hS (g_tk 4 rfl (v_ext (vs := [r1_, Vi (errOf x.ok)]) rfl rfl) hS (g_tk 5 rfl (v_as) hS (g_tk 6 rfl (v_as) hS (g_done ?_)))))
  refine (?_ : C _ _ _ _ _ _ _ (Own w [] [Res.row b1 57 (EntD.cells x), Res.vec 5 1 r1_ (if x.ok then x.enc else []).length ((if x.ok then x.enc else []).map vb)])) _ hw
  exact c_ret (ret2 (v := r1_) (v' := Vi (errOf x.ok)) rfl rfl rfl (fun w' hw => ⟨r1_, rfl, hw.sel [1] rfl (by decide)⟩))
-- no function (*scupper/scupperref03.Out).entry
-- no function scupper/scupperref03.Entry
end Go.Proofs.YthincafbmpialaaGreat
