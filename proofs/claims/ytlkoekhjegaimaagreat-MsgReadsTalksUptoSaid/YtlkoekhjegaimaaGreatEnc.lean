/-
  THE WALKS OF the writers of entries, snapshots, terms and votes: the program's and the reference's.
-/
import Derived.Test.YtlkoekhjegaimaaGreatRefW
import Derived.Test.YtlkoekhjegaimaaGreatConfDec
set_option linter.unusedVariables false
set_option maxRecDepth 10000
namespace Go.Proofs.YtlkoekhjegaimaaGreat
open Go Go.Sc Go.Proofs

def pv (p : Value × List UInt8) : List Value := [p.1]
/-- A list of bytes in a list that is only read. -/
abbrev BsRd (p : Value × List UInt8) (w : World) (S : List Nat) : Prop := Rd w S (Res.sl p.1 p.2.length (p.2.map vb))
theorem BsRd.at0 {p : Value × List UInt8} {w0 w : World} {S : List Nat} {L : List Res} (h : BsRd p w0 S) (hw : Own w0 S L w) : BsRd p w [] := hw.rd0 h
theorem BsRd.at {p : Value × List UInt8} {w0 w : World} {S : List Nat} {L Lin : List Res} (h : BsRd p w0 S) (hw : Own w0 S L w) (m : List Nat) (hm : m.mapM (fun i => L[i]?) = some Lin) : BsRd p w (fps Lin) := hw.rdTo h m hm
def datsB (ps : List (Value × List UInt8)) : List UInt8 := ps.flatMap fun p => dat p.2

theorem putBytes_s (v : Value) (bs : List UInt8) (lv : Value) (ps : List (Value × List UInt8)) (w : World) (hb : bs.length + (datsB ps).length ≤ 100000000000) (hn : LenOk ps.length) (hv : Rd w [] (Res.sl v bs.length (bs.map vb))) (hl : Rd w [] (Res.sl lv ps.length (ps.flatMap pv))) (all_hl : ∀ p ∈ ps, BsRd p w []) : Rets Tryz.prog 95 #[v, lv] w fun u_ w' => ∃ (r : Value), u_ = r ∧ Own w [] [Res.vec 5 1 r (bs ++ datsB ps).length ((bs ++ datsB ps).map vb)] w' := by
  have hbl : bs.length ≤ 100000000000 := by omega
  refine fn_enter (args := [v, lv]) Tryz.func95 rfl Tryz.ntmps95 rfl (Own.start w) ?_
  refine c_reg ?_
  refine l_as rfl ?_
  refine l_end ?_
  refine c_reg ?_
  refine l_mv rfl ?_
  refine l_call (by kernel_rfl) rfl rfl (fun w' hw => ?_)
  refine (cloneB_s v bs w' (by first | assumption | omega | (simp <;> omega) | (constructor <;> (first | omega | (simp only [LenOk]; omega) | (simp <;> omega)))) (hw.rd0 hv)).mono ?_
  rintro r1_ w1 ⟨_, rfl, hO⟩
  refine (?_ : CL _ _ _ _ _ _ (Own w [] [Res.vec 5 1 r1_ bs.length (bs.map vb)])) w1 (hw.frame0 hO)
  refine l_as rfl ?_
  refine l_end ?_
  refine c_seq ?_
  refine c_reg ?_
  refine l_mv rfl ?_
  refine l_lenS (len := ps.length) (cs := (ps.flatMap pv)) (by kernel_rfl) rfl (fun w' hw' => Own.rd hl hw') rfl ?_
  refine l_mv rfl ?_
  refine l_end ?_
  refine c_block ?_
  refine c_loop2 (fun (k : Nat) (o : Value) => [(5, o), (10, lv), (11, .int .i64 (ps.length : Nat)), (12, .int .i64 (k : Nat))]) (fun (k : Nat) (o : Value) => k ≤ ps.length) (fun (k : Nat) (o : Value) => [Res.vec 5 1 o (bs ++ datsB (ps.take k)).length ((bs ++ datsB (ps.take k)).map vb)]) (fun (k : Nat) (o : Value) => ps.length - k) (fun w' hw => ⟨0, r1_, ⟨rfl, rfl, rfl, rfl, trivial⟩, Nat.zero_le _, by simpa [datsB] using hw⟩) (fun k o g hΦ => ?_)
  have hle := flatMap_take_le (fun p : Value × List UInt8 => dat p.2) ps (k + 1)
  refine c_reg ?_
  refine l_lss rfl rfl rfl ?_
  refine l_end ?_
  refine c_seq ?_
  refine c_dec rfl (fun c1 => ?_) (fun c1 => ?_)
  ·
    rw [take_nth (by omega), List.flatMap_append] at hle
    simp only [List.length_append, List.flatMap_cons, List.flatMap_nil, List.append_nil, dat] at hle
    have hcl : (datsB (ps.take k)).length + ((num (nth ps k).2.length).length + (nth ps k).2.length) ≤ (datsB ps).length := hle
    refine c_skipC ?_
    refine c_seq ?_
    refine c_block ?_
    refine c_reg ?_
    refine l_idxS (j := k) (sz := 1) (len := ps.length) (cs := (ps.flatMap pv)) rfl rfl (by kernel_rfl) (fun w' hw' => Own.rd hl hw') rfl (by omega) rfl ?_
    refine l_ldS (v := lv) (off := offV lv + k * 1) (k * 1 + 0) (cs := (ps.flatMap pv)) rfl (by omega) (fun w' hw' => Own.rd hl hw') (flat_at (sz := 1) (fun _ => rfl) (nth_some (by omega)) (i := 0) rfl) (by kernel_rfl) rfl ?_
    refine l_as rfl ?_
    refine l_end ?_
    refine c_last ?_
    refine l_mv rfl ?_
    refine l_mv rfl ?_
    refine l_lenS (len := ((nth ps k).2).length) (cs := (((nth ps k).2).map vb)) (by kernel_rfl) rfl (fun w' hw' => Own.rd (all_hl _ (nth_mem (by omega))) hw') rfl ?_
    refine l_cvt (by kernel_rfl) rfl (wu64 (by omega)) rfl ?_ (by kernel_rfl)
    refine l_call (by kernel_rfl) rfl rfl (fun w' hw => ?_)
    refine (putNum_s o (bs ++ datsB (ps.take k)) (((nth ps k).2).length) w' (by first | assumption | omega | (simp <;> omega) | (constructor <;> (first | omega | (simp only [LenOk]; omega) | (simp <;> omega)))) (by first | assumption | omega | (simp <;> omega) | (constructor <;> (first | omega | (simp only [LenOk]; omega) | (simp <;> omega)))) (hw.rdVec0 0 rfl)).mono ?_
    rintro r2_ w1 ⟨_, rfl, hO⟩
    refine (?_ : CL _ _ _ _ _ _ (Own w [] [Res.vec 5 1 o (bs ++ datsB (ps.take k)).length ((bs ++ datsB (ps.take k)).map vb), Res.vec 5 1 r2_ ((bs ++ datsB (ps.take k)) ++ num (((nth ps k).2).length)).length (((bs ++ datsB (ps.take k)) ++ num (((nth ps k).2).length)).map vb)])) w1 (hw.frame0 hO)
    refine l_mv rfl ?_
    refine l_appM (l := ((bs ++ datsB (ps.take k)) ++ num (((nth ps k).2).length))) (l' := (nth ps k).2) 1 (by kernel_rfl) rfl rfl rfl (fun w' hw' => Own.rd (all_hl _ (nth_mem (by omega))) hw') (by first | omega | (simp; omega)) rfl (fun v22 => ?_)
    refine l_as rfl ?_
    refine l_end ?_
    refine c_last ?_
    refine l_add rfl rfl (wi64 (by omega)) rfl ?_
    refine l_mv rfl ?_
    exact l_nil (fun w' hw => ⟨k + 1, v22, ⟨rfl, rfl, rfl, rfl, trivial⟩, (by omega), by rw [take_nth (by omega)]; have h := hw.one 1 rfl; simpa [datsB, dat] using h, (by omega)⟩)
  ·
    refine c_exitC rfl ?_
    refine c_reg ?_
    refine l_mv rfl ?_
    refine l_as rfl ?_
    refine l_end ?_
    exact c_ret (ret1 (v := o) rfl rfl (fun w' hw => ⟨o, rfl, by rw [List.take_of_length_le (by omega)] at hw; exact hw⟩))
theorem data_s (o : Nat) (sl : Value) (bs : List UInt8) (lv : Value) (ps : List (Value × List UInt8)) (w : World) (hb : bs.length + (datsB ps).length ≤ 100000000000) (hn : LenOk ps.length) (hl : Rd w (fps [Res.bv o TOut sl bs]) (Res.sl lv ps.length (ps.flatMap pv))) (all_hl : ∀ p ∈ ps, BsRd p w (fps [Res.bv o TOut sl bs])) (hin : Own w (fps [Res.bv o TOut sl bs]) [Res.bv o TOut sl bs] w) : Rets Tryz.prog 53 #[.pointer (some ⟨o, 0, none⟩), lv] w fun u_ w' => ∃ (sl' : Value), u_ = .tuple #[] ∧ Own w (fps [Res.bv o TOut sl bs]) [Res.bv o TOut sl' (bs ++ datsB ps)] w' := by
  refine fn_enter (args := [.pointer (some ⟨o, 0, none⟩), lv]) Tryz.func53 rfl Tryz.ntmps53 rfl (show Own w (fps [Res.bv o TOut sl bs]) [Res.bv o TOut sl bs] w from hin) ?_
  refine c_last ?_
  refine l_mv rfl ?_
  refine l_mv rfl ?_
  refine l_nck rfl rfl ?_
  refine l_fld (o := 0) rfl (by kernel_rfl) rfl ?_
  refine l_own [Res.row o TOut [sl], Res.vec 5 1 sl bs.length (bs.map vb)] (fun w' hw => hw.splitBv (i := 0) (o := o) (T := TOut) (v := sl) (bs := bs) rfl) ?_
  refine l_ldo 0 (v := sl) rfl rfl rfl (by kernel_rfl) rfl ?_
  refine l_mv rfl ?_
  refine l_call (by kernel_rfl) rfl rfl (fun w' hw => ?_)
  refine (putBytes_s sl bs lv ps w' (by first | assumption | omega | (simp <;> omega) | (constructor <;> (first | omega | (simp only [LenOk]; omega) | (simp <;> omega)))) (by first | assumption | omega | (simp <;> omega) | (constructor <;> (first | omega | (simp only [LenOk]; omega) | (simp <;> omega)))) (hw.rdVec0 1 rfl) (hw.rd0 hl) (fun p hp => BsRd.at0 (all_hl p hp) hw)).mono ?_
  rintro r1_ w1 ⟨_, rfl, hO⟩
  refine (?_ : CL _ _ _ _ _ _ (Own w (fps [Res.bv o TOut sl bs]) [Res.row o TOut [sl], Res.vec 5 1 sl bs.length (bs.map vb), Res.vec 5 1 r1_ (bs ++ datsB ps).length ((bs ++ datsB ps).map vb)])) w1 (hw.frame0 hO)
  refine l_nck rfl rfl ?_
  refine l_fld (o := 0) rfl (by kernel_rfl) rfl ?_
  refine l_haveO (fun w' hw => Own.cell1Vec (i := 2) rfl hw) (fun hc1_ => ?_)
  refine l_st (cs := [sl]) 0 rfl rfl rfl (by kernel_rfl) hc1_ (Nat.le_of_ble_eq_true rfl) ?_
  exact l_nil (ret0 rfl (fun w' hw => ⟨r1_, rfl, (hw.joinBv (i := 0) (j := 2) (o := o) (T := TOut) (v := r1_) (bs := bs ++ datsB ps) (by decide) rfl rfl).one 0 rfl⟩))

structure EntA where
  index : Nat
  term : Nat
  kind : Int
  delta : Int
  data : List UInt8
  deriving DecidableEq, Inhabited
structure EntD extends EntA where
  dv : Value
  deriving Inhabited
structure EntA.wf (x : EntA) : Prop where
  index : x.index < 18446744073709551616
  term : x.term < 18446744073709551616
  data : x.data.length ≤ 1000000000
def EntD.cells (x : EntD) : List Value := [.int .u64 x.index, .int .u64 x.term, .int .i64 x.kind, .int .i64 x.delta, x.dv]
structure EntD.rd (x : EntD) (w : World) (S : List Nat) : Prop where
  dv : Rd w S (Res.sl x.dv x.data.length (x.data.map vb))
theorem EntD.rd.at0 {x : EntD} {w0 w : World} {S : List Nat} {L : List Res} (h : x.rd w0 S) (hw : Own w0 S L w) : x.rd w [] := ⟨hw.rd0 h.dv⟩
theorem EntD.rd.at {x : EntD} {w0 w : World} {S : List Nat} {L Lin : List Res} (h : x.rd w0 S) (hw : Own w0 S L w) (m : List Nat) (hm : m.mapM (fun i => L[i]?) = some Lin) : x.rd w (fps Lin) := ⟨hw.rdTo h.dv m hm⟩
def EntD.dres (x : EntD) : Res := Res.vec 5 1 x.dv x.data.length (x.data.map vb)
theorem EntD.dres_rd {x : EntD} {w : World} {S : List Nat} (h : Rd w S x.dres) : x.rd w S := ⟨h.sub Vec.sl blkS_sub⟩
theorem EntD.rd.star0 {es : List EntD} {w0 w : World} {S : List Nat} {L : List Res} (j : Nat) (hL : L[j]? = some (Res.star (es.map EntD.dres))) (h : Own w0 S L w) : ∀ p ∈ es, p.rd w [] := fun p hp => EntD.dres_rd (h.star0 j hL _ (List.mem_map_of_mem hp))
theorem EntD.rd.star {es : List EntD} {w0 w : World} {S : List Nat} {L Lin : List Res} (j : Nat) (hL : L[j]? = some (Res.star (es.map EntD.dres))) (m : List Nat) (hm : m.mapM (fun i => L[i]?) = some Lin) (hj : m.any (Nat.beq j) = false) (h : Own w0 S L w) : ∀ p ∈ es, p.rd w (fps Lin) := fun p hp => EntD.dres_rd (h.star j hL m hm hj _ (List.mem_map_of_mem hp))
def EntA.ok (x : EntA) : Prop := ((1 ≤ x.index ∧ 1 ≤ x.term) ∧ (x.index ≤ 4611686018427387904 ∧ x.term ≤ 4611686018427387904) ∧ (0 ≤ x.delta ∧ x.delta ≤ 1099511627776) ∧ x.data.length ≤ 4096) ∧
  if x.kind = 1 then x.data.length = 0 else if x.kind = 3 then (decConf x.data).isSome = true else x.kind = 2
instance (x : EntA) : Decidable x.ok := by unfold EntA.ok; infer_instance
def EntA.enc (x : EntA) : List UInt8 := numsB [x.index, x.term, u64 x.kind, u64 x.delta] ++ dat x.data
theorem EntA.enc_le {x : EntA} (h : x.wf) : x.enc.length ≤ x.data.length + 60 := by
  have h1 := numsB_length (ns := [x.index, x.term, u64 x.kind, u64 x.delta]) (by have := h.index; have := h.term; simp [u64_lt, *])
  have h2 := dat_length x.data (by have := h.data; omega)
  simp only [EntA.enc, List.length_append, List.length_cons, List.length_nil] at *
  omega
theorem ValPost.iff {α : Type} {d : Option α} {x z : α} {e : Int} (h : ValPost d x z e) : e = 0 ↔ d.isSome = true := by
  rcases h with ⟨rfl, h⟩ | ⟨rfl, h, _⟩ <;> simp [h]
theorem RefPost.iff {α : Type} {d : Option α} {x : α} {f : Bool} (h : RefPost d x f) : f = true ↔ d.isSome = true := by
  cases f with
  | true => simp [h.yes rfl]
  | false => simp [h.no rfl]

theorem entSound_s (x : EntD) (w : World) (hx : x.wf) (rd_x : EntD.rd x w []) : Rets Tryz.prog 89 #[.agg (EntD.cells x).toArray] w fun u_ w' => u_ = .bool (decide x.ok) ∧ Own w [] [] w' := by
  have hd := hx.data
  have h1 := hx.index
  have h2 := hx.term
  refine fn_enter (args := [.agg (EntD.cells x).toArray]) Tryz.func89 rfl Tryz.ntmps89 rfl (Own.start w) ?_
  refine c_reg ?_
  refine l_box rfl rfl (fun b1 => ?_)
  refine l_as rfl ?_
  refine l_end ?_
  refine c_seq ?_
  refine c_reg ?_
  refine l_fld (o := 0) rfl (by kernel_rfl) rfl ?_
  refine l_ldo 0 (v := .int .u64 (x.index : Nat)) rfl rfl rfl (by kernel_rfl) rfl ?_
  refine l_lss rfl rfl rfl ?_
  refine l_mv rfl ?_
  refine l_bor (q := ((x.index : Nat) : Int) < ((1 : Nat) : Int)) 3 3 [11, 10, 9] (((x.term : Nat) : Int) < ((1 : Nat) : Int)) rfl rfl rfl rfl rfl rfl trivial rfl (fun h1_3 => ?_) (fun g1_7 => ?_)
  ·
    refine l_on rfl (gF h1_3) ?_
    refine l_fld (o := 1) rfl (by kernel_rfl) rfl ?_
    refine l_on rfl (gF h1_3) ?_
    refine l_ldo 0 (v := .int .u64 (x.term : Nat)) rfl rfl rfl (by kernel_rfl) rfl ?_
    refine l_on rfl (gF h1_3) ?_
    refine l_lss rfl rfl rfl ?_
    exact l_nil (fun w' hw => ⟨(by repeat (first | exact Out.refl _ _ | refine Out.upd rfl ?_ | refine Out.msk rfl ?_)), rfl, hw⟩)
  refine l_mv rfl ?_
  refine l_bor (q := (((x.index : Nat) : Int) < ((1 : Nat) : Int)) ∨ (((x.term : Nat) : Int) < ((1 : Nat) : Int))) 6 8 [19, 18, 17, 16, 15, 14] (((4611686018427387904 : Nat) : Int) < ((max x.index x.term : Nat) : Int)) rfl rfl rfl rfl rfl rfl trivial rfl (fun h1_8 => ?_) (fun g1_15 => ?_)
  ·
    refine l_on rfl (gF h1_8) ?_
    refine l_fld (o := 0) rfl (by kernel_rfl) rfl ?_
    refine l_on rfl (gF h1_8) ?_
    refine l_ldo 0 (v := .int .u64 (x.index : Nat)) rfl rfl rfl (by kernel_rfl) rfl ?_
    refine l_on rfl (gF h1_8) ?_
    refine l_fld (o := 1) rfl (by kernel_rfl) rfl ?_
    refine l_on rfl (gF h1_8) ?_
    refine l_ldo 0 (v := .int .u64 (x.term : Nat)) rfl rfl rfl (by kernel_rfl) rfl ?_
    refine l_on rfl (gF h1_8) ?_
    refine l_max (c := ((max x.index x.term : Nat) : Int)) rfl rfl (maxc _ _) rfl ?_
    refine l_on rfl (gF h1_8) ?_
    refine l_gtr rfl rfl rfl ?_
    exact l_nil (fun w' hw => ⟨(by repeat (first | exact Out.refl _ _ | refine Out.upd rfl ?_ | refine Out.msk rfl ?_)), rfl, hw⟩)
  refine l_mv rfl ?_
  refine l_bor (q := ((((x.index : Nat) : Int) < ((1 : Nat) : Int)) ∨ (((x.term : Nat) : Int) < ((1 : Nat) : Int))) ∨ (((4611686018427387904 : Nat) : Int) < ((max x.index x.term : Nat) : Int))) 3 16 [24, 23, 22] (x.delta < 0) rfl rfl rfl rfl rfl rfl trivial rfl (fun h1_16 => ?_) (fun g1_20 => ?_)
  ·
    refine l_on rfl (gF h1_16) ?_
    refine l_fld (o := 3) rfl (by kernel_rfl) rfl ?_
    refine l_on rfl (gF h1_16) ?_
    refine l_ldo 0 (v := .int .i64 x.delta) rfl rfl rfl (by kernel_rfl) rfl ?_
    refine l_on rfl (gF h1_16) ?_
    refine l_lss rfl rfl rfl ?_
    exact l_nil (fun w' hw => ⟨(by repeat (first | exact Out.refl _ _ | refine Out.upd rfl ?_ | refine Out.msk rfl ?_)), rfl, hw⟩)
  refine l_mv rfl ?_
  refine l_bor (q := (((((x.index : Nat) : Int) < ((1 : Nat) : Int)) ∨ (((x.term : Nat) : Int) < ((1 : Nat) : Int))) ∨ (((4611686018427387904 : Nat) : Int) < ((max x.index x.term : Nat) : Int))) ∨ (x.delta < 0)) 3 21 [29, 28, 27] (1099511627776 < x.delta) rfl rfl rfl rfl rfl rfl trivial rfl (fun h1_21 => ?_) (fun g1_25 => ?_)
  ·
    refine l_on rfl (gF h1_21) ?_
    refine l_fld (o := 3) rfl (by kernel_rfl) rfl ?_
    refine l_on rfl (gF h1_21) ?_
    refine l_ldo 0 (v := .int .i64 x.delta) rfl rfl rfl (by kernel_rfl) rfl ?_
    refine l_on rfl (gF h1_21) ?_
    refine l_gtr rfl rfl rfl ?_
    exact l_nil (fun w' hw => ⟨(by repeat (first | exact Out.refl _ _ | refine Out.upd rfl ?_ | refine Out.msk rfl ?_)), rfl, hw⟩)
  refine l_mv rfl ?_
  refine l_bor (q := ((((((x.index : Nat) : Int) < ((1 : Nat) : Int)) ∨ (((x.term : Nat) : Int) < ((1 : Nat) : Int))) ∨ (((4611686018427387904 : Nat) : Int) < ((max x.index x.term : Nat) : Int))) ∨ (x.delta < 0)) ∨ (1099511627776 < x.delta)) 4 26 [35, 34, 33, 32] (4096 < ((x.data.length : Nat) : Int)) rfl rfl rfl rfl rfl rfl trivial rfl (fun h1_26 => ?_) (fun g1_31 => ?_)
  ·
    refine l_on rfl (gF h1_26) ?_
    refine l_fld (o := 4) rfl (by kernel_rfl) rfl ?_
    refine l_on rfl (gF h1_26) ?_
    refine l_ldo 0 (v := x.dv) rfl rfl rfl (by kernel_rfl) rfl ?_
    refine l_on rfl (gF h1_26) ?_
    refine l_lenS (len := x.data.length) (cs := (x.data.map vb)) (by kernel_rfl) rfl (fun w' hw' => Own.rd rd_x.dv hw') rfl ?_
    refine l_on rfl (gF h1_26) ?_
    refine l_gtr rfl rfl rfl ?_
    exact l_nil (fun w' hw => ⟨(by repeat (first | exact Out.refl _ _ | refine Out.upd rfl ?_ | refine Out.msk rfl ?_)), rfl, hw⟩)
  refine l_end ?_
  refine c_dec rfl (fun c1 => ?_) (fun c1 => ?_)
  ·
    refine c_reg ?_
    refine l_as rfl ?_
    refine l_end ?_
    exact c_ret (ret1 (v := .bool false) rfl rfl (fun w' hw => ⟨(by rw [decide_eq_false]; rintro ⟨h, _⟩; omega), hw.drop⟩))
  ·
    refine c_skipC ?_
    refine c_seq ?_
    refine c_reg ?_
    refine l_fld (o := 2) rfl (by kernel_rfl) rfl ?_
    refine l_ldo 0 (v := .int .i64 x.kind) rfl rfl rfl (by kernel_rfl) rfl ?_
    refine l_end ?_
    refine c_block ?_
    refine c_reg ?_
    refine l_eq rfl rfl rfl ?_
    refine l_as rfl ?_
    refine l_end ?_
    refine c_dec rfl (fun c2 => ?_) (fun c2 => ?_)
    ·
      refine c_reg ?_
      refine l_fld (o := 4) rfl (by kernel_rfl) rfl ?_
      refine l_ldo 0 (v := x.dv) rfl rfl rfl (by kernel_rfl) rfl ?_
      refine l_lenS (len := x.data.length) (cs := (x.data.map vb)) (by kernel_rfl) rfl (fun w' hw' => Own.rd rd_x.dv hw') rfl ?_
      refine l_eq rfl rfl rfl ?_
      refine l_as rfl ?_
      refine l_end ?_
      exact c_ret (ret1 (v := .bool (decide (((x.data.length : Nat) : Int) = 0))) rfl rfl (fun w' hw => ⟨(by congr 1; exact decide_eq_decide.2 (by unfold EntA.ok; rw [if_pos c2]; exact ⟨fun h => ⟨by omega, by omega⟩, fun h => by have := h.2; omega⟩)), hw.drop⟩))
    ·
      refine c_reg ?_
      refine l_eq rfl rfl rfl ?_
      refine l_as rfl ?_
      refine l_end ?_
      refine c_dec rfl (fun c3 => ?_) (fun c3 => ?_)
      ·
        refine c_reg ?_
        refine l_fld (o := 4) rfl (by kernel_rfl) rfl ?_
        refine l_ldo 0 (v := x.dv) rfl rfl rfl (by kernel_rfl) rfl ?_
        refine l_call (by kernel_rfl) rfl rfl (fun w' hw => ?_)
        refine (toConf_s x.dv x.data w' (by first | assumption | omega | (simp <;> omega) | (constructor <;> (first | omega | (simp only [LenOk]; omega) | (simp <;> omega)))) (hw.rd0 rd_x.dv)).mono ?_
        rintro _ w1 ⟨r11_, l12_, r23_, l24_, e5_, rfl, hf7_2, hf7_2_1, hf7_2_2, hO⟩
        refine (?_ : CL _ _ _ _ _ _ (Own w [] [Res.row b1 75 (EntD.cells x), Res.vec 3 1 r11_ l12_.length (l12_.flatMap I1), Res.vec 3 1 r23_ l24_.length (l24_.flatMap I1)])) w1 (hw.frame0 hO)
        refine l_mv rfl ?_
        refine l_ext (vs := [.agg #[r11_, r23_], .int .i64 e5_]) rfl rfl rfl ?_
        refine l_ext (vs := [.agg #[r11_, r23_], .int .i64 e5_]) rfl rfl rfl ?_
        refine l_new (v := .agg #[.slice none 0 0, .slice none 0 0]) (by kernel_rfl) rfl (fun b3 => ?_)
        refine l_haveO (fun w' hw => Own.cell1Vec (i := 1) rfl hw) (fun hc1_ => ?_)
        refine l_haveO (fun w' hw => Own.cell1Vec (i := 2) rfl hw) (fun hc2_ => ?_)
        refine l_stN (cs := [.slice none 0 0, .slice none 0 0]) (vs := [r11_, r23_]) 3 rfl rfl rfl (by kernel_rfl) (allc_cons hc1_ (allc_cons hc2_ allc_nil)) (Nat.le_of_ble_eq_true rfl) ?_
        refine l_as rfl ?_
        refine l_end ?_
        refine c_reg ?_
        refine l_mv rfl ?_
        refine l_eq rfl rfl rfl ?_
        refine l_as rfl ?_
        refine l_end ?_
        exact c_ret (ret1 (v := .bool (decide (e5_ = 0))) rfl rfl (fun w' hw => ⟨(by congr 1; exact decide_eq_decide.2 (by unfold EntA.ok; rw [if_neg c2, if_pos c3, ← hf7_2.iff]; exact ⟨fun h => ⟨by omega, h⟩, fun h => h.2⟩)), hw.drop⟩))
      ·
        refine c_skipC ?_
        refine c_reg ?_
        refine l_fld (o := 2) rfl (by kernel_rfl) rfl ?_
        refine l_ldo 0 (v := .int .i64 x.kind) rfl rfl rfl (by kernel_rfl) rfl ?_
        refine l_eq rfl rfl rfl ?_
        refine l_as rfl ?_
        refine l_end ?_
        exact c_ret (ret1 (v := .bool (decide (x.kind = 2))) rfl rfl (fun w' hw => ⟨(by congr 1; exact decide_eq_decide.2 (by unfold EntA.ok; rw [if_neg c2, if_neg c3]; exact ⟨fun h => ⟨by omega, h⟩, fun h => h.2⟩)), hw.drop⟩))
theorem rentOK_s (x : EntD) (w : World) (hx : x.wf) (rd_x : EntD.rd x w []) : Rets Tryz.prog 63 #[.agg (EntD.cells x).toArray] w fun u_ w' => u_ = .bool (decide x.ok) ∧ Own w [] [] w' := by
  have hd := hx.data
  have h1 := hx.index
  have h2 := hx.term
  refine fn_enter (args := [.agg (EntD.cells x).toArray]) Tryz.func63 rfl Tryz.ntmps63 rfl (Own.start w) ?_
  refine c_reg ?_
  refine l_box rfl rfl (fun b1 => ?_)
  refine l_as rfl ?_
  refine l_end ?_
  refine c_seq ?_
  refine c_reg ?_
  refine l_fld (o := 0) rfl (by kernel_rfl) rfl ?_
  refine l_ldo 0 (v := .int .u64 (x.index : Nat)) rfl rfl rfl (by kernel_rfl) rfl ?_
  refine l_lss rfl rfl rfl ?_
  refine l_mv rfl ?_
  refine l_bor (q := ((x.index : Nat) : Int) < ((1 : Nat) : Int)) 3 3 [11, 10, 9] (((4611686018427387904 : Nat) : Int) < ((x.index : Nat) : Int)) rfl rfl rfl rfl rfl rfl trivial rfl (fun h1_3 => ?_) (fun g1_7 => ?_)
  ·
    refine l_on rfl (gF h1_3) ?_
    refine l_fld (o := 0) rfl (by kernel_rfl) rfl ?_
    refine l_on rfl (gF h1_3) ?_
    refine l_ldo 0 (v := .int .u64 (x.index : Nat)) rfl rfl rfl (by kernel_rfl) rfl ?_
    refine l_on rfl (gF h1_3) ?_
    refine l_gtr rfl rfl rfl ?_
    exact l_nil (fun w' hw => ⟨(by repeat (first | exact Out.refl _ _ | refine Out.upd rfl ?_ | refine Out.msk rfl ?_)), rfl, hw⟩)
  refine l_mv rfl ?_
  refine l_bor (q := (((x.index : Nat) : Int) < ((1 : Nat) : Int)) ∨ (((4611686018427387904 : Nat) : Int) < ((x.index : Nat) : Int))) 3 8 [16, 15, 14] (((x.term : Nat) : Int) < ((1 : Nat) : Int)) rfl rfl rfl rfl rfl rfl trivial rfl (fun h1_8 => ?_) (fun g1_12 => ?_)
  ·
    refine l_on rfl (gF h1_8) ?_
    refine l_fld (o := 1) rfl (by kernel_rfl) rfl ?_
    refine l_on rfl (gF h1_8) ?_
    refine l_ldo 0 (v := .int .u64 (x.term : Nat)) rfl rfl rfl (by kernel_rfl) rfl ?_
    refine l_on rfl (gF h1_8) ?_
    refine l_lss rfl rfl rfl ?_
    exact l_nil (fun w' hw => ⟨(by repeat (first | exact Out.refl _ _ | refine Out.upd rfl ?_ | refine Out.msk rfl ?_)), rfl, hw⟩)
  refine l_mv rfl ?_
  refine l_bor (q := ((((x.index : Nat) : Int) < ((1 : Nat) : Int)) ∨ (((4611686018427387904 : Nat) : Int) < ((x.index : Nat) : Int))) ∨ (((x.term : Nat) : Int) < ((1 : Nat) : Int))) 3 13 [21, 20, 19] (((4611686018427387904 : Nat) : Int) < ((x.term : Nat) : Int)) rfl rfl rfl rfl rfl rfl trivial rfl (fun h1_13 => ?_) (fun g1_17 => ?_)
  ·
    refine l_on rfl (gF h1_13) ?_
    refine l_fld (o := 1) rfl (by kernel_rfl) rfl ?_
    refine l_on rfl (gF h1_13) ?_
    refine l_ldo 0 (v := .int .u64 (x.term : Nat)) rfl rfl rfl (by kernel_rfl) rfl ?_
    refine l_on rfl (gF h1_13) ?_
    refine l_gtr rfl rfl rfl ?_
    exact l_nil (fun w' hw => ⟨(by repeat (first | exact Out.refl _ _ | refine Out.upd rfl ?_ | refine Out.msk rfl ?_)), rfl, hw⟩)
  refine l_mv rfl ?_
  refine l_bor (q := (((((x.index : Nat) : Int) < ((1 : Nat) : Int)) ∨ (((4611686018427387904 : Nat) : Int) < ((x.index : Nat) : Int))) ∨ (((x.term : Nat) : Int) < ((1 : Nat) : Int))) ∨ (((4611686018427387904 : Nat) : Int) < ((x.term : Nat) : Int))) 3 18 [26, 25, 24] (x.delta < 0) rfl rfl rfl rfl rfl rfl trivial rfl (fun h1_18 => ?_) (fun g1_22 => ?_)
  ·
    refine l_on rfl (gF h1_18) ?_
    refine l_fld (o := 3) rfl (by kernel_rfl) rfl ?_
    refine l_on rfl (gF h1_18) ?_
    refine l_ldo 0 (v := .int .i64 x.delta) rfl rfl rfl (by kernel_rfl) rfl ?_
    refine l_on rfl (gF h1_18) ?_
    refine l_lss rfl rfl rfl ?_
    exact l_nil (fun w' hw => ⟨(by repeat (first | exact Out.refl _ _ | refine Out.upd rfl ?_ | refine Out.msk rfl ?_)), rfl, hw⟩)
  refine l_mv rfl ?_
  refine l_bor (q := ((((((x.index : Nat) : Int) < ((1 : Nat) : Int)) ∨ (((4611686018427387904 : Nat) : Int) < ((x.index : Nat) : Int))) ∨ (((x.term : Nat) : Int) < ((1 : Nat) : Int))) ∨ (((4611686018427387904 : Nat) : Int) < ((x.term : Nat) : Int))) ∨ (x.delta < 0)) 3 23 [31, 30, 29] (1099511627776 < x.delta) rfl rfl rfl rfl rfl rfl trivial rfl (fun h1_23 => ?_) (fun g1_27 => ?_)
  ·
    refine l_on rfl (gF h1_23) ?_
    refine l_fld (o := 3) rfl (by kernel_rfl) rfl ?_
    refine l_on rfl (gF h1_23) ?_
    refine l_ldo 0 (v := .int .i64 x.delta) rfl rfl rfl (by kernel_rfl) rfl ?_
    refine l_on rfl (gF h1_23) ?_
    refine l_gtr rfl rfl rfl ?_
    exact l_nil (fun w' hw => ⟨(by repeat (first | exact Out.refl _ _ | refine Out.upd rfl ?_ | refine Out.msk rfl ?_)), rfl, hw⟩)
  refine l_mv rfl ?_
  refine l_bor (q := (((((((x.index : Nat) : Int) < ((1 : Nat) : Int)) ∨ (((4611686018427387904 : Nat) : Int) < ((x.index : Nat) : Int))) ∨ (((x.term : Nat) : Int) < ((1 : Nat) : Int))) ∨ (((4611686018427387904 : Nat) : Int) < ((x.term : Nat) : Int))) ∨ (x.delta < 0)) ∨ (1099511627776 < x.delta)) 4 28 [37, 36, 35, 34] (4096 < ((x.data.length : Nat) : Int)) rfl rfl rfl rfl rfl rfl trivial rfl (fun h1_28 => ?_) (fun g1_33 => ?_)
  ·
    refine l_on rfl (gF h1_28) ?_
    refine l_fld (o := 4) rfl (by kernel_rfl) rfl ?_
    refine l_on rfl (gF h1_28) ?_
    refine l_ldo 0 (v := x.dv) rfl rfl rfl (by kernel_rfl) rfl ?_
    refine l_on rfl (gF h1_28) ?_
    refine l_lenS (len := x.data.length) (cs := (x.data.map vb)) (by kernel_rfl) rfl (fun w' hw' => Own.rd rd_x.dv hw') rfl ?_
    refine l_on rfl (gF h1_28) ?_
    refine l_gtr rfl rfl rfl ?_
    exact l_nil (fun w' hw => ⟨(by repeat (first | exact Out.refl _ _ | refine Out.upd rfl ?_ | refine Out.msk rfl ?_)), rfl, hw⟩)
  refine l_end ?_
  refine c_dec rfl (fun c1 => ?_) (fun c1 => ?_)
  ·
    refine c_reg ?_
    refine l_as rfl ?_
    refine l_end ?_
    exact c_ret (ret1 (v := .bool false) rfl rfl (fun w' hw => ⟨(by rw [decide_eq_false]; rintro ⟨h, _⟩; omega), hw.drop⟩))
  ·
    refine c_skipC ?_
    refine c_seq ?_
    refine c_reg ?_
    refine l_fld (o := 2) rfl (by kernel_rfl) rfl ?_
    refine l_ldo 0 (v := .int .i64 x.kind) rfl rfl rfl (by kernel_rfl) rfl ?_
    refine l_eq rfl rfl rfl ?_
    refine l_end ?_
    refine c_dec rfl (fun c2 => ?_) (fun c2 => ?_)
    ·
      refine c_reg ?_
      refine l_fld (o := 4) rfl (by kernel_rfl) rfl ?_
      refine l_ldo 0 (v := x.dv) rfl rfl rfl (by kernel_rfl) rfl ?_
      refine l_lenS (len := x.data.length) (cs := (x.data.map vb)) (by kernel_rfl) rfl (fun w' hw' => Own.rd rd_x.dv hw') rfl ?_
      refine l_eq rfl rfl rfl ?_
      refine l_as rfl ?_
      refine l_end ?_
      exact c_ret (ret1 (v := .bool (decide (((x.data.length : Nat) : Int) = 0))) rfl rfl (fun w' hw => ⟨(by congr 1; exact decide_eq_decide.2 (by unfold EntA.ok; rw [if_pos c2]; exact ⟨fun h => ⟨by omega, by omega⟩, fun h => by have := h.2; omega⟩)), hw.drop⟩))
    ·
      refine c_skipC ?_
      refine c_seq ?_
      refine c_reg ?_
      refine l_fld (o := 2) rfl (by kernel_rfl) rfl ?_
      refine l_ldo 0 (v := .int .i64 x.kind) rfl rfl rfl (by kernel_rfl) rfl ?_
      refine l_eq rfl rfl rfl ?_
      refine l_end ?_
      refine c_dec rfl (fun c3 => ?_) (fun c3 => ?_)
      ·
        refine c_reg ?_
        refine l_fld (o := 4) rfl (by kernel_rfl) rfl ?_
        refine l_ldo 0 (v := x.dv) rfl rfl rfl (by kernel_rfl) rfl ?_
        refine l_call (by kernel_rfl) rfl rfl (fun w' hw => ?_)
        refine (rtoConf_s x.dv x.data w' (by first | assumption | omega | (simp <;> omega) | (constructor <;> (first | omega | (simp only [LenOk]; omega) | (simp <;> omega)))) (hw.rd0 rd_x.dv)).mono ?_
        rintro _ w1 ⟨r11_, l12_, r23_, l24_, f5_, rfl, hf6_2, hf6_2_1, hf6_2_2, hO⟩
        refine (?_ : CL _ _ _ _ _ _ (Own w [] [Res.row b1 75 (EntD.cells x), Res.vec 3 1 r11_ l12_.length (l12_.flatMap I1), Res.vec 3 1 r23_ l24_.length (l24_.flatMap I1)])) w1 (hw.frame0 hO)
        refine l_mv rfl ?_
        refine l_ext (vs := [.agg #[r11_, r23_], .bool f5_]) rfl rfl rfl ?_
        refine l_ext (vs := [.agg #[r11_, r23_], .bool f5_]) rfl rfl rfl ?_
        refine l_new (v := .agg #[.slice none 0 0, .slice none 0 0]) (by kernel_rfl) rfl (fun b3 => ?_)
        refine l_haveO (fun w' hw => Own.cell1Vec (i := 1) rfl hw) (fun hc1_ => ?_)
        refine l_haveO (fun w' hw => Own.cell1Vec (i := 2) rfl hw) (fun hc2_ => ?_)
        refine l_stN (cs := [.slice none 0 0, .slice none 0 0]) (vs := [r11_, r23_]) 3 rfl rfl rfl (by kernel_rfl) (allc_cons hc1_ (allc_cons hc2_ allc_nil)) (Nat.le_of_ble_eq_true rfl) ?_
        refine l_as rfl ?_
        refine l_end ?_
        refine c_reg ?_
        refine l_mv rfl ?_
        refine l_as rfl ?_
        refine l_end ?_
        exact c_ret (ret1 (v := .bool f5_) rfl rfl (fun w' hw => ⟨(bool_iff (by unfold EntA.ok; rw [if_neg c2, if_pos c3, ← hf6_2.iff]; exact ⟨fun h => ⟨by omega, h⟩, fun h => h.2⟩)), hw.drop⟩))
      ·
        refine c_skipC ?_
        refine c_reg ?_
        refine l_fld (o := 2) rfl (by kernel_rfl) rfl ?_
        refine l_ldo 0 (v := .int .i64 x.kind) rfl rfl rfl (by kernel_rfl) rfl ?_
        refine l_eq rfl rfl rfl ?_
        refine l_as rfl ?_
        refine l_end ?_
        exact c_ret (ret1 (v := .bool (decide (x.kind = 2))) rfl rfl (fun w' hw => ⟨(by congr 1; exact decide_eq_decide.2 (by unfold EntA.ok; rw [if_neg c2, if_neg c3]; exact ⟨fun h => ⟨by omega, h⟩, fun h => h.2⟩)), hw.drop⟩))

theorem entWrite_s (o : Nat) (sl : Value) (bs : List UInt8) (x : EntD) (w : World) (hx : x.wf) (hb : bs.length + x.enc.length ≤ 10000000000) (rd_x : EntD.rd x w (fps [Res.bv o TOut sl bs])) (hin : Own w (fps [Res.bv o TOut sl bs]) [Res.bv o TOut sl bs] w) : Rets Tryz.prog 91 #[.pointer (some ⟨o, 0, none⟩), .agg (EntD.cells x).toArray] w fun u_ w' => ∃ (sl' : Value), u_ = .tuple #[] ∧ Own w (fps [Res.bv o TOut sl bs]) [Res.bv o TOut sl' (bs ++ x.enc)] w' := by
  have hd := hx.data
  have h1 := hx.index
  have h2 := hx.term
  have he : x.enc.length = (numsB [x.index, x.term, u64 x.kind, u64 x.delta]).length + (dat x.data).length := by simp [EntA.enc]
  refine fn_enter (args := [.pointer (some ⟨o, 0, none⟩), .agg (EntD.cells x).toArray]) Tryz.func91 rfl Tryz.ntmps91 rfl (show Own w (fps [Res.bv o TOut sl bs]) [Res.bv o TOut sl bs] w from hin) ?_
  refine c_reg ?_
  refine l_box rfl rfl (fun b3 => ?_)
  refine l_end ?_
  refine c_reg ?_
  refine l_mv rfl ?_
  refine l_fld (o := 0) rfl (by kernel_rfl) rfl ?_
  refine l_ldo 1 (v := .int .u64 (x.index : Nat)) rfl rfl rfl (by kernel_rfl) rfl ?_
  refine l_fld (o := 1) rfl (by kernel_rfl) rfl ?_
  refine l_ldo 1 (v := .int .u64 (x.term : Nat)) rfl rfl rfl (by kernel_rfl) rfl ?_
  refine l_fld (o := 2) rfl (by kernel_rfl) rfl ?_
  refine l_ldo 1 (v := .int .i64 x.kind) rfl rfl rfl (by kernel_rfl) rfl ?_
  refine l_cvt (by kernel_rfl) rfl (wrap_u64 _) rfl ?_ (by kernel_rfl)
  refine l_fld (o := 3) rfl (by kernel_rfl) rfl ?_
  refine l_ldo 1 (v := .int .i64 x.delta) rfl rfl rfl (by kernel_rfl) rfl ?_
  refine l_cvt (by kernel_rfl) rfl (wrap_u64 _) rfl ?_ (by kernel_rfl)
  refine l_bsl (e := 23) (sz := 1) (vs := [.int .u64 (x.index : Nat), .int .u64 (x.term : Nat), .int .u64 (u64 x.kind : Nat), .int .u64 (u64 x.delta : Nat)]) (by kernel_rfl) rfl rfl (by simp [Value.cells]) (by decide) rfl (fun b15 => ?_)
  refine l_call (by kernel_rfl) rfl rfl (fun w' hw => ?_)
  refine (nums_s o _ _ (.slice (some ⟨b15, 0, none⟩) 4 4) [x.index, x.term, u64 x.kind, u64 x.delta] w' (by first | assumption | (simp [u64_lt]; done) | (simp [u64_lt]; omega) | (simp; omega)) (by first | assumption | omega | (simp <;> omega) | (constructor <;> (first | omega | (simp only [LenOk]; omega) | (simp <;> omega)))) (hw.rdVec 2 rfl [0] rfl rfl) (hw.give [0] rfl (by decide))).mono ?_
  rintro _ w1 ⟨sl'1_, rfl, hO⟩
  refine (?_ : CL _ _ _ _ _ _ (Own w (fps [Res.bv o TOut sl bs]) [Res.row b3 75 (EntD.cells x), Res.vec 23 1 (.slice (some ⟨b15, 0, none⟩) 4 4) [x.index, x.term, u64 x.kind, u64 x.delta].length ([x.index, x.term, u64 x.kind, u64 x.delta].flatMap U1), Res.bv o TOut sl'1_ (bs ++ numsB [x.index, x.term, u64 x.kind, u64 x.delta])])) w1 (hw.frameL [0] rfl hO)
  refine l_end ?_
  refine c_last ?_
  refine l_mv rfl ?_
  refine l_fld (o := 4) rfl (by kernel_rfl) rfl ?_
  refine l_ldo 0 (v := x.dv) rfl rfl rfl (by kernel_rfl) rfl ?_
  refine l_bsl1 (e := 22) (vs := [x.dv]) (by kernel_rfl) rfl rfl (allc_cons (Sl.cell1 (Rd.φ rd_x.dv)) allc_nil) (by decide) rfl (fun b20 => ?_)
  refine l_call (by kernel_rfl) rfl rfl (fun w' hw => ?_)
  refine (data_s o sl'1_ (bs ++ numsB [x.index, x.term, u64 x.kind, u64 x.delta]) (.slice (some ⟨b20, 0, none⟩) 1 1) [(x.dv, x.data)] w' (by simp [datsB]; omega) (by show 1 ≤ _; omega) (hw.rdVec 3 rfl [2] rfl rfl) (all_cons (hw.rdTo rd_x.dv [2] rfl) (fun p hp => by cases hp)) (hw.give [2] rfl (by decide))).mono ?_
  rintro _ w1 ⟨sl'2_, rfl, hO⟩
  refine (?_ : CL _ _ _ _ _ _ (Own w (fps [Res.bv o TOut sl bs]) [Res.row b3 75 (EntD.cells x), Res.vec 23 1 (.slice (some ⟨b15, 0, none⟩) 4 4) [x.index, x.term, u64 x.kind, u64 x.delta].length ([x.index, x.term, u64 x.kind, u64 x.delta].flatMap U1), Res.vec 22 1 (.slice (some ⟨b20, 0, none⟩) 1 1) [(x.dv, x.data)].length ([(x.dv, x.data)].flatMap pv), Res.bv o TOut sl'2_ ((bs ++ numsB [x.index, x.term, u64 x.kind, u64 x.delta]) ++ datsB [(x.dv, x.data)])])) w1 (hw.frameL [2] rfl hO)
  exact l_nil (ret0 rfl (fun w' hw => ⟨sl'2_, rfl, by have h := hw.one 3 rfl; simpa [EntA.enc, datsB] using h⟩))
theorem entries_s (w : World) : Rets Tryz.prog 44 #[] w fun u_ w' => u_ = .agg #[.func (.func 89) #[] #[], .func (.func 91) #[] #[], .func (.func 92) #[] #[]] ∧ Own w [] [] w' := by
  refine fn_enter (args := []) Tryz.func44 rfl Tryz.ntmps44 rfl (Own.start w) ?_
  refine c_reg ?_
  refine l_new (v := .agg #[.nilFunc, .nilFunc, .nilFunc]) (by kernel_rfl) rfl (fun b0 => ?_)
  refine l_end ?_
  refine c_reg ?_
  refine l_bld (cs := [.func (.func 89) #[] #[], .func (.func 91) #[] #[], .func (.func 92) #[] #[]]) (z := [.nilFunc, .nilFunc, .nilFunc]) (pl := [(0, 1), (1, 1), (2, 1)]) (by kernel_rfl) (by kernel_rfl) rfl ?_
  refine l_stN (cs := [.nilFunc, .nilFunc, .nilFunc]) (vs := [.func (.func 89) #[] #[], .func (.func 91) #[] #[], .func (.func 92) #[] #[]]) 0 rfl rfl rfl (by kernel_rfl) (allc_cons rfl (allc_cons rfl (allc_cons rfl allc_nil))) (Nat.le_of_ble_eq_true rfl) ?_
  refine l_end ?_
  exact c_ret (retc (cs := [.func (.func 89) #[] #[], .func (.func 91) #[] #[], .func (.func 92) #[] #[]]) rfl rfl (by kernel_rfl) (Own.rowCells (i := 0) rfl) (fun w' hw => ⟨rfl, hw.drop⟩))
-- no function (scupper/msg.kind[scupper/api.Entry]).bytes
-- no function scupper/msg.Entry
-- no function (*scupper/scupperref03.Out).entry
-- no function scupper/scupperref03.Entry
end Go.Proofs.YtlkoekhjegaimaaGreat
