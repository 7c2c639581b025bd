/-
  THE WALKS OF entries, snapshots that share nothing; of snapshots, terms and votes written; and the laws' fits.
-/
import Derived.Test.YtlkoekhjegaimaaGreatEnc
set_option linter.unusedVariables false
set_option maxRecDepth 10000
namespace Go.Proofs.YtlkoekhjegaimaaGreat
open Go Go.Sc Go.Proofs

-- no function scupper/scupperref03.OwnEntries

structure ShtA where
  index : Nat
  term : Nat
  conf : ConfA
  data : List UInt8
  deriving DecidableEq
structure ShtD where
  index : Nat
  term : Nat
  conf : ConfD
  dv : Value
  data : List UInt8
def ShtD.a (x : ShtD) : ShtA := ⟨x.index, x.term, x.conf.a, x.data⟩
structure ShtD.wf (x : ShtD) : Prop where
  index : x.index < 18446744073709551616
  term : x.term < 18446744073709551616
  conf : x.conf.few
  data : x.data.length ≤ 1000000000
def ShtD.cells (x : ShtD) : List Value := [.int .u64 x.index, .int .u64 x.term] ++ (x.conf.cells ++ [x.dv])
structure ShtD.rd (x : ShtD) (w : World) (S : List Nat) : Prop where
  conf : x.conf.rd w S
  dv : Rd w S (Res.sl x.dv x.data.length (x.data.map vb))
theorem ShtD.rd.at0 {x : ShtD} {w0 w : World} {S : List Nat} {L : List Res} (h : x.rd w0 S) (hw : Own w0 S L w) : x.rd w [] := ⟨h.conf.at0 hw, hw.rd0 h.dv⟩
theorem ShtD.rd.at {x : ShtD} {w0 w : World} {S : List Nat} {L Lin : List Res} (h : x.rd w0 S) (hw : Own w0 S L w) (m : List Nat) (hm : m.mapM (fun i => L[i]?) = some Lin) : x.rd w (fps Lin) := ⟨h.conf.at hw m hm, hw.rdTo h.dv m hm⟩
def ShtA.ok (x : ShtA) : Prop := (((x.conf.ok ∧ x.data.length ≤ 32768) ∧ (x.index = 0 ↔ x.term = 0)) ∧ x.index ≤ 4611686018427387904) ∧ x.term ≤ 4611686018427387904
instance (x : ShtA) : Decidable x.ok := inferInstanceAs (Decidable ((((_ ∧ _) ∧ _) ∧ _) ∧ _))
def ConfA.enc (c : ConfA) : List UInt8 := idsB c.vs ++ idsB c.ls
def ShtA.enc (x : ShtA) : List UInt8 := numsB [x.index, x.term] ++ x.conf.enc ++ dat x.data
theorem ConfD.enc_le {c : ConfD} : c.enc.length ≤ 9 * (c.vs.length + c.ls.length + 2) := by
  have h1 := idsB_length c.vs
  have h2 := idsB_length c.ls
  simp only [ConfD.enc, List.length_append]; omega
theorem ShtD.enc_le {x : ShtD} (h : x.wf) : x.a.enc.length ≤ x.data.length + 9 * (x.conf.vs.length + x.conf.ls.length + 2) + 40 := by
  have h1 := numsB_length (ns := [x.index, x.term]) (by have := h.index; have := h.term; simp [*])
  have h2 := dat_length x.data (by have := h.data; omega)
  have h3 : x.a.conf.enc.length ≤ _ := x.conf.enc_le
  have e : x.a.enc.length = (numsB [x.index, x.term]).length + x.a.conf.enc.length + (dat x.data).length := by simp [ShtA.enc, ShtD.a]; omega
  simp only [List.length_cons, List.length_nil] at h1
  omega

def confsC : List Value := [.func (.func 80) #[] #[], .func (.func 85) #[] #[], .func (.func 87) #[] #[]]
-- no function scupper/msg.shots$1
-- no function scupper/scupperref03.ShotOK
-- no function scupper/msg.shots$2
-- no function scupper/msg.shots
-- no function (scupper/msg.kind[scupper/api.Shot]).bytes
-- no function scupper/msg.Shot

-- no function (*scupper/scupperref03.Out).conf
-- no function scupper/scupperref03.Conf
-- no function scupper/scupperref03.Shot
-- no function scupper/scupperref03.OwnShot

structure HrdD where
  term : Nat
  vote : Int
  deriving DecidableEq
def HrdD.cells (x : HrdD) : List Value := [.int .u64 x.term, .int .i64 x.vote]
def HrdD.ok (x : HrdD) : Prop := 0 ≤ x.vote ∧ x.vote ≤ 16
instance (x : HrdD) : Decidable x.ok := inferInstanceAs (Decidable (_ ∧ _))
def HrdD.enc (x : HrdD) : List UInt8 := numsB [x.term, u64 x.vote]
theorem hrdSound_s (x : HrdD) (w : World) : Rets Tryz.prog 101 #[.agg (HrdD.cells x).toArray] w fun u_ w' => u_ = .bool (decide x.ok) ∧ Own w [] [] w' := by
  refine fn_enter (args := [.agg (HrdD.cells x).toArray]) Tryz.func101 rfl Tryz.ntmps101 rfl (Own.start w) ?_
  refine c_reg ?_
  refine l_box rfl rfl (fun b1 => ?_)
  refine l_as rfl ?_
  refine l_end ?_
  refine c_reg ?_
  refine l_fld (o := 1) rfl (by kernel_rfl) rfl ?_
  refine l_ldo 0 (v := .int .i64 x.vote) rfl rfl rfl (by kernel_rfl) rfl ?_
  refine l_geq rfl rfl rfl ?_
  refine l_mv rfl ?_
  refine l_band (q := 0 ≤ x.vote) 3 3 [9, 8, 7] (x.vote ≤ 16) rfl rfl rfl rfl rfl rfl trivial rfl (fun h1_3 => ?_) (fun g1_7 => ?_)
  ·
    refine l_on rfl (gT h1_3) ?_
    refine l_fld (o := 1) rfl (by kernel_rfl) rfl ?_
    refine l_on rfl (gT h1_3) ?_
    refine l_ldo 0 (v := .int .i64 x.vote) rfl rfl rfl (by kernel_rfl) rfl ?_
    refine l_on rfl (gT h1_3) ?_
    refine l_leq rfl rfl rfl ?_
    exact l_nil (fun w' hw => ⟨(by repeat (first | exact Out.refl _ _ | refine Out.upd rfl ?_ | refine Out.msk rfl ?_)), rfl, hw⟩)
  refine l_as rfl ?_
  refine l_end ?_
  exact c_ret (ret1 (v := .bool (decide ((0 ≤ x.vote) ∧ (x.vote ≤ 16)))) rfl rfl (fun w' hw => ⟨rfl, hw.drop⟩))
-- no function scupper/scupperref03.HardOK
theorem hrdWrite_s (o : Nat) (sl : Value) (bs : List UInt8) (x : HrdD) (w : World) (hb : bs.length ≤ 10000000000) (hx : x.term < 18446744073709551616) (hin : Own w (fps [Res.bv o TOut sl bs]) [Res.bv o TOut sl bs] w) : Rets Tryz.prog 102 #[.pointer (some ⟨o, 0, none⟩), .agg (HrdD.cells x).toArray] w fun u_ w' => ∃ (sl' : Value), u_ = .tuple #[] ∧ Own w (fps [Res.bv o TOut sl bs]) [Res.bv o TOut sl' (bs ++ x.enc)] w' := by
  refine fn_enter (args := [.pointer (some ⟨o, 0, none⟩), .agg (HrdD.cells x).toArray]) Tryz.func102 rfl Tryz.ntmps102 rfl (show Own w (fps [Res.bv o TOut sl bs]) [Res.bv o TOut sl bs] w from hin) ?_
  refine c_reg ?_
  refine l_box rfl rfl (fun b3 => ?_)
  refine l_end ?_
  refine c_last ?_
  refine l_mv rfl ?_
  refine l_fld (o := 0) rfl (by kernel_rfl) rfl ?_
  refine l_ldo 1 (v := .int .u64 (x.term : Nat)) rfl rfl rfl (by kernel_rfl) rfl ?_
  refine l_fld (o := 1) rfl (by kernel_rfl) rfl ?_
  refine l_ldo 1 (v := .int .i64 x.vote) rfl rfl rfl (by kernel_rfl) rfl ?_
  refine l_cvt (by kernel_rfl) rfl (wrap_u64 _) rfl ?_ (by kernel_rfl)
  refine l_bsl (e := 23) (sz := 1) (vs := [.int .u64 (x.term : Nat), .int .u64 (u64 x.vote : Nat)]) (by kernel_rfl) rfl rfl (by simp [Value.cells]) (by decide) rfl (fun b10 => ?_)
  refine l_call (by kernel_rfl) rfl rfl (fun w' hw => ?_)
  refine (nums_s o _ _ (.slice (some ⟨b10, 0, none⟩) 2 2) [x.term, u64 x.vote] w' (by first | assumption | (simp [u64_lt]; done) | (simp [u64_lt]; omega) | (simp; omega)) (by first | assumption | omega | (simp <;> omega) | (constructor <;> (first | omega | (simp only [LenOk]; omega) | (simp <;> omega)))) (hw.rdVec 2 rfl [0] rfl rfl) (hw.give [0] rfl (by decide))).mono ?_
  rintro _ w1 ⟨sl'1_, rfl, hO⟩
  refine (?_ : CL _ _ _ _ _ _ (Own w (fps [Res.bv o TOut sl bs]) [Res.row b3 108 (HrdD.cells x), Res.vec 23 1 (.slice (some ⟨b10, 0, none⟩) 2 2) [x.term, u64 x.vote].length ([x.term, u64 x.vote].flatMap U1), Res.bv o TOut sl'1_ (bs ++ numsB [x.term, u64 x.vote])])) w1 (hw.frameL [0] rfl hO)
  exact l_nil (ret0 rfl (fun w' hw => ⟨sl'1_, rfl, hw.sel [2] rfl (by decide)⟩))
theorem hards_s (w : World) : Rets Tryz.prog 76 #[] w fun u_ w' => u_ = .agg #[.func (.func 101) #[] #[], .func (.func 102) #[] #[], .func (.func 103) #[] #[]] ∧ Own w [] [] w' := by
  refine fn_enter (args := []) Tryz.func76 rfl Tryz.ntmps76 rfl (Own.start w) ?_
  refine c_reg ?_
  refine l_new (v := .agg #[.nilFunc, .nilFunc, .nilFunc]) (by kernel_rfl) rfl (fun b0 => ?_)
  refine l_end ?_
  refine c_reg ?_
  refine l_bld (cs := [.func (.func 101) #[] #[], .func (.func 102) #[] #[], .func (.func 103) #[] #[]]) (z := [.nilFunc, .nilFunc, .nilFunc]) (pl := [(0, 1), (1, 1), (2, 1)]) (by kernel_rfl) (by kernel_rfl) rfl ?_
  refine l_stN (cs := [.nilFunc, .nilFunc, .nilFunc]) (vs := [.func (.func 101) #[] #[], .func (.func 102) #[] #[], .func (.func 103) #[] #[]]) 0 rfl rfl rfl (by kernel_rfl) (allc_cons rfl (allc_cons rfl (allc_cons rfl allc_nil))) (Nat.le_of_ble_eq_true rfl) ?_
  refine l_end ?_
  exact c_ret (retc (cs := [.func (.func 101) #[] #[], .func (.func 102) #[] #[], .func (.func 103) #[] #[]]) rfl rfl (by kernel_rfl) (Own.rowCells (i := 0) rfl) (fun w' hw => ⟨rfl, hw.drop⟩))
theorem hrdBytes_s (x : HrdD) (w : World) (hx : x.term < 18446744073709551616) : Rets Tryz.prog 77 #[.agg #[.func (.func 101) #[] #[], .func (.func 102) #[] #[], .func (.func 103) #[] #[]], .agg (HrdD.cells x).toArray] w fun u_ w' => ∃ (r : Value), u_ = .tuple #[r, .int .i64 (errOf x.ok)] ∧ Own w [] [Res.vec 5 1 r (if x.ok then x.enc else []).length ((if x.ok then x.enc else []).map vb)] w' := by
  refine fn_enter (args := [.agg #[.func (.func 101) #[] #[], .func (.func 102) #[] #[], .func (.func 103) #[] #[]], .agg (HrdD.cells x).toArray]) Tryz.func77 rfl Tryz.ntmps77 rfl (Own.start w) ?_
  refine c_reg ?_
  refine l_box rfl rfl (fun b2 => ?_)
  refine l_box rfl rfl (fun b3 => ?_)
  refine l_as rfl ?_
  refine l_as rfl ?_
  refine l_end ?_
  refine c_seq ?_
  refine c_reg ?_
  refine l_fld (o := 0) rfl (by kernel_rfl) rfl ?_
  refine l_ldo 0 (v := .func (.func 101) #[] #[]) rfl rfl rfl (by kernel_rfl) rfl ?_
  refine l_ldr (cs := (HrdD.cells x)) 1 rfl rfl (by kernel_rfl) rfl ?_
  refine l_callv (fst := []) (cap := []) rfl (by kernel_rfl) rfl rfl (fun w' hw => ?_)
  refine (hrdSound_s x w').mono ?_
  rintro _ w1 ⟨rfl, hO⟩
  refine (?_ : CL _ _ _ _ _ _ (Own w [] [Res.row b2 143 [.func (.func 101) #[] #[], .func (.func 102) #[] #[], .func (.func 103) #[] #[]], Res.row b3 108 (HrdD.cells x)])) w1 (hw.frame0 hO)
  refine l_notp (q := x.ok) rfl rfl ?_
  refine l_end ?_
  refine c_dec rfl (fun c1 => ?_) (fun c1 => ?_)
  ·
    refine c_reg ?_
    refine l_as rfl ?_
    refine l_as rfl ?_
    refine l_end ?_
    exact c_ret (ret2 (v := .slice none 0 0) (v' := .int .i64 2) rfl rfl rfl (fun w' hw => ⟨.slice none 0 0, (by rw [errOf_F c1]), by rw [if_neg c1]; exact (own_nil hw T8 1).one 2 rfl⟩))
  ·
    refine c_skipC ?_
    refine c_reg ?_
    refine l_bld (cs := [.slice none 0 0]) (z := [.slice none 0 0]) (pl := [(0, 1)]) (by kernel_rfl) (by kernel_rfl) rfl ?_
    refine l_box rfl rfl (fun b13 => ?_)
    refine l_as rfl ?_
    refine l_end ?_
    refine c_reg ?_
    refine l_fld (o := 1) rfl (by kernel_rfl) rfl ?_
    refine l_ldo 0 (v := .func (.func 102) #[] #[]) rfl rfl rfl (by kernel_rfl) rfl ?_
    refine l_mv rfl ?_
    refine l_ldr (cs := (HrdD.cells x)) 1 rfl rfl (by kernel_rfl) rfl ?_
    refine l_own [Res.row b2 143 [.func (.func 101) #[] #[], .func (.func 102) #[] #[], .func (.func 103) #[] #[]], Res.row b3 108 (HrdD.cells x), Res.bv b13 TOut (.slice none 0 0) ([] : List UInt8)] (fun w' hw => (own_nil hw T8 1).joinBv (i := 2) (j := 3) (by decide) rfl rfl) ?_
    refine l_callv (fst := []) (cap := []) rfl (by kernel_rfl) rfl rfl (fun w' hw => ?_)
    refine (hrdWrite_s b13 (.slice none 0 0) ([] : List UInt8) x w' (by first | assumption | omega | (simp <;> omega) | (constructor <;> (first | omega | (simp only [LenOk]; omega) | (simp <;> omega)))) (by first | assumption | omega | (simp <;> omega) | (constructor <;> (first | omega | (simp only [LenOk]; omega) | (simp <;> omega)))) (hw.give [2] rfl (by decide))).mono ?_
    rintro _ w1 ⟨sl'1_, rfl, hO⟩
    refine (?_ : CL _ _ _ _ _ _ (Own w [] [Res.row b2 143 [.func (.func 101) #[] #[], .func (.func 102) #[] #[], .func (.func 103) #[] #[]], Res.row b3 108 (HrdD.cells x), Res.bv b13 TOut sl'1_ (([] : List UInt8) ++ x.enc)])) w1 (hw.frameL [2] rfl hO)
    refine l_end ?_
    refine c_reg ?_
    refine l_mv rfl ?_
    refine l_nck rfl rfl ?_
    refine l_fld (o := 0) rfl (by kernel_rfl) rfl ?_
    refine l_own [Res.row b2 143 [.func (.func 101) #[] #[], .func (.func 102) #[] #[], .func (.func 103) #[] #[]], Res.row b3 108 (HrdD.cells x), Res.row b13 TOut [sl'1_], Res.vec 5 1 sl'1_ (([] : List UInt8) ++ x.enc).length ((([] : List UInt8) ++ x.enc).map vb)] (fun w' hw => hw.splitBv (i := 2) (o := b13) (T := TOut) (v := sl'1_) (bs := (([] : List UInt8) ++ x.enc)) rfl) ?_
    refine l_ldo 2 (v := sl'1_) rfl rfl rfl (by kernel_rfl) rfl ?_
    refine l_as rfl ?_
    refine l_as rfl ?_
    refine l_end ?_
    exact c_ret (ret2 (v := sl'1_) (v' := .int .i64 0) rfl rfl rfl (fun w' hw => ⟨sl'1_, (by rw [errOf_T (Decidable.not_not.1 c1)]), by rw [if_pos (Decidable.not_not.1 c1)]; exact hw.one 3 rfl⟩))
theorem msgHard_s (x : HrdD) (w : World) (hx : x.term < 18446744073709551616) : Rets Tryz.prog 40 #[.agg (HrdD.cells x).toArray] w fun u_ w' => ∃ (r : Value), u_ = .tuple #[r, .int .i64 (errOf x.ok)] ∧ Own w [] [Res.vec 5 1 r (if x.ok then x.enc else []).length ((if x.ok then x.enc else []).map vb)] w' := by
  refine fn_enter (args := [.agg (HrdD.cells x).toArray]) Tryz.func40 rfl Tryz.ntmps40 rfl (Own.start w) ?_
  refine c_reg ?_
  refine l_box rfl rfl (fun b1 => ?_)
  refine l_as rfl ?_
  refine l_as rfl ?_
  refine l_end ?_
  refine c_seq ?_
  refine c_heldo [0] rfl (by decide) (by kernel_rfl) (fun w' hw hS => ?_)
  refine h_take 1 rfl (by kernel_rfl) (by kernel_rfl) (by kernel_rfl) (v_ldr (cs := (HrdD.cells x)) 0 rfl rfl (by kernel_rfl)) rfl hS ?_
  refine h_one 0 (by kernel_rfl) rfl hw ?_
  refine l_call (by kernel_rfl) rfl rfl (fun w' hw => ?_)
  refine (hards_s w').mono ?_
  rintro _ w1 ⟨rfl, hO⟩
  refine (?_ : CL _ _ _ _ _ _ (Own w [] [Res.row b1 108 (HrdD.cells x)])) w1 (hw.frame0 hO)
  refine l_nil (fun w' hw => ?_)
  have hS := hw.sel [0] rfl (by decide)
  refine ⟨hS, ?_⟩
  refine h_one 2 (by kernel_rfl) rfl hw ?_
  refine l_call (by kernel_rfl) rfl rfl (fun w' hw => ?_)
  refine (hrdBytes_s x w' (by first | assumption | omega | (simp <;> omega) | (constructor <;> (first | omega | (simp only [LenOk]; omega) | (simp <;> omega))))).mono ?_
  rintro _ w1 ⟨r1_, rfl, hO⟩
  refine (?_ : CL _ _ _ _ _ _ (Own w [] [Res.row b1 108 (HrdD.cells x), Res.vec 5 1 r1_ (if x.ok then x.enc else []).length ((if x.ok then x.enc else []).map vb)])) w1 (hw.frame0 hO)
  refine l_nil (fun w' hw => ?_)
  have hS := hw.sel [0] rfl (by decide)
  refine ⟨hS, ?_⟩
  refine h_take 3 rfl (by kernel_rfl) (by kernel_rfl) (by kernel_rfl) (v_ext (vs := [r1_, .int .i64 (errOf x.ok)]) rfl rfl) rfl hS ?_
  refine h_take 4 rfl (by kernel_rfl) (by kernel_rfl) (by kernel_rfl) (v_ext (vs := [r1_, .int .i64 (errOf x.ok)]) rfl rfl) rfl hS ?_
  refine h_take 5 rfl (by kernel_rfl) (by kernel_rfl) (by kernel_rfl) (v_as) rfl hS ?_
  refine h_take 6 rfl (by kernel_rfl) (by kernel_rfl) (by kernel_rfl) (v_as) rfl hS ?_
  refine h_done (by kernel_rfl) ?_
  refine (?_ : C _ _ _ _ _ _ _ (Own w [] [Res.row b1 108 (HrdD.cells x), Res.vec 5 1 r1_ (if x.ok then x.enc else []).length ((if x.ok then x.enc else []).map vb)])) _ hw
  exact c_ret (ret2 (v := r1_) (v' := .int .i64 (errOf x.ok)) rfl rfl rfl (fun w' hw => ⟨r1_, rfl, hw.sel [1] rfl (by decide)⟩))
-- no function scupper/scupperref03.Hard

theorem str_eq {l m : List UInt8} : ((⟨l.toArray⟩ : ByteArray) = ⟨m.toArray⟩) ↔ l = m := by
  constructor
  · intro h; injection h with h; simpa using h
  · rintro rfl; rfl
-- no function scupper/scupperlaw03.fits
theorem enc_fits {ok : Prop} [Decidable ok] {enc : List UInt8} : (ok → errOf ok = 0 ∧ (if ok then enc else []) = enc) ∧ (¬ ok → errOf ok = 2 ∧ (if ok then enc else []) = []) :=
  ⟨fun h => ⟨errOf_T h, if_pos h⟩, fun h => ⟨errOf_F h, if_neg h⟩⟩
theorem hrd52 : (errOf ({ term := 5, vote := 2 } : HrdD).ok = 0) ∧ ((⟨(if ({ term := 5, vote := 2 } : HrdD).ok then ({ term := 5, vote := 2 } : HrdD).enc else []).toArray⟩ : ByteArray) = (⟨#[1, 5, 1, 2]⟩ : ByteArray)) := by decide +kernel
theorem answers_s (w : World) : Rets Tryz.prog 14 #[] w fun u_ w' => u_ = .bool true ∧ Own w [] [] w' := by
  refine fn_enter (args := []) Tryz.func14 rfl Tryz.ntmps14 rfl (Own.start w) ?_
  refine c_reg ?_
  refine l_as rfl ?_
  refine l_end ?_
  refine c_reg ?_
  refine l_bld (cs := [.int .u64 (5 : Nat), .int .i64 2]) (z := [.int .u64 (0 : Nat), .int .i64 0]) (pl := [(0, 1), (1, 1)]) (by kernel_rfl) (by kernel_rfl) rfl ?_
  refine l_call (by kernel_rfl) rfl rfl (fun w' hw => ?_)
  refine (msgHard_s ({ term := 5, vote := 2 } : HrdD) w' (by first | assumption | omega | (simp <;> omega) | (constructor <;> (first | omega | (simp only [LenOk]; omega) | (simp <;> omega))))).mono ?_
  rintro _ w1 ⟨r1_, rfl, hO⟩
  refine (?_ : CL _ _ _ _ _ _ (Own w [] [Res.vec 5 1 r1_ (if ({ term := 5, vote := 2 } : HrdD).ok then ({ term := 5, vote := 2 } : HrdD).enc else []).length ((if ({ term := 5, vote := 2 } : HrdD).ok then ({ term := 5, vote := 2 } : HrdD).enc else []).map vb)])) w1 (hw.frame0 hO)
  refine l_mv rfl ?_
  refine l_ext (vs := [r1_, .int .i64 (errOf ({ term := 5, vote := 2 } : HrdD).ok)]) rfl rfl rfl ?_
  refine l_ext (vs := [r1_, .int .i64 (errOf ({ term := 5, vote := 2 } : HrdD).ok)]) rfl rfl rfl ?_
  refine l_as rfl ?_
  refine l_as rfl ?_
  refine l_end ?_
  refine c_reg ?_
  refine l_mv rfl ?_
  refine l_eq rfl rfl rfl ?_
  refine l_mv rfl ?_
  refine l_band (q := (errOf ({ term := 5, vote := 2 } : HrdD).ok) = 0) 3 2 [13, 12, 11] ((⟨(if ({ term := 5, vote := 2 } : HrdD).ok then ({ term := 5, vote := 2 } : HrdD).enc else []).toArray⟩ : ByteArray) = (⟨#[1, 5, 1, 2]⟩ : ByteArray)) rfl rfl rfl rfl rfl rfl trivial rfl (fun h2_2 => ?_) (fun g2_6 => ?_)
  ·
    refine l_on rfl (gT h2_2) ?_
    refine l_mv rfl ?_
    refine l_on rfl (gT h2_2) ?_
    refine l_b2s (bs := (if ({ term := 5, vote := 2 } : HrdD).ok then ({ term := 5, vote := 2 } : HrdD).enc else [])) (by kernel_rfl) (by kernel_rfl) rfl (fun w' hw' => Vec.sl (Own.holds hw' 0 _ rfl)) rfl ?_
    refine l_on rfl (gT h2_2) ?_
    refine l_seq rfl rfl rfl ?_
    exact l_nil (fun w' hw => ⟨(by repeat (first | exact Out.refl _ _ | refine Out.upd rfl ?_ | refine Out.msk rfl ?_)), rfl, hw⟩)
  refine l_as rfl ?_
  refine l_end ?_
  exact c_ret (ret1 (v := .bool (decide (((errOf ({ term := 5, vote := 2 } : HrdD).ok) = 0) ∧ ((⟨(if ({ term := 5, vote := 2 } : HrdD).ok then ({ term := 5, vote := 2 } : HrdD).enc else []).toArray⟩ : ByteArray) = (⟨#[1, 5, 1, 2]⟩ : ByteArray))))) rfl rfl (fun w' hw => ⟨(by rw [decide_eq_true hrd52]), hw.drop⟩))
theorem own1 {es : List EntD} {x : EntD} (h : es.map EntD.toEntA = [x].map EntD.toEntA) : (nth es 0).toEntA = x.toEntA ∧ 0 < es.length := by
  have hl := congrArg List.length h
  simp at hl
  match es, hl with
  | [y], _ => simp at h; exact ⟨by simpa [nth] using h, by simp⟩
-- no function scupper/scupperlaw03.MsgLogs
end Go.Proofs.YtlkoekhjegaimaaGreat
