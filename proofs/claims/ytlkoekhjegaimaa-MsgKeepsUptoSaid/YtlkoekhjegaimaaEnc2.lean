/-
  THE WALKS OF entries, snapshots that share nothing; of snapshots, terms and votes written; and the laws' fits.
-/
import Derived.Test.YtlkoekhjegaimaaEnc
set_option linter.unusedVariables false
set_option maxRecDepth 10000
namespace Go.Proofs.Ytlkoekhjegaimaa
open Go Go.Sc Go.Proofs

theorem ownEnts_s (v : Value) (l : List EntD) (w : World) (hl : l.length ≤ 10000000) (hd : ∀ x ∈ l, x.data.length ≤ 1000000000) (hv : Rd w [] (Res.sl v l.length (l.flatMap EntD.cells))) (all_hv : ∀ p ∈ l, EntD.rd p w []) : Rets Try.prog 25 #[v] w fun u_ w' => ∃ (r : Value) (es : List EntD), u_ = r ∧ es.map EntD.toEntA = l.map EntD.toEntA ∧ Own w [] [Res.vec 50 5 r es.length (es.flatMap EntD.cells), Res.star (es.map EntD.dres)] w' := by
  refine fn_enter (args := [v]) Try.func25 rfl Try.ntmps25 rfl (Own.start w) ?_
  refine c_reg ?_
  refine l_as rfl ?_
  refine l_end ?_
  refine c_reg ?_
  refine l_as rfl ?_
  refine l_end ?_
  refine c_seq ?_
  refine c_reg ?_
  refine l_as rfl ?_
  refine l_end ?_
  refine c_block ?_
  refine c_loop3 (fun (k : Nat) (lv : Value) (es : List EntD) => [(0, v), (3, lv), (4, .int .i64 (k : Nat))]) (fun (k : Nat) (lv : Value) (es : List EntD) => k ≤ l.length ∧ es.map EntD.toEntA = (l.take k).map EntD.toEntA) (fun (k : Nat) (lv : Value) (es : List EntD) => [Res.vec 50 5 lv es.length (es.flatMap EntD.cells), Res.star (es.map EntD.dres)]) (fun (k : Nat) (lv : Value) (es : List EntD) => l.length - k) (fun w' hw => ⟨0, .slice none 0 0, [], ⟨rfl, rfl, rfl, trivial⟩, ⟨Nat.zero_le _, rfl⟩, (own_nil hw 50 5).starNil⟩) (fun k lv es g hΦ => ?_)
  have hlen : es.length = min k l.length := by have := congrArg List.length hΦ.2; simpa using this
  refine c_seq ?_
  refine c_reg ?_
  refine l_mv rfl ?_
  refine l_mv rfl ?_
  refine l_lenS (len := l.length) (cs := (l.flatMap EntD.cells)) (by kernel_rfl) rfl (fun w' hw' => Own.rd hv hw') rfl ?_
  refine l_lss rfl rfl rfl ?_
  refine l_end ?_
  refine c_dec rfl (fun c1 => ?_) (fun c1 => ?_)
  ·
    have hnd := hd _ (nth_mem (l := l) (j := k) (by omega))
    refine c_skipC ?_
    refine c_seq ?_
    refine c_block ?_
    refine c_reg ?_
    refine l_mv rfl ?_
    refine l_mv rfl ?_
    refine l_idxS (j := k) (sz := 5) (len := l.length) (cs := (l.flatMap EntD.cells)) rfl rfl (by kernel_rfl) (fun w' hw' => Own.rd hv hw') rfl (by omega) rfl ?_
    refine l_ldSN (k * 5 + 0) (cs := (l.flatMap EntD.cells)) (EntD.cells (nth l k)) rfl (by omega) (fun w' hw' => Own.rd hv hw') (flat_atN (sz := 5) (fun _ => rfl) (nth_some (by omega)) (o := 0) (us := (EntD.cells (nth l k))) (fun k u h => by rw [Nat.zero_add]; exact h)) (by kernel_rfl) rfl ?_
    refine l_new (v := .agg #[.int .u64 (0 : Nat), .int .u64 (0 : Nat), .int .i64 0, .int .i64 0, .slice none 0 0]) (by kernel_rfl) rfl (fun b5 => ?_)
    refine l_stN (cs := [.int .u64 (0 : Nat), .int .u64 (0 : Nat), .int .i64 0, .int .i64 0, .slice none 0 0]) (vs := [.int .u64 ((nth l k).index : Nat), .int .u64 ((nth l k).term : Nat), .int .i64 ((nth l k).kind), .int .i64 ((nth l k).delta), (nth l k).dv]) 2 rfl rfl rfl (by kernel_rfl) (allc_cons rfl (allc_cons rfl (allc_cons rfl (allc_cons rfl (allc_cons (Sl.cell1 (Rd.φ ((all_hv _ (nth_mem (by omega))).dv))) allc_nil))))) (Nat.le_of_ble_eq_true rfl) ?_
    refine l_end ?_
    refine c_reg ?_
    refine l_bsl (e := 5) (sz := 1) (vs := []) (by kernel_rfl) rfl rfl (by simp [Value.cells]) (by decide) rfl (fun b16 => ?_)
    refine l_fld (o := 4) rfl (by kernel_rfl) rfl ?_
    refine l_ldo 2 (v := (nth l k).dv) rfl rfl rfl (by kernel_rfl) rfl ?_
    refine l_appM (l := ([] : List UInt8)) (l' := (nth l k).data) 3 (by kernel_rfl) rfl rfl rfl (fun w' hw' => Own.rd ((all_hv _ (nth_mem (by omega))).dv) hw') (by first | omega | (simp; omega)) rfl (fun v19 => ?_)
    refine l_fld (o := 4) rfl (by kernel_rfl) rfl ?_
    refine l_haveO (fun w' hw => Own.cell1Vec (i := 3) rfl hw) (fun hc1_ => ?_)
    refine l_st (cs := (EntD.cells (nth l k))) 2 rfl rfl rfl (by kernel_rfl) hc1_ (Nat.le_of_ble_eq_true rfl) ?_
    refine l_end ?_
    refine c_last ?_
    refine l_mv rfl ?_
    refine l_ldr (cs := [.int .u64 ((nth l k).index : Nat), .int .u64 ((nth l k).term : Nat), .int .i64 ((nth l k).kind), .int .i64 ((nth l k).delta), v19]) 2 rfl rfl (by kernel_rfl) rfl ?_
    refine l_bsl (e := 50) (sz := 5) (vs := [.agg #[.int .u64 ((nth l k).index : Nat), .int .u64 ((nth l k).term : Nat), .int .i64 ((nth l k).kind), .int .i64 ((nth l k).delta), v19]]) (by kernel_rfl) rfl rfl (by simp [Value.cells, EntD.cells]) (by decide) rfl (fun b23 => ?_)
    refine l_appF (g := EntD.cells) (sz := 5) (by' := 56) (fun _ => rfl) (l := es) (l' := [({ (nth l k) with dv := v19 } : EntD)]) (all_cons ((allc_cons rfl (allc_cons rfl (allc_cons rfl (allc_cons rfl (allc_cons hc1_ allc_nil)))))) (by simp)) 0 (by kernel_rfl) rfl rfl rfl (fun w' hw' => Vec.sl (Own.holds hw' 4 _ rfl)) (by first | omega | (simp; omega)) (by decide) rfl (fun v24 => ?_)
    refine l_as rfl ?_
    refine l_end ?_
    refine c_last ?_
    refine l_mv rfl ?_
    refine l_add rfl rfl (wi64 (by omega)) rfl ?_
    refine l_as rfl ?_
    exact l_nil (fun w' hw => ⟨k + 1, v24, es ++ [({ (nth l k) with dv := v19 } : EntD)], ⟨rfl, rfl, rfl, trivial⟩, ⟨by omega, by rw [List.map_append, take_nth (by omega), List.map_append, hΦ.2]; rfl⟩, ((hw.starMap (x := ({ (nth l k) with dv := v19 } : EntD)) 1 3 (by decide) rfl rfl).sel [0, 1] rfl (by decide)), (by omega)⟩)
  ·
    refine c_exitC rfl ?_
    refine c_reg ?_
    refine l_mv rfl ?_
    refine l_as rfl ?_
    refine l_end ?_
    exact c_ret (ret1 (v := lv) rfl rfl (fun w' hw => ⟨lv, es, rfl, by rw [hΦ.2, List.take_of_length_le (by omega)], hw⟩))

structure ShtA where
  index : Nat
  term : Nat
  conf : ConfA
  data : List UInt8
  deriving DecidableEq
structure ShtD where
  index : Nat
  term : Nat
  conf : ConfD
  dv : Value
  data : List UInt8
def ShtD.a (x : ShtD) : ShtA := ⟨x.index, x.term, x.conf.a, x.data⟩
structure ShtD.wf (x : ShtD) : Prop where
  index : x.index < 18446744073709551616
  term : x.term < 18446744073709551616
  conf : x.conf.few
  data : x.data.length ≤ 1000000000
def ShtD.cells (x : ShtD) : List Value := [.int .u64 x.index, .int .u64 x.term] ++ (x.conf.cells ++ [x.dv])
structure ShtD.rd (x : ShtD) (w : World) (S : List Nat) : Prop where
  conf : x.conf.rd w S
  dv : Rd w S (Res.sl x.dv x.data.length (x.data.map vb))
theorem ShtD.rd.at0 {x : ShtD} {w0 w : World} {S : List Nat} {L : List Res} (h : x.rd w0 S) (hw : Own w0 S L w) : x.rd w [] := ⟨h.conf.at0 hw, hw.rd0 h.dv⟩
theorem ShtD.rd.at {x : ShtD} {w0 w : World} {S : List Nat} {L Lin : List Res} (h : x.rd w0 S) (hw : Own w0 S L w) (m : List Nat) (hm : m.mapM (fun i => L[i]?) = some Lin) : x.rd w (fps Lin) := ⟨h.conf.at hw m hm, hw.rdTo h.dv m hm⟩
def ShtA.ok (x : ShtA) : Prop := (((x.conf.ok ∧ x.data.length ≤ 32768) ∧ (x.index = 0 ↔ x.term = 0)) ∧ x.index ≤ 4611686018427387904) ∧ x.term ≤ 4611686018427387904
instance (x : ShtA) : Decidable x.ok := inferInstanceAs (Decidable ((((_ ∧ _) ∧ _) ∧ _) ∧ _))
def ConfA.enc (c : ConfA) : List UInt8 := idsB c.vs ++ idsB c.ls
def ShtA.enc (x : ShtA) : List UInt8 := numsB [x.index, x.term] ++ x.conf.enc ++ dat x.data
theorem ConfD.enc_le {c : ConfD} : c.enc.length ≤ 9 * (c.vs.length + c.ls.length + 2) := by
  have h1 := idsB_length c.vs
  have h2 := idsB_length c.ls
  simp only [ConfD.enc, List.length_append]; omega
theorem ShtD.enc_le {x : ShtD} (h : x.wf) : x.a.enc.length ≤ x.data.length + 9 * (x.conf.vs.length + x.conf.ls.length + 2) + 40 := by
  have h1 := numsB_length (ns := [x.index, x.term]) (by have := h.index; have := h.term; simp [*])
  have h2 := dat_length x.data (by have := h.data; omega)
  have h3 : x.a.conf.enc.length ≤ _ := x.conf.enc_le
  have e : x.a.enc.length = (numsB [x.index, x.term]).length + x.a.conf.enc.length + (dat x.data).length := by simp [ShtA.enc, ShtD.a]; omega
  simp only [List.length_cons, List.length_nil] at h1
  omega

def confsC : List Value := [.func (.func 122) #[] #[], .func (.func 127) #[] #[], .func (.func 129) #[] #[]]
theorem shtSound_s (x : ShtD) (cb : Nat) (w : World) (hx : x.wf) (hcb : Rd w [] (Res.row cb 144 [.func (.func 122) #[] #[], .func (.func 127) #[] #[], .func (.func 129) #[] #[]])) (rd_x : ShtD.rd x w []) : Rets Try.prog 131 #[.agg (ShtD.cells x).toArray, .pointer (some ⟨cb, 0, none⟩)] w fun u_ w' => u_ = .bool (decide x.a.ok) ∧ Own w [] [] w' := by
  have hd := hx.data
  have hf := hx.conf
  have hc := hx.conf.wf
  refine fn_enter (args := [.agg (ShtD.cells x).toArray, .pointer (some ⟨cb, 0, none⟩)]) Try.func131 rfl Try.ntmps131 rfl (Own.start w) ?_
  refine c_reg ?_
  refine l_box rfl rfl (fun b2 => ?_)
  refine l_as rfl ?_
  refine l_end ?_
  refine c_reg ?_
  refine l_fld (o := 0) rfl (by kernel_rfl) rfl ?_
  refine l_ldq (v := .func (.func 122) #[] #[]) rfl (hcb.φ.cell rfl) (hcb.far _ (by simp [Res.row])) (by kernel_rfl) rfl ?_
  refine l_fld (o := 2) rfl (by kernel_rfl) rfl ?_
  refine l_ldoN (cs := (ShtD.cells x)) 0 (ConfD.cells x.conf) rfl rfl (sub_at' 2 rfl) (by kernel_rfl) rfl ?_
  refine l_callv (fst := []) (cap := []) rfl (by kernel_rfl) rfl rfl (fun w' hw => ?_)
  refine (confSound_spec x.conf w' (by first | assumption | omega | (simp <;> omega) | (constructor <;> (first | omega | (simp only [LenOk]; omega) | (simp <;> omega)))) (rd_x.conf.at0 hw)).mono ?_
  rintro _ w1 ⟨rfl, hO⟩
  refine (?_ : CL _ _ _ _ _ _ (Own w [] [Res.row b2 55 (ShtD.cells x)])) w1 (hw.frame0 hO)
  refine l_mv rfl ?_
  refine l_band (q := x.conf.ok) 4 5 [13, 12, 11, 10] (((x.data.length : Nat) : Int) ≤ 32768) rfl rfl rfl rfl rfl rfl trivial rfl (fun h1_5 => ?_) (fun g1_10 => ?_)
  ·
    refine l_on rfl (gT h1_5) ?_
    refine l_fld (o := 4) rfl (by kernel_rfl) rfl ?_
    refine l_on rfl (gT h1_5) ?_
    refine l_ldo 0 (v := x.dv) rfl rfl rfl (by kernel_rfl) rfl ?_
    refine l_on rfl (gT h1_5) ?_
    refine l_lenS (len := x.data.length) (cs := (x.data.map vb)) (by kernel_rfl) rfl (fun w' hw' => Own.rd rd_x.dv hw') rfl ?_
    refine l_on rfl (gT h1_5) ?_
    refine l_leq rfl rfl rfl ?_
    exact l_nil (fun w' hw => ⟨(by repeat (first | exact Out.refl _ _ | refine Out.upd rfl ?_ | refine Out.msk rfl ?_)), rfl, hw⟩)
  refine l_mv rfl ?_
  refine l_band (q := x.conf.ok ∧ (((x.data.length : Nat) : Int) ≤ 32768)) 7 11 [22, 21, 20, 19, 18, 17, 16] ((((x.index : Nat) : Int) = ((0 : Nat) : Int)) ↔ (((x.term : Nat) : Int) = ((0 : Nat) : Int))) rfl rfl rfl rfl rfl rfl trivial rfl (fun h1_11 => ?_) (fun g1_19 => ?_)
  ·
    refine l_on rfl (gT h1_11) ?_
    refine l_fld (o := 0) rfl (by kernel_rfl) rfl ?_
    refine l_on rfl (gT h1_11) ?_
    refine l_ldo 0 (v := .int .u64 (x.index : Nat)) rfl rfl rfl (by kernel_rfl) rfl ?_
    refine l_on rfl (gT h1_11) ?_
    refine l_eq rfl rfl rfl ?_
    refine l_on rfl (gT h1_11) ?_
    refine l_fld (o := 1) rfl (by kernel_rfl) rfl ?_
    refine l_on rfl (gT h1_11) ?_
    refine l_ldo 0 (v := .int .u64 (x.term : Nat)) rfl rfl rfl (by kernel_rfl) rfl ?_
    refine l_on rfl (gT h1_11) ?_
    refine l_eq rfl rfl rfl ?_
    refine l_on rfl (gT h1_11) ?_
    refine l_beqp (by kernel_rfl) rfl rfl rfl ?_
    exact l_nil (fun w' hw => ⟨(by repeat (first | exact Out.refl _ _ | refine Out.upd rfl ?_ | refine Out.msk rfl ?_)), rfl, hw⟩)
  refine l_mv rfl ?_
  refine l_band (q := (x.conf.ok ∧ (((x.data.length : Nat) : Int) ≤ 32768)) ∧ ((((x.index : Nat) : Int) = ((0 : Nat) : Int)) ↔ (((x.term : Nat) : Int) = ((0 : Nat) : Int)))) 6 20 [30, 29, 28, 27, 26, 25] (((max x.index x.term : Nat) : Int) ≤ ((4611686018427387904 : Nat) : Int)) rfl rfl rfl rfl rfl rfl trivial rfl (fun h1_20 => ?_) (fun g1_27 => ?_)
  ·
    refine l_on rfl (gT h1_20) ?_
    refine l_fld (o := 0) rfl (by kernel_rfl) rfl ?_
    refine l_on rfl (gT h1_20) ?_
    refine l_ldo 0 (v := .int .u64 (x.index : Nat)) rfl rfl rfl (by kernel_rfl) rfl ?_
    refine l_on rfl (gT h1_20) ?_
    refine l_fld (o := 1) rfl (by kernel_rfl) rfl ?_
    refine l_on rfl (gT h1_20) ?_
    refine l_ldo 0 (v := .int .u64 (x.term : Nat)) rfl rfl rfl (by kernel_rfl) rfl ?_
    refine l_on rfl (gT h1_20) ?_
    refine l_max (c := ((max x.index x.term : Nat) : Int)) rfl rfl (maxc _ _) rfl ?_
    refine l_on rfl (gT h1_20) ?_
    refine l_leq rfl rfl rfl ?_
    exact l_nil (fun w' hw => ⟨(by repeat (first | exact Out.refl _ _ | refine Out.upd rfl ?_ | refine Out.msk rfl ?_)), rfl, hw⟩)
  refine l_as rfl ?_
  refine l_end ?_
  exact c_ret (ret1 (v := .bool (decide (((x.conf.ok ∧ (((x.data.length : Nat) : Int) ≤ 32768)) ∧ ((((x.index : Nat) : Int) = ((0 : Nat) : Int)) ↔ (((x.term : Nat) : Int) = ((0 : Nat) : Int)))) ∧ (((max x.index x.term : Nat) : Int) ≤ ((4611686018427387904 : Nat) : Int))))) rfl rfl (fun w' hw => ⟨(by congr 1; exact decide_eq_decide.2 (by unfold ShtA.ok ShtD.a; dsimp only; exact ⟨fun h => ⟨⟨⟨⟨h.1.1.1, by have := h.1.1.2; omega⟩, by have := h.1.2; omega⟩, by have := h.2; omega⟩, by have := h.2; omega⟩, fun h => ⟨⟨⟨h.1.1.1.1, by have := h.1.1.1.2; omega⟩, by have := h.1.1.2; omega⟩, by have := h.1.2; have := h.2; omega⟩⟩)), hw.drop⟩))
theorem rshtOK_s (x : ShtD) (w : World) (hx : x.wf) (rd_x : ShtD.rd x w []) : Rets Try.prog 35 #[.agg (ShtD.cells x).toArray] w fun u_ w' => u_ = .bool (decide x.a.ok) ∧ Own w [] [] w' := by
  have hd := hx.data
  have hf := hx.conf
  have hc := hx.conf.wf
  refine fn_enter (args := [.agg (ShtD.cells x).toArray]) Try.func35 rfl Try.ntmps35 rfl (Own.start w) ?_
  refine c_reg ?_
  refine l_box rfl rfl (fun b1 => ?_)
  refine l_as rfl ?_
  refine l_end ?_
  refine c_reg ?_
  refine l_fld (o := 2) rfl (by kernel_rfl) rfl ?_
  refine l_ldoN (cs := (ShtD.cells x)) 0 (ConfD.cells x.conf) rfl rfl (sub_at' 2 rfl) (by kernel_rfl) rfl ?_
  refine l_call (by kernel_rfl) rfl rfl (fun w' hw => ?_)
  refine (confOK_spec x.conf w' (by first | assumption | omega | (simp <;> omega) | (constructor <;> (first | omega | (simp only [LenOk]; omega) | (simp <;> omega)))) (rd_x.conf.at0 hw)).mono ?_
  rintro _ w1 ⟨rfl, hO⟩
  refine (?_ : CL _ _ _ _ _ _ (Own w [] [Res.row b1 55 (ShtD.cells x)])) w1 (hw.frame0 hO)
  refine l_mv rfl ?_
  refine l_band (q := x.conf.ok) 4 3 [10, 9, 8, 7] (((x.data.length : Nat) : Int) ≤ 32768) rfl rfl rfl rfl rfl rfl trivial rfl (fun h1_3 => ?_) (fun g1_8 => ?_)
  ·
    refine l_on rfl (gT h1_3) ?_
    refine l_fld (o := 4) rfl (by kernel_rfl) rfl ?_
    refine l_on rfl (gT h1_3) ?_
    refine l_ldo 0 (v := x.dv) rfl rfl rfl (by kernel_rfl) rfl ?_
    refine l_on rfl (gT h1_3) ?_
    refine l_lenS (len := x.data.length) (cs := (x.data.map vb)) (by kernel_rfl) rfl (fun w' hw' => Own.rd rd_x.dv hw') rfl ?_
    refine l_on rfl (gT h1_3) ?_
    refine l_leq rfl rfl rfl ?_
    exact l_nil (fun w' hw => ⟨(by repeat (first | exact Out.refl _ _ | refine Out.upd rfl ?_ | refine Out.msk rfl ?_)), rfl, hw⟩)
  refine l_mv rfl ?_
  refine l_band (q := x.conf.ok ∧ (((x.data.length : Nat) : Int) ≤ 32768)) 7 9 [19, 18, 17, 16, 15, 14, 13] ((((x.index : Nat) : Int) = ((0 : Nat) : Int)) ↔ (((x.term : Nat) : Int) = ((0 : Nat) : Int))) rfl rfl rfl rfl rfl rfl trivial rfl (fun h1_9 => ?_) (fun g1_17 => ?_)
  ·
    refine l_on rfl (gT h1_9) ?_
    refine l_fld (o := 0) rfl (by kernel_rfl) rfl ?_
    refine l_on rfl (gT h1_9) ?_
    refine l_ldo 0 (v := .int .u64 (x.index : Nat)) rfl rfl rfl (by kernel_rfl) rfl ?_
    refine l_on rfl (gT h1_9) ?_
    refine l_eq rfl rfl rfl ?_
    refine l_on rfl (gT h1_9) ?_
    refine l_fld (o := 1) rfl (by kernel_rfl) rfl ?_
    refine l_on rfl (gT h1_9) ?_
    refine l_ldo 0 (v := .int .u64 (x.term : Nat)) rfl rfl rfl (by kernel_rfl) rfl ?_
    refine l_on rfl (gT h1_9) ?_
    refine l_eq rfl rfl rfl ?_
    refine l_on rfl (gT h1_9) ?_
    refine l_beqp (by kernel_rfl) rfl rfl rfl ?_
    exact l_nil (fun w' hw => ⟨(by repeat (first | exact Out.refl _ _ | refine Out.upd rfl ?_ | refine Out.msk rfl ?_)), rfl, hw⟩)
  refine l_mv rfl ?_
  refine l_band (q := (x.conf.ok ∧ (((x.data.length : Nat) : Int) ≤ 32768)) ∧ ((((x.index : Nat) : Int) = ((0 : Nat) : Int)) ↔ (((x.term : Nat) : Int) = ((0 : Nat) : Int)))) 3 18 [24, 23, 22] (((x.index : Nat) : Int) ≤ ((4611686018427387904 : Nat) : Int)) rfl rfl rfl rfl rfl rfl trivial rfl (fun h1_18 => ?_) (fun g1_22 => ?_)
  ·
    refine l_on rfl (gT h1_18) ?_
    refine l_fld (o := 0) rfl (by kernel_rfl) rfl ?_
    refine l_on rfl (gT h1_18) ?_
    refine l_ldo 0 (v := .int .u64 (x.index : Nat)) rfl rfl rfl (by kernel_rfl) rfl ?_
    refine l_on rfl (gT h1_18) ?_
    refine l_leq rfl rfl rfl ?_
    exact l_nil (fun w' hw => ⟨(by repeat (first | exact Out.refl _ _ | refine Out.upd rfl ?_ | refine Out.msk rfl ?_)), rfl, hw⟩)
  refine l_mv rfl ?_
  refine l_band (q := ((x.conf.ok ∧ (((x.data.length : Nat) : Int) ≤ 32768)) ∧ ((((x.index : Nat) : Int) = ((0 : Nat) : Int)) ↔ (((x.term : Nat) : Int) = ((0 : Nat) : Int)))) ∧ (((x.index : Nat) : Int) ≤ ((4611686018427387904 : Nat) : Int))) 3 23 [29, 28, 27] (((x.term : Nat) : Int) ≤ ((4611686018427387904 : Nat) : Int)) rfl rfl rfl rfl rfl rfl trivial rfl (fun h1_23 => ?_) (fun g1_27 => ?_)
  ·
    refine l_on rfl (gT h1_23) ?_
    refine l_fld (o := 1) rfl (by kernel_rfl) rfl ?_
    refine l_on rfl (gT h1_23) ?_
    refine l_ldo 0 (v := .int .u64 (x.term : Nat)) rfl rfl rfl (by kernel_rfl) rfl ?_
    refine l_on rfl (gT h1_23) ?_
    refine l_leq rfl rfl rfl ?_
    exact l_nil (fun w' hw => ⟨(by repeat (first | exact Out.refl _ _ | refine Out.upd rfl ?_ | refine Out.msk rfl ?_)), rfl, hw⟩)
  refine l_as rfl ?_
  refine l_end ?_
  exact c_ret (ret1 (v := .bool (decide ((((x.conf.ok ∧ (((x.data.length : Nat) : Int) ≤ 32768)) ∧ ((((x.index : Nat) : Int) = ((0 : Nat) : Int)) ↔ (((x.term : Nat) : Int) = ((0 : Nat) : Int)))) ∧ (((x.index : Nat) : Int) ≤ ((4611686018427387904 : Nat) : Int))) ∧ (((x.term : Nat) : Int) ≤ ((4611686018427387904 : Nat) : Int))))) rfl rfl (fun w' hw => ⟨(by congr 1; exact decide_eq_decide.2 (by unfold ShtA.ok ShtD.a; dsimp only; exact ⟨fun h => ⟨⟨⟨⟨h.1.1.1.1, by have := h.1.1.1.2; omega⟩, by have := h.1.1.2; omega⟩, by have := h.1.2; omega⟩, by have := h.2; omega⟩, fun h => ⟨⟨⟨⟨h.1.1.1.1, by have := h.1.1.1.2; omega⟩, by have := h.1.1.2; omega⟩, by have := h.1.2; omega⟩, by have := h.2; omega⟩⟩)), hw.drop⟩))
theorem shtWrite_s (o : Nat) (sl : Value) (bs : List UInt8) (x : ShtD) (cb : Nat) (w : World) (hx : x.wf) (hb : bs.length + x.a.enc.length ≤ 50000000000) (hcb : Rd w (fps [Res.bv o TOut sl bs]) (Res.row cb 144 [.func (.func 122) #[] #[], .func (.func 127) #[] #[], .func (.func 129) #[] #[]])) (rd_x : ShtD.rd x w (fps [Res.bv o TOut sl bs])) (hin : Own w (fps [Res.bv o TOut sl bs]) [Res.bv o TOut sl bs] w) : Rets Try.prog 132 #[.pointer (some ⟨o, 0, none⟩), .agg (ShtD.cells x).toArray, .pointer (some ⟨cb, 0, none⟩)] w fun u_ w' => ∃ (sl' : Value), u_ = .tuple #[] ∧ Own w (fps [Res.bv o TOut sl bs]) [Res.bv o TOut sl' (bs ++ x.a.enc)] w' := by
  have hd := hx.data
  have h1 := hx.index
  have h2 := hx.term
  have hv := hx.conf.vs
  have hl := hx.conf.ls
  have hce := x.conf.enc_le
  have he : x.a.enc.length = (numsB [x.index, x.term]).length + x.conf.enc.length + (dat x.data).length := by simp [ShtA.enc, ShtD.a, ConfD.enc, ConfA.enc, ConfD.a]; omega
  refine fn_enter (args := [.pointer (some ⟨o, 0, none⟩), .agg (ShtD.cells x).toArray, .pointer (some ⟨cb, 0, none⟩)]) Try.func132 rfl Try.ntmps132 rfl (show Own w (fps [Res.bv o TOut sl bs]) [Res.bv o TOut sl bs] w from hin) ?_
  refine c_reg ?_
  refine l_box rfl rfl (fun b4 => ?_)
  refine l_end ?_
  refine c_reg ?_
  refine l_mv rfl ?_
  refine l_fld (o := 0) rfl (by kernel_rfl) rfl ?_
  refine l_ldo 1 (v := .int .u64 (x.index : Nat)) rfl rfl rfl (by kernel_rfl) rfl ?_
  refine l_fld (o := 1) rfl (by kernel_rfl) rfl ?_
  refine l_ldo 1 (v := .int .u64 (x.term : Nat)) rfl rfl rfl (by kernel_rfl) rfl ?_
  refine l_bsl (e := 22) (sz := 1) (vs := [.int .u64 (x.index : Nat), .int .u64 (x.term : Nat)]) (by kernel_rfl) rfl rfl (by simp [Value.cells]) (by decide) rfl (fun b10 => ?_)
  refine l_call (by kernel_rfl) rfl rfl (fun w' hw => ?_)
  refine (nums_s o _ _ (.slice (some ⟨b10, 0, none⟩) 2 2) [x.index, x.term] w' (by first | assumption | (simp [u64_lt]; done) | (simp [u64_lt]; omega) | (simp; omega)) (by first | assumption | omega | (simp <;> omega) | (constructor <;> (first | omega | (simp only [LenOk]; omega) | (simp <;> omega)))) (hw.rdVec 2 rfl [0] rfl rfl) (hw.give [0] rfl (by decide))).mono ?_
  rintro _ w1 ⟨sl'1_, rfl, hO⟩
  refine (?_ : CL _ _ _ _ _ _ (Own w (fps [Res.bv o TOut sl bs]) [Res.row b4 55 (ShtD.cells x), Res.vec 22 1 (.slice (some ⟨b10, 0, none⟩) 2 2) [x.index, x.term].length ([x.index, x.term].flatMap U1), Res.bv o TOut sl'1_ (bs ++ numsB [x.index, x.term])])) w1 (hw.frameL [0] rfl hO)
  refine l_end ?_
  refine c_reg ?_
  refine l_fld (o := 1) rfl (by kernel_rfl) rfl ?_
  refine l_ldq (v := .func (.func 127) #[] #[]) rfl (hcb.φ.cell rfl) (hcb.far _ (by simp [Res.row])) (by kernel_rfl) rfl ?_
  refine l_mv rfl ?_
  refine l_fld (o := 2) rfl (by kernel_rfl) rfl ?_
  refine l_ldoN (cs := (ShtD.cells x)) 0 (ConfD.cells x.conf) rfl rfl (sub_at' 2 rfl) (by kernel_rfl) rfl ?_
  refine l_callv (fst := []) (cap := []) rfl (by kernel_rfl) rfl rfl (fun w' hw => ?_)
  refine (confWrite_s o sl'1_ (bs ++ numsB [x.index, x.term]) x.conf w' (by first | assumption | omega | (simp <;> omega) | (constructor <;> (first | omega | (simp only [LenOk]; omega) | (simp <;> omega)))) (rd_x.conf.at hw [2] rfl) (hw.give [2] rfl (by decide))).mono ?_
  rintro _ w1 ⟨sl'2_, rfl, hO⟩
  refine (?_ : CL _ _ _ _ _ _ (Own w (fps [Res.bv o TOut sl bs]) [Res.row b4 55 (ShtD.cells x), Res.vec 22 1 (.slice (some ⟨b10, 0, none⟩) 2 2) [x.index, x.term].length ([x.index, x.term].flatMap U1), Res.bv o TOut sl'2_ ((bs ++ numsB [x.index, x.term]) ++ x.conf.enc)])) w1 (hw.frameL [2] rfl hO)
  refine l_end ?_
  refine c_last ?_
  refine l_mv rfl ?_
  refine l_fld (o := 4) rfl (by kernel_rfl) rfl ?_
  refine l_ldo 0 (v := x.dv) rfl rfl rfl (by kernel_rfl) rfl ?_
  refine l_bsl1 (e := 32) (vs := [x.dv]) (by kernel_rfl) rfl rfl (allc_cons (Sl.cell1 (Rd.φ rd_x.dv)) allc_nil) (by decide) rfl (fun b21 => ?_)
  refine l_call (by kernel_rfl) rfl rfl (fun w' hw => ?_)
  refine (data_s o sl'2_ ((bs ++ numsB [x.index, x.term]) ++ x.conf.enc) (.slice (some ⟨b21, 0, none⟩) 1 1) [(x.dv, x.data)] w' (by simp [datsB]; omega) (by show 1 ≤ _; omega) (hw.rdVec 3 rfl [2] rfl rfl) (all_cons (hw.rdTo rd_x.dv [2] rfl) (fun p hp => by cases hp)) (hw.give [2] rfl (by decide))).mono ?_
  rintro _ w1 ⟨sl'3_, rfl, hO⟩
  refine (?_ : CL _ _ _ _ _ _ (Own w (fps [Res.bv o TOut sl bs]) [Res.row b4 55 (ShtD.cells x), Res.vec 22 1 (.slice (some ⟨b10, 0, none⟩) 2 2) [x.index, x.term].length ([x.index, x.term].flatMap U1), Res.vec 32 1 (.slice (some ⟨b21, 0, none⟩) 1 1) [(x.dv, x.data)].length ([(x.dv, x.data)].flatMap pv), Res.bv o TOut sl'3_ (((bs ++ numsB [x.index, x.term]) ++ x.conf.enc) ++ datsB [(x.dv, x.data)])])) w1 (hw.frameL [2] rfl hO)
  exact l_nil (ret0 rfl (fun w' hw => ⟨sl'3_, rfl, by have h := hw.one 3 rfl; simpa [ShtA.enc, ShtD.a, ConfD.enc, ConfA.enc, ConfD.a, datsB] using h⟩))
theorem shots_s (w : World) : Rets Try.prog 74 #[] w fun u_ w' => ∃ (cb : Nat), u_ = .agg #[.func (.func 131) #[] #[.pointer (some ⟨cb, 0, none⟩)], .func (.func 132) #[] #[.pointer (some ⟨cb, 0, none⟩)], .func (.func 133) #[] #[.pointer (some ⟨cb, 0, none⟩)]] ∧ Own w [] [Res.row cb 144 [.func (.func 122) #[] #[], .func (.func 127) #[] #[], .func (.func 129) #[] #[]]] w' := by
  refine fn_enter (args := []) Try.func74 rfl Try.ntmps74 rfl (Own.start w) ?_
  refine c_reg ?_
  refine l_new (v := .agg #[.nilFunc, .nilFunc, .nilFunc]) (by kernel_rfl) rfl (fun b0 => ?_)
  refine l_end ?_
  refine c_reg ?_
  refine l_call (by kernel_rfl) rfl rfl (fun w' hw => ?_)
  refine (confs_s w').mono ?_
  rintro _ w1 ⟨rfl, hO⟩
  refine (?_ : CL _ _ _ _ _ _ (Own w [] [Res.row b0 149 [.nilFunc, .nilFunc, .nilFunc]])) w1 (hw.frame0 hO)
  refine l_new (v := .agg #[.nilFunc, .nilFunc, .nilFunc]) (by kernel_rfl) rfl (fun b1 => ?_)
  refine l_stN (cs := [.nilFunc, .nilFunc, .nilFunc]) (vs := [.func (.func 122) #[] #[], .func (.func 127) #[] #[], .func (.func 129) #[] #[]]) 1 rfl rfl rfl (by kernel_rfl) (allc_cons rfl (allc_cons rfl (allc_cons rfl allc_nil))) (Nat.le_of_ble_eq_true rfl) ?_
  refine l_end ?_
  refine c_reg ?_
  refine l_fn (va := []) (vb := [.pointer (some ⟨b1, 0, none⟩)]) rfl rfl rfl ?_
  refine l_fn (va := []) (vb := [.pointer (some ⟨b1, 0, none⟩)]) rfl rfl rfl ?_
  refine l_fn (va := []) (vb := [.pointer (some ⟨b1, 0, none⟩)]) rfl rfl rfl ?_
  refine l_bld (cs := [.func (.func 131) #[] #[.pointer (some ⟨b1, 0, none⟩)], .func (.func 132) #[] #[.pointer (some ⟨b1, 0, none⟩)], .func (.func 133) #[] #[.pointer (some ⟨b1, 0, none⟩)]]) (z := [.nilFunc, .nilFunc, .nilFunc]) (pl := [(0, 1), (1, 1), (2, 1)]) (by kernel_rfl) (by kernel_rfl) rfl ?_
  refine l_stN (cs := [.nilFunc, .nilFunc, .nilFunc]) (vs := [.func (.func 131) #[] #[.pointer (some ⟨b1, 0, none⟩)], .func (.func 132) #[] #[.pointer (some ⟨b1, 0, none⟩)], .func (.func 133) #[] #[.pointer (some ⟨b1, 0, none⟩)]]) 0 rfl rfl rfl (by kernel_rfl) (allc_cons rfl (allc_cons rfl (allc_cons rfl allc_nil))) (Nat.le_of_ble_eq_true rfl) ?_
  refine l_end ?_
  exact c_ret (retc (cs := [.func (.func 131) #[] #[.pointer (some ⟨b1, 0, none⟩)], .func (.func 132) #[] #[.pointer (some ⟨b1, 0, none⟩)], .func (.func 133) #[] #[.pointer (some ⟨b1, 0, none⟩)]]) rfl rfl (by kernel_rfl) (Own.rowCells (i := 0) rfl) (fun w' hw => ⟨b1, rfl, hw.sel [1] rfl (by decide)⟩))
theorem shtBytes_s (x : ShtD) (cb : Nat) (w : World) (hx : x.wf) (hcb : Rd w [] (Res.row cb 144 [.func (.func 122) #[] #[], .func (.func 127) #[] #[], .func (.func 129) #[] #[]])) (rd_x : ShtD.rd x w []) : Rets Try.prog 75 #[.agg #[.func (.func 131) #[] #[.pointer (some ⟨cb, 0, none⟩)], .func (.func 132) #[] #[.pointer (some ⟨cb, 0, none⟩)], .func (.func 133) #[] #[.pointer (some ⟨cb, 0, none⟩)]], .agg (ShtD.cells x).toArray] w fun u_ w' => ∃ (r : Value), u_ = .tuple #[r, .int .i64 (errOf x.a.ok)] ∧ Own w [] [Res.vec 5 1 r (if x.a.ok then x.a.enc else []).length ((if x.a.ok then x.a.enc else []).map vb)] w' := by
  have hd := hx.data
  have hle := ShtD.enc_le hx
  have hv := hx.conf.vs
  have hl := hx.conf.ls
  refine fn_enter (args := [.agg #[.func (.func 131) #[] #[.pointer (some ⟨cb, 0, none⟩)], .func (.func 132) #[] #[.pointer (some ⟨cb, 0, none⟩)], .func (.func 133) #[] #[.pointer (some ⟨cb, 0, none⟩)]], .agg (ShtD.cells x).toArray]) Try.func75 rfl Try.ntmps75 rfl (Own.start w) ?_
  refine c_reg ?_
  refine l_box rfl rfl (fun b2 => ?_)
  refine l_box rfl rfl (fun b3 => ?_)
  refine l_as rfl ?_
  refine l_as rfl ?_
  refine l_end ?_
  refine c_seq ?_
  refine c_reg ?_
  refine l_fld (o := 0) rfl (by kernel_rfl) rfl ?_
  refine l_ldo 0 (v := .func (.func 131) #[] #[.pointer (some ⟨cb, 0, none⟩)]) rfl rfl rfl (by kernel_rfl) rfl ?_
  refine l_ldr (cs := (ShtD.cells x)) 1 rfl rfl (by kernel_rfl) rfl ?_
  refine l_callv (fst := []) (cap := [.pointer (some ⟨cb, 0, none⟩)]) rfl (by kernel_rfl) rfl rfl (fun w' hw => ?_)
  refine (shtSound_s x cb w' (by first | assumption | omega | (simp <;> omega) | (constructor <;> (first | omega | (simp only [LenOk]; omega) | (simp <;> omega)))) (hw.rd0 hcb) (rd_x.at0 hw)).mono ?_
  rintro _ w1 ⟨rfl, hO⟩
  refine (?_ : CL _ _ _ _ _ _ (Own w [] [Res.row b2 149 [.func (.func 131) #[] #[.pointer (some ⟨cb, 0, none⟩)], .func (.func 132) #[] #[.pointer (some ⟨cb, 0, none⟩)], .func (.func 133) #[] #[.pointer (some ⟨cb, 0, none⟩)]], Res.row b3 55 (ShtD.cells x)])) w1 (hw.frame0 hO)
  refine l_notp (q := x.a.ok) rfl rfl ?_
  refine l_end ?_
  refine c_dec rfl (fun c1 => ?_) (fun c1 => ?_)
  ·
    refine c_reg ?_
    refine l_as rfl ?_
    refine l_as rfl ?_
    refine l_end ?_
    exact c_ret (ret2 (v := .slice none 0 0) (v' := .int .i64 2) rfl rfl rfl (fun w' hw => ⟨.slice none 0 0, (by rw [errOf_F c1]), by rw [if_neg c1]; exact (own_nil hw T8 1).one 2 rfl⟩))
  ·
    refine c_skipC ?_
    refine c_reg ?_
    refine l_bld (cs := [.slice none 0 0]) (z := [.slice none 0 0]) (pl := [(0, 1)]) (by kernel_rfl) (by kernel_rfl) rfl ?_
    refine l_box rfl rfl (fun b13 => ?_)
    refine l_as rfl ?_
    refine l_end ?_
    refine c_reg ?_
    refine l_fld (o := 1) rfl (by kernel_rfl) rfl ?_
    refine l_ldo 0 (v := .func (.func 132) #[] #[.pointer (some ⟨cb, 0, none⟩)]) rfl rfl rfl (by kernel_rfl) rfl ?_
    refine l_mv rfl ?_
    refine l_ldr (cs := (ShtD.cells x)) 1 rfl rfl (by kernel_rfl) rfl ?_
    refine l_own [Res.row b2 149 [.func (.func 131) #[] #[.pointer (some ⟨cb, 0, none⟩)], .func (.func 132) #[] #[.pointer (some ⟨cb, 0, none⟩)], .func (.func 133) #[] #[.pointer (some ⟨cb, 0, none⟩)]], Res.row b3 55 (ShtD.cells x), Res.bv b13 TOut (.slice none 0 0) ([] : List UInt8)] (fun w' hw => (own_nil hw T8 1).joinBv (i := 2) (j := 3) (by decide) rfl rfl) ?_
    refine l_callv (fst := []) (cap := [.pointer (some ⟨cb, 0, none⟩)]) rfl (by kernel_rfl) rfl rfl (fun w' hw => ?_)
    refine (shtWrite_s b13 (.slice none 0 0) ([] : List UInt8) x cb w' (by first | assumption | omega | (simp <;> omega) | (constructor <;> (first | omega | (simp only [LenOk]; omega) | (simp <;> omega)))) (by first | assumption | omega | (simp <;> omega) | (constructor <;> (first | omega | (simp only [LenOk]; omega) | (simp <;> omega)))) (hw.rdTo hcb [2] rfl) (rd_x.at hw [2] rfl) (hw.give [2] rfl (by decide))).mono ?_
    rintro _ w1 ⟨sl'1_, rfl, hO⟩
    refine (?_ : CL _ _ _ _ _ _ (Own w [] [Res.row b2 149 [.func (.func 131) #[] #[.pointer (some ⟨cb, 0, none⟩)], .func (.func 132) #[] #[.pointer (some ⟨cb, 0, none⟩)], .func (.func 133) #[] #[.pointer (some ⟨cb, 0, none⟩)]], Res.row b3 55 (ShtD.cells x), Res.bv b13 TOut sl'1_ (([] : List UInt8) ++ x.a.enc)])) w1 (hw.frameL [2] rfl hO)
    refine l_end ?_
    refine c_reg ?_
    refine l_mv rfl ?_
    refine l_nck rfl rfl ?_
    refine l_fld (o := 0) rfl (by kernel_rfl) rfl ?_
    refine l_own [Res.row b2 149 [.func (.func 131) #[] #[.pointer (some ⟨cb, 0, none⟩)], .func (.func 132) #[] #[.pointer (some ⟨cb, 0, none⟩)], .func (.func 133) #[] #[.pointer (some ⟨cb, 0, none⟩)]], Res.row b3 55 (ShtD.cells x), Res.row b13 TOut [sl'1_], Res.vec 5 1 sl'1_ (([] : List UInt8) ++ x.a.enc).length ((([] : List UInt8) ++ x.a.enc).map vb)] (fun w' hw => hw.splitBv (i := 2) (o := b13) (T := TOut) (v := sl'1_) (bs := (([] : List UInt8) ++ x.a.enc)) rfl) ?_
    refine l_ldo 2 (v := sl'1_) rfl rfl rfl (by kernel_rfl) rfl ?_
    refine l_as rfl ?_
    refine l_as rfl ?_
    refine l_end ?_
    exact c_ret (ret2 (v := sl'1_) (v' := .int .i64 0) rfl rfl rfl (fun w' hw => ⟨sl'1_, (by rw [errOf_T (Decidable.not_not.1 c1)]), by rw [if_pos (Decidable.not_not.1 c1)]; exact hw.one 3 rfl⟩))
theorem msgShot_s (x : ShtD) (w : World) (hx : x.wf) (rd_x : ShtD.rd x w []) : Rets Try.prog 28 #[.agg (ShtD.cells x).toArray] w fun u_ w' => ∃ (r : Value), u_ = .tuple #[r, .int .i64 (errOf x.a.ok)] ∧ Own w [] [Res.vec 5 1 r (if x.a.ok then x.a.enc else []).length ((if x.a.ok then x.a.enc else []).map vb)] w' := by
  refine fn_enter (args := [.agg (ShtD.cells x).toArray]) Try.func28 rfl Try.ntmps28 rfl (Own.start w) ?_
  refine c_reg ?_
  refine l_box rfl rfl (fun b1 => ?_)
  refine l_as rfl ?_
  refine l_as rfl ?_
  refine l_end ?_
  refine c_seq ?_
  refine c_heldo [0] rfl (by decide) (by kernel_rfl) (fun w' hw hS => ?_)
  refine h_take 1 rfl (by kernel_rfl) (by kernel_rfl) (by kernel_rfl) (v_ldr (cs := (ShtD.cells x)) 0 rfl rfl (by kernel_rfl)) rfl hS ?_
  refine h_one 0 (by kernel_rfl) rfl hw ?_
  refine l_call (by kernel_rfl) rfl rfl (fun w' hw => ?_)
  refine (shots_s w').mono ?_
  rintro _ w1 ⟨cb1_, rfl, hO⟩
  refine (?_ : CL _ _ _ _ _ _ (Own w [] [Res.row b1 55 (ShtD.cells x), Res.row cb1_ 144 [.func (.func 122) #[] #[], .func (.func 127) #[] #[], .func (.func 129) #[] #[]]])) w1 (hw.frame0 hO)
  refine l_nil (fun w' hw => ?_)
  have hS := hw.sel [0] rfl (by decide)
  refine ⟨hS, ?_⟩
  refine h_one 2 (by kernel_rfl) rfl hw ?_
  refine l_call (by kernel_rfl) rfl rfl (fun w' hw => ?_)
  refine (shtBytes_s x cb1_ w' (by first | assumption | omega | (simp <;> omega) | (constructor <;> (first | omega | (simp only [LenOk]; omega) | (simp <;> omega)))) (hw.rdRes0 1 rfl) (rd_x.at0 hw)).mono ?_
  rintro _ w1 ⟨r2_, rfl, hO⟩
  refine (?_ : CL _ _ _ _ _ _ (Own w [] [Res.row b1 55 (ShtD.cells x), Res.row cb1_ 144 [.func (.func 122) #[] #[], .func (.func 127) #[] #[], .func (.func 129) #[] #[]], Res.vec 5 1 r2_ (if x.a.ok then x.a.enc else []).length ((if x.a.ok then x.a.enc else []).map vb)])) w1 (hw.frame0 hO)
  refine l_nil (fun w' hw => ?_)
  have hS := hw.sel [0] rfl (by decide)
  refine ⟨hS, ?_⟩
  refine h_take 3 rfl (by kernel_rfl) (by kernel_rfl) (by kernel_rfl) (v_ext (vs := [r2_, .int .i64 (errOf x.a.ok)]) rfl rfl) rfl hS ?_
  refine h_take 4 rfl (by kernel_rfl) (by kernel_rfl) (by kernel_rfl) (v_ext (vs := [r2_, .int .i64 (errOf x.a.ok)]) rfl rfl) rfl hS ?_
  refine h_take 5 rfl (by kernel_rfl) (by kernel_rfl) (by kernel_rfl) (v_as) rfl hS ?_
  refine h_take 6 rfl (by kernel_rfl) (by kernel_rfl) (by kernel_rfl) (v_as) rfl hS ?_
  refine h_done (by kernel_rfl) ?_
  refine (?_ : C _ _ _ _ _ _ _ (Own w [] [Res.row b1 55 (ShtD.cells x), Res.row cb1_ 144 [.func (.func 122) #[] #[], .func (.func 127) #[] #[], .func (.func 129) #[] #[]], Res.vec 5 1 r2_ (if x.a.ok then x.a.enc else []).length ((if x.a.ok then x.a.enc else []).map vb)])) _ hw
  exact c_ret (ret2 (v := r2_) (v' := .int .i64 (errOf x.a.ok)) rfl rfl rfl (fun w' hw => ⟨r2_, rfl, hw.sel [2] rfl (by decide)⟩))

theorem rconfWrite_s (o : Nat) (v : Value) (bs : List UInt8) (c : ConfD) (w : World) (hf : c.few) (hb : bs.length + c.enc.length ≤ 60000000000) (rd_c : ConfD.rd c w (fps [Res.row o 130 [v], Res.vec 5 1 v bs.length (bs.map vb)])) (hin : Own w (fps [Res.row o 130 [v], Res.vec 5 1 v bs.length (bs.map vb)]) [Res.row o 130 [v], Res.vec 5 1 v bs.length (bs.map vb)] w) : Rets Try.prog 81 #[.pointer (some ⟨o, 0, none⟩), .agg (ConfD.cells c).toArray] w fun u_ w' => ∃ (v' : Value), u_ = .tuple #[] ∧ Own w (fps [Res.row o 130 [v], Res.vec 5 1 v bs.length (bs.map vb)]) [Res.row o 130 [v'], Res.vec 5 1 v' (bs ++ c.enc).length ((bs ++ c.enc).map vb)] w' := by
  have hv := hf.vs
  have hl := hf.ls
  have he : c.enc.length = (idsB c.vs).length + (idsB c.ls).length := by simp [ConfD.enc]
  refine fn_enter (args := [.pointer (some ⟨o, 0, none⟩), .agg (ConfD.cells c).toArray]) Try.func81 rfl Try.ntmps81 rfl (show Own w (fps [Res.row o 130 [v], Res.vec 5 1 v bs.length (bs.map vb)]) [Res.row o 130 [v], Res.vec 5 1 v bs.length (bs.map vb)] w from hin) ?_
  refine c_reg ?_
  refine l_box rfl rfl (fun b3 => ?_)
  refine l_end ?_
  refine c_reg ?_
  refine l_mv rfl ?_
  refine l_fld (o := 0) rfl (by kernel_rfl) rfl ?_
  refine l_ldo 2 (v := c.vv) rfl rfl rfl (by kernel_rfl) rfl ?_
  refine l_call (by kernel_rfl) rfl rfl (fun w' hw => ?_)
  refine (rIds_s o v bs c.vv c.vs w' (by first | assumption | omega | (simp <;> omega) | (constructor <;> (first | omega | (simp only [LenOk]; omega) | (simp <;> omega)))) (by first | assumption | omega | (simp <;> omega) | (constructor <;> (first | omega | (simp only [LenOk]; omega) | (simp <;> omega)))) (hw.rdTo rd_c.vv [0, 1] rfl) (hw.give [0, 1] rfl (by decide))).mono ?_
  rintro _ w1 ⟨v'1_, rfl, hO⟩
  refine (?_ : CL _ _ _ _ _ _ (Own w (fps [Res.row o 130 [v], Res.vec 5 1 v bs.length (bs.map vb)]) [Res.row b3 53 (ConfD.cells c), Res.row o 130 [v'1_], Res.vec 5 1 v'1_ (bs ++ idsB c.vs).length ((bs ++ idsB c.vs).map vb)])) w1 (hw.frameL [0, 1] rfl hO)
  refine l_end ?_
  refine c_last ?_
  refine l_mv rfl ?_
  refine l_fld (o := 1) rfl (by kernel_rfl) rfl ?_
  refine l_ldo 0 (v := c.lv) rfl rfl rfl (by kernel_rfl) rfl ?_
  refine l_call (by kernel_rfl) rfl rfl (fun w' hw => ?_)
  refine (rIds_s o v'1_ (bs ++ idsB c.vs) c.lv c.ls w' (by first | assumption | omega | (simp <;> omega) | (constructor <;> (first | omega | (simp only [LenOk]; omega) | (simp <;> omega)))) (by first | assumption | omega | (simp <;> omega) | (constructor <;> (first | omega | (simp only [LenOk]; omega) | (simp <;> omega)))) (hw.rdTo rd_c.lv [1, 2] rfl) (hw.give [1, 2] rfl (by decide))).mono ?_
  rintro _ w1 ⟨v'2_, rfl, hO⟩
  refine (?_ : CL _ _ _ _ _ _ (Own w (fps [Res.row o 130 [v], Res.vec 5 1 v bs.length (bs.map vb)]) [Res.row b3 53 (ConfD.cells c), Res.row o 130 [v'2_], Res.vec 5 1 v'2_ ((bs ++ idsB c.vs) ++ idsB c.ls).length (((bs ++ idsB c.vs) ++ idsB c.ls).map vb)])) w1 (hw.frameL [1, 2] rfl hO)
  exact l_nil (ret0 rfl (fun w' hw => ⟨v'2_, rfl, by have h := hw.sel [1, 2] rfl (by decide); simpa [ConfD.enc] using h⟩))
theorem rconf_s (c : ConfD) (w : World) (hf : c.few) (rd_c : ConfD.rd c w []) : Rets Try.prog 34 #[.agg (ConfD.cells c).toArray] w fun u_ w' => ∃ (r : Value), u_ = r ∧ Own w [] [Res.vec 5 1 r c.enc.length (c.enc.map vb)] w' := by
  have hv := hf.vs
  have hl := hf.ls
  have he := c.enc_le
  refine fn_enter (args := [.agg (ConfD.cells c).toArray]) Try.func34 rfl Try.ntmps34 rfl (Own.start w) ?_
  refine c_reg ?_
  refine l_box rfl rfl (fun b1 => ?_)
  refine l_as rfl ?_
  refine l_end ?_
  refine c_reg ?_
  refine l_bld (cs := [.slice none 0 0]) (z := [.slice none 0 0]) (pl := [(0, 1)]) (by kernel_rfl) (by kernel_rfl) rfl ?_
  refine l_box rfl rfl (fun b5 => ?_)
  refine l_as rfl ?_
  refine l_end ?_
  refine c_reg ?_
  refine l_mv rfl ?_
  refine l_ldr (cs := (ConfD.cells c)) 0 rfl rfl (by kernel_rfl) rfl ?_
  refine l_addnil 5 1 ?_
  refine l_call (by kernel_rfl) rfl rfl (fun w' hw => ?_)
  refine (rconfWrite_s b5 (.slice none 0 0) [] c w' (by first | assumption | omega | (simp <;> omega) | (constructor <;> (first | omega | (simp only [LenOk]; omega) | (simp <;> omega)))) (by first | assumption | omega | (simp <;> omega) | (constructor <;> (first | omega | (simp only [LenOk]; omega) | (simp <;> omega)))) (rd_c.at hw [1, 2] rfl) (hw.give [1, 2] rfl (by decide))).mono ?_
  rintro _ w1 ⟨v'1_, rfl, hO⟩
  refine (?_ : CL _ _ _ _ _ _ (Own w [] [Res.row b1 53 (ConfD.cells c), Res.row b5 130 [v'1_], Res.vec 5 1 v'1_ ([] ++ c.enc).length (([] ++ c.enc).map vb)])) w1 (hw.frameL [1, 2] rfl hO)
  refine l_end ?_
  refine c_reg ?_
  refine l_mv rfl ?_
  refine l_nck rfl rfl ?_
  refine l_fld (o := 0) rfl (by kernel_rfl) rfl ?_
  refine l_ldo 1 (v := v'1_) rfl rfl rfl (by kernel_rfl) rfl ?_
  refine l_as rfl ?_
  refine l_end ?_
  exact c_ret (ret1 (v := v'1_) rfl rfl (fun w' hw => ⟨v'1_, rfl, hw.sel [2] rfl (by decide)⟩))
theorem rshot_s (x : ShtD) (w : World) (hx : x.wf) (rd_x : ShtD.rd x w []) : Rets Try.prog 36 #[.agg (ShtD.cells x).toArray] w fun u_ w' => ∃ (r : Value), u_ = r ∧ Own w [] [Res.vec 5 1 r x.a.enc.length (x.a.enc.map vb)] w' := by
  have hd := hx.data
  have h1 := hx.index
  have h2 := hx.term
  have hv := hx.conf.vs
  have hl := hx.conf.ls
  have hce := x.conf.enc_le
  have hn1 := num_le h1
  have hn2 := num_le h2
  have hd2 := dat_length x.data (by omega)
  refine fn_enter (args := [.agg (ShtD.cells x).toArray]) Try.func36 rfl Try.ntmps36 rfl (Own.start w) ?_
  refine c_reg ?_
  refine l_box rfl rfl (fun b1 => ?_)
  refine l_as rfl ?_
  refine l_end ?_
  refine c_reg ?_
  refine l_bld (cs := [.slice none 0 0]) (z := [.slice none 0 0]) (pl := [(0, 1)]) (by kernel_rfl) (by kernel_rfl) rfl ?_
  refine l_box rfl rfl (fun b5 => ?_)
  refine l_as rfl ?_
  refine l_end ?_
  refine c_reg ?_
  refine l_mv rfl ?_
  refine l_fld (o := 0) rfl (by kernel_rfl) rfl ?_
  refine l_ldo 0 (v := .int .u64 (x.index : Nat)) rfl rfl rfl (by kernel_rfl) rfl ?_
  refine l_addnil 5 1 ?_
  refine l_call (by kernel_rfl) rfl rfl (fun w' hw => ?_)
  refine (rNum_s b5 (.slice none 0 0) [] x.index w' (by first | assumption | omega | (simp <;> omega) | (constructor <;> (first | omega | (simp only [LenOk]; omega) | (simp <;> omega)))) (by first | assumption | omega | (simp <;> omega) | (constructor <;> (first | omega | (simp only [LenOk]; omega) | (simp <;> omega)))) (hw.give [1, 2] rfl (by decide))).mono ?_
  rintro _ w1 ⟨v'1_, rfl, hO⟩
  refine (?_ : CL _ _ _ _ _ _ (Own w [] [Res.row b1 55 (ShtD.cells x), Res.row b5 130 [v'1_], Res.vec 5 1 v'1_ ([] ++ num x.index).length (([] ++ num x.index).map vb)])) w1 (hw.frameL [1, 2] rfl hO)
  refine l_end ?_
  refine c_reg ?_
  refine l_mv rfl ?_
  refine l_fld (o := 1) rfl (by kernel_rfl) rfl ?_
  refine l_ldo 0 (v := .int .u64 (x.term : Nat)) rfl rfl rfl (by kernel_rfl) rfl ?_
  refine l_call (by kernel_rfl) rfl rfl (fun w' hw => ?_)
  refine (rNum_s b5 v'1_ ([] ++ num x.index) x.term w' (by first | assumption | omega | (simp <;> omega) | (constructor <;> (first | omega | (simp only [LenOk]; omega) | (simp <;> omega)))) (by first | assumption | omega | (simp <;> omega) | (constructor <;> (first | omega | (simp only [LenOk]; omega) | (simp <;> omega)))) (hw.give [1, 2] rfl (by decide))).mono ?_
  rintro _ w1 ⟨v'2_, rfl, hO⟩
  refine (?_ : CL _ _ _ _ _ _ (Own w [] [Res.row b1 55 (ShtD.cells x), Res.row b5 130 [v'2_], Res.vec 5 1 v'2_ (([] ++ num x.index) ++ num x.term).length ((([] ++ num x.index) ++ num x.term).map vb)])) w1 (hw.frameL [1, 2] rfl hO)
  refine l_end ?_
  refine c_reg ?_
  refine l_mv rfl ?_
  refine l_fld (o := 2) rfl (by kernel_rfl) rfl ?_
  refine l_ldoN (cs := (ShtD.cells x)) 0 (ConfD.cells x.conf) rfl rfl (sub_at' 2 rfl) (by kernel_rfl) rfl ?_
  refine l_call (by kernel_rfl) rfl rfl (fun w' hw => ?_)
  refine (rconfWrite_s b5 v'2_ (([] ++ num x.index) ++ num x.term) x.conf w' hx.conf (by first | assumption | omega | (simp <;> omega) | (constructor <;> (first | omega | (simp only [LenOk]; omega) | (simp <;> omega)))) (rd_x.conf.at hw [1, 2] rfl) (hw.give [1, 2] rfl (by decide))).mono ?_
  rintro _ w1 ⟨v'3_, rfl, hO⟩
  refine (?_ : CL _ _ _ _ _ _ (Own w [] [Res.row b1 55 (ShtD.cells x), Res.row b5 130 [v'3_], Res.vec 5 1 v'3_ ((([] ++ num x.index) ++ num x.term) ++ x.conf.enc).length (((([] ++ num x.index) ++ num x.term) ++ x.conf.enc).map vb)])) w1 (hw.frameL [1, 2] rfl hO)
  refine l_end ?_
  refine c_reg ?_
  refine l_mv rfl ?_
  refine l_fld (o := 4) rfl (by kernel_rfl) rfl ?_
  refine l_ldo 0 (v := x.dv) rfl rfl rfl (by kernel_rfl) rfl ?_
  refine l_call (by kernel_rfl) rfl rfl (fun w' hw => ?_)
  refine (rData_s b5 v'3_ ((([] ++ num x.index) ++ num x.term) ++ x.conf.enc) x.dv x.data w' (by first | assumption | omega | (simp <;> omega) | (constructor <;> (first | omega | (simp only [LenOk]; omega) | (simp <;> omega)))) (by first | assumption | omega | (simp <;> omega) | (constructor <;> (first | omega | (simp only [LenOk]; omega) | (simp <;> omega)))) (hw.rdTo rd_x.dv [1, 2] rfl) (hw.give [1, 2] rfl (by decide))).mono ?_
  rintro _ w1 ⟨v'4_, rfl, hO⟩
  refine (?_ : CL _ _ _ _ _ _ (Own w [] [Res.row b1 55 (ShtD.cells x), Res.row b5 130 [v'4_], Res.vec 5 1 v'4_ (((([] ++ num x.index) ++ num x.term) ++ x.conf.enc) ++ dat x.data).length ((((([] ++ num x.index) ++ num x.term) ++ x.conf.enc) ++ dat x.data).map vb)])) w1 (hw.frameL [1, 2] rfl hO)
  refine l_end ?_
  refine c_reg ?_
  refine l_mv rfl ?_
  refine l_nck rfl rfl ?_
  refine l_fld (o := 0) rfl (by kernel_rfl) rfl ?_
  refine l_ldo 1 (v := v'4_) rfl rfl rfl (by kernel_rfl) rfl ?_
  refine l_as rfl ?_
  refine l_end ?_
  exact c_ret (ret1 (v := v'4_) rfl rfl (fun w' hw => ⟨v'4_, rfl, by have h := hw.one 2 rfl; simpa [ShtA.enc, ShtD.a, ConfD.enc, ConfA.enc, ConfD.a, numsB] using h⟩))
theorem ownShot_s (x : ShtD) (w : World) (hx : x.wf) (rd_x : ShtD.rd x w []) : Rets Try.prog 29 #[.agg (ShtD.cells x).toArray] w fun u_ w' => ∃ (a : Value) (b : Value) (c : Value), u_ = .agg #[.int .u64 (x.index : Nat), .int .u64 (x.term : Nat), a, b, c] ∧ Own w [] [Res.vec 3 1 a x.conf.vs.length (x.conf.vs.flatMap I1), Res.vec 3 1 b x.conf.ls.length (x.conf.ls.flatMap I1), Res.vec 5 1 c x.data.length (x.data.map vb)] w' := by
  have hd := hx.data
  have hc := hx.conf.wf
  refine fn_enter (args := [.agg (ShtD.cells x).toArray]) Try.func29 rfl Try.ntmps29 rfl (Own.start w) ?_
  refine c_reg ?_
  refine l_box rfl rfl (fun b1 => ?_)
  refine l_new (v := .agg #[.int .u64 (0 : Nat), .int .u64 (0 : Nat), .slice none 0 0, .slice none 0 0, .slice none 0 0]) (by kernel_rfl) rfl (fun b2 => ?_)
  refine l_end ?_
  refine c_reg ?_
  refine l_fld (o := 2) rfl (by kernel_rfl) rfl ?_
  refine l_ldoN (cs := (ShtD.cells x)) 0 (ConfD.cells x.conf) rfl rfl (sub_at' 2 rfl) (by kernel_rfl) rfl ?_
  refine l_call (by kernel_rfl) rfl rfl (fun w' hw => ?_)
  refine (ownConf_s x.conf w' (by first | assumption | omega | (simp <;> omega) | (constructor <;> (first | omega | (simp only [LenOk]; omega) | (simp <;> omega)))) (rd_x.conf.at0 hw)).mono ?_
  rintro _ w1 ⟨a1_, b2_, rfl, hO⟩
  refine (?_ : CL _ _ _ _ _ _ (Own w [] [Res.row b1 55 (ShtD.cells x), Res.row b2 55 [.int .u64 (0 : Nat), .int .u64 (0 : Nat), .slice none 0 0, .slice none 0 0, .slice none 0 0], Res.vec 3 1 a1_ x.conf.vs.length (x.conf.vs.flatMap I1), Res.vec 3 1 b2_ x.conf.ls.length (x.conf.ls.flatMap I1)])) w1 (hw.frame0 hO)
  refine l_fld (o := 2) rfl (by kernel_rfl) rfl ?_
  refine l_haveO (fun w' hw => Own.cell1Vec (i := 2) rfl hw) (fun hc1_ => ?_)
  refine l_haveO (fun w' hw => Own.cell1Vec (i := 3) rfl hw) (fun hc2_ => ?_)
  refine l_stN (cs := (ShtD.cells x)) (vs := [a1_, b2_]) 0 rfl rfl rfl (by kernel_rfl) (allc_cons hc1_ (allc_cons hc2_ allc_nil)) (Nat.le_of_ble_eq_true rfl) ?_
  refine l_end ?_
  refine c_reg ?_
  refine l_bsl (e := 5) (sz := 1) (vs := []) (by kernel_rfl) rfl rfl (by simp [Value.cells]) (by decide) rfl (fun b7 => ?_)
  refine l_fld (o := 4) rfl (by kernel_rfl) rfl ?_
  refine l_ldo 0 (v := x.dv) rfl rfl rfl (by kernel_rfl) rfl ?_
  refine l_appM (l := ([] : List UInt8)) (l' := x.data) 4 (by kernel_rfl) rfl rfl rfl (fun w' hw' => Own.rd rd_x.dv hw') (by first | omega | (simp; omega)) rfl (fun v10 => ?_)
  refine l_fld (o := 4) rfl (by kernel_rfl) rfl ?_
  refine l_haveO (fun w' hw => Own.cell1Vec (i := 4) rfl hw) (fun hc3_ => ?_)
  refine l_st (cs := [.int .u64 (x.index : Nat), .int .u64 (x.term : Nat), a1_, b2_, x.dv]) 0 rfl rfl rfl (by kernel_rfl) hc3_ (Nat.le_of_ble_eq_true rfl) ?_
  refine l_end ?_
  refine c_reg ?_
  refine l_ldr (cs := [.int .u64 (x.index : Nat), .int .u64 (x.term : Nat), a1_, b2_, v10]) 0 rfl rfl (by kernel_rfl) rfl ?_
  refine l_stN (cs := [.int .u64 (0 : Nat), .int .u64 (0 : Nat), .slice none 0 0, .slice none 0 0, .slice none 0 0]) (vs := [.int .u64 (x.index : Nat), .int .u64 (x.term : Nat), a1_, b2_, v10]) 1 rfl rfl rfl (by kernel_rfl) (allc_cons rfl (allc_cons rfl (allc_cons hc1_ (allc_cons hc2_ (allc_cons hc3_ allc_nil))))) (Nat.le_of_ble_eq_true rfl) ?_
  refine l_end ?_
  exact c_ret (retc (cs := [.int .u64 (x.index : Nat), .int .u64 (x.term : Nat), a1_, b2_, v10]) rfl rfl (by kernel_rfl) (Own.rowCells (i := 1) rfl) (fun w' hw => ⟨a1_, b2_, v10, rfl, hw.sel [2, 3, 4] rfl (by decide)⟩))

structure HrdD where
  term : Nat
  vote : Int
  deriving DecidableEq
def HrdD.cells (x : HrdD) : List Value := [.int .u64 x.term, .int .i64 x.vote]
def HrdD.ok (x : HrdD) : Prop := 0 ≤ x.vote ∧ x.vote ≤ 16
instance (x : HrdD) : Decidable x.ok := inferInstanceAs (Decidable (_ ∧ _))
def HrdD.enc (x : HrdD) : List UInt8 := numsB [x.term, u64 x.vote]
theorem hrdSound_s (x : HrdD) (w : World) : Rets Try.prog 134 #[.agg (HrdD.cells x).toArray] w fun u_ w' => u_ = .bool (decide x.ok) ∧ Own w [] [] w' := by
  refine fn_enter (args := [.agg (HrdD.cells x).toArray]) Try.func134 rfl Try.ntmps134 rfl (Own.start w) ?_
  refine c_reg ?_
  refine l_box rfl rfl (fun b1 => ?_)
  refine l_as rfl ?_
  refine l_end ?_
  refine c_reg ?_
  refine l_fld (o := 1) rfl (by kernel_rfl) rfl ?_
  refine l_ldo 0 (v := .int .i64 x.vote) rfl rfl rfl (by kernel_rfl) rfl ?_
  refine l_geq rfl rfl rfl ?_
  refine l_mv rfl ?_
  refine l_band (q := 0 ≤ x.vote) 3 3 [9, 8, 7] (x.vote ≤ 16) rfl rfl rfl rfl rfl rfl trivial rfl (fun h1_3 => ?_) (fun g1_7 => ?_)
  ·
    refine l_on rfl (gT h1_3) ?_
    refine l_fld (o := 1) rfl (by kernel_rfl) rfl ?_
    refine l_on rfl (gT h1_3) ?_
    refine l_ldo 0 (v := .int .i64 x.vote) rfl rfl rfl (by kernel_rfl) rfl ?_
    refine l_on rfl (gT h1_3) ?_
    refine l_leq rfl rfl rfl ?_
    exact l_nil (fun w' hw => ⟨(by repeat (first | exact Out.refl _ _ | refine Out.upd rfl ?_ | refine Out.msk rfl ?_)), rfl, hw⟩)
  refine l_as rfl ?_
  refine l_end ?_
  exact c_ret (ret1 (v := .bool (decide ((0 ≤ x.vote) ∧ (x.vote ≤ 16)))) rfl rfl (fun w' hw => ⟨rfl, hw.drop⟩))
theorem rhrdOK_s (x : HrdD) (w : World) : Rets Try.prog 37 #[.agg (HrdD.cells x).toArray] w fun u_ w' => u_ = .bool (decide x.ok) ∧ Own w [] [] w' := by
  refine fn_enter (args := [.agg (HrdD.cells x).toArray]) Try.func37 rfl Try.ntmps37 rfl (Own.start w) ?_
  refine c_reg ?_
  refine l_box rfl rfl (fun b1 => ?_)
  refine l_as rfl ?_
  refine l_end ?_
  refine c_reg ?_
  refine l_fld (o := 1) rfl (by kernel_rfl) rfl ?_
  refine l_ldo 0 (v := .int .i64 x.vote) rfl rfl rfl (by kernel_rfl) rfl ?_
  refine l_geq rfl rfl rfl ?_
  refine l_mv rfl ?_
  refine l_band (q := 0 ≤ x.vote) 3 3 [9, 8, 7] (x.vote ≤ 16) rfl rfl rfl rfl rfl rfl trivial rfl (fun h1_3 => ?_) (fun g1_7 => ?_)
  ·
    refine l_on rfl (gT h1_3) ?_
    refine l_fld (o := 1) rfl (by kernel_rfl) rfl ?_
    refine l_on rfl (gT h1_3) ?_
    refine l_ldo 0 (v := .int .i64 x.vote) rfl rfl rfl (by kernel_rfl) rfl ?_
    refine l_on rfl (gT h1_3) ?_
    refine l_leq rfl rfl rfl ?_
    exact l_nil (fun w' hw => ⟨(by repeat (first | exact Out.refl _ _ | refine Out.upd rfl ?_ | refine Out.msk rfl ?_)), rfl, hw⟩)
  refine l_as rfl ?_
  refine l_end ?_
  exact c_ret (ret1 (v := .bool (decide ((0 ≤ x.vote) ∧ (x.vote ≤ 16)))) rfl rfl (fun w' hw => ⟨rfl, hw.drop⟩))
theorem hrdWrite_s (o : Nat) (sl : Value) (bs : List UInt8) (x : HrdD) (w : World) (hb : bs.length ≤ 10000000000) (hx : x.term < 18446744073709551616) (hin : Own w (fps [Res.bv o TOut sl bs]) [Res.bv o TOut sl bs] w) : Rets Try.prog 135 #[.pointer (some ⟨o, 0, none⟩), .agg (HrdD.cells x).toArray] w fun u_ w' => ∃ (sl' : Value), u_ = .tuple #[] ∧ Own w (fps [Res.bv o TOut sl bs]) [Res.bv o TOut sl' (bs ++ x.enc)] w' := by
  refine fn_enter (args := [.pointer (some ⟨o, 0, none⟩), .agg (HrdD.cells x).toArray]) Try.func135 rfl Try.ntmps135 rfl (show Own w (fps [Res.bv o TOut sl bs]) [Res.bv o TOut sl bs] w from hin) ?_
  refine c_reg ?_
  refine l_box rfl rfl (fun b3 => ?_)
  refine l_end ?_
  refine c_last ?_
  refine l_mv rfl ?_
  refine l_fld (o := 0) rfl (by kernel_rfl) rfl ?_
  refine l_ldo 1 (v := .int .u64 (x.term : Nat)) rfl rfl rfl (by kernel_rfl) rfl ?_
  refine l_fld (o := 1) rfl (by kernel_rfl) rfl ?_
  refine l_ldo 1 (v := .int .i64 x.vote) rfl rfl rfl (by kernel_rfl) rfl ?_
  refine l_cvt (by kernel_rfl) rfl (wrap_u64 _) rfl ?_ (by kernel_rfl)
  refine l_bsl (e := 22) (sz := 1) (vs := [.int .u64 (x.term : Nat), .int .u64 (u64 x.vote : Nat)]) (by kernel_rfl) rfl rfl (by simp [Value.cells]) (by decide) rfl (fun b10 => ?_)
  refine l_call (by kernel_rfl) rfl rfl (fun w' hw => ?_)
  refine (nums_s o _ _ (.slice (some ⟨b10, 0, none⟩) 2 2) [x.term, u64 x.vote] w' (by first | assumption | (simp [u64_lt]; done) | (simp [u64_lt]; omega) | (simp; omega)) (by first | assumption | omega | (simp <;> omega) | (constructor <;> (first | omega | (simp only [LenOk]; omega) | (simp <;> omega)))) (hw.rdVec 2 rfl [0] rfl rfl) (hw.give [0] rfl (by decide))).mono ?_
  rintro _ w1 ⟨sl'1_, rfl, hO⟩
  refine (?_ : CL _ _ _ _ _ _ (Own w (fps [Res.bv o TOut sl bs]) [Res.row b3 57 (HrdD.cells x), Res.vec 22 1 (.slice (some ⟨b10, 0, none⟩) 2 2) [x.term, u64 x.vote].length ([x.term, u64 x.vote].flatMap U1), Res.bv o TOut sl'1_ (bs ++ numsB [x.term, u64 x.vote])])) w1 (hw.frameL [0] rfl hO)
  exact l_nil (ret0 rfl (fun w' hw => ⟨sl'1_, rfl, hw.sel [2] rfl (by decide)⟩))
theorem hards_s (w : World) : Rets Try.prog 76 #[] w fun u_ w' => u_ = .agg #[.func (.func 134) #[] #[], .func (.func 135) #[] #[], .func (.func 136) #[] #[]] ∧ Own w [] [] w' := by
  refine fn_enter (args := []) Try.func76 rfl Try.ntmps76 rfl (Own.start w) ?_
  refine c_reg ?_
  refine l_new (v := .agg #[.nilFunc, .nilFunc, .nilFunc]) (by kernel_rfl) rfl (fun b0 => ?_)
  refine l_end ?_
  refine c_reg ?_
  refine l_bld (cs := [.func (.func 134) #[] #[], .func (.func 135) #[] #[], .func (.func 136) #[] #[]]) (z := [.nilFunc, .nilFunc, .nilFunc]) (pl := [(0, 1), (1, 1), (2, 1)]) (by kernel_rfl) (by kernel_rfl) rfl ?_
  refine l_stN (cs := [.nilFunc, .nilFunc, .nilFunc]) (vs := [.func (.func 134) #[] #[], .func (.func 135) #[] #[], .func (.func 136) #[] #[]]) 0 rfl rfl rfl (by kernel_rfl) (allc_cons rfl (allc_cons rfl (allc_cons rfl allc_nil))) (Nat.le_of_ble_eq_true rfl) ?_
  refine l_end ?_
  exact c_ret (retc (cs := [.func (.func 134) #[] #[], .func (.func 135) #[] #[], .func (.func 136) #[] #[]]) rfl rfl (by kernel_rfl) (Own.rowCells (i := 0) rfl) (fun w' hw => ⟨rfl, hw.drop⟩))
theorem hrdBytes_s (x : HrdD) (w : World) (hx : x.term < 18446744073709551616) : Rets Try.prog 77 #[.agg #[.func (.func 134) #[] #[], .func (.func 135) #[] #[], .func (.func 136) #[] #[]], .agg (HrdD.cells x).toArray] w fun u_ w' => ∃ (r : Value), u_ = .tuple #[r, .int .i64 (errOf x.ok)] ∧ Own w [] [Res.vec 5 1 r (if x.ok then x.enc else []).length ((if x.ok then x.enc else []).map vb)] w' := by
  refine fn_enter (args := [.agg #[.func (.func 134) #[] #[], .func (.func 135) #[] #[], .func (.func 136) #[] #[]], .agg (HrdD.cells x).toArray]) Try.func77 rfl Try.ntmps77 rfl (Own.start w) ?_
  refine c_reg ?_
  refine l_box rfl rfl (fun b2 => ?_)
  refine l_box rfl rfl (fun b3 => ?_)
  refine l_as rfl ?_
  refine l_as rfl ?_
  refine l_end ?_
  refine c_seq ?_
  refine c_reg ?_
  refine l_fld (o := 0) rfl (by kernel_rfl) rfl ?_
  refine l_ldo 0 (v := .func (.func 134) #[] #[]) rfl rfl rfl (by kernel_rfl) rfl ?_
  refine l_ldr (cs := (HrdD.cells x)) 1 rfl rfl (by kernel_rfl) rfl ?_
  refine l_callv (fst := []) (cap := []) rfl (by kernel_rfl) rfl rfl (fun w' hw => ?_)
  refine (hrdSound_s x w').mono ?_
  rintro _ w1 ⟨rfl, hO⟩
  refine (?_ : CL _ _ _ _ _ _ (Own w [] [Res.row b2 154 [.func (.func 134) #[] #[], .func (.func 135) #[] #[], .func (.func 136) #[] #[]], Res.row b3 57 (HrdD.cells x)])) w1 (hw.frame0 hO)
  refine l_notp (q := x.ok) rfl rfl ?_
  refine l_end ?_
  refine c_dec rfl (fun c1 => ?_) (fun c1 => ?_)
  ·
    refine c_reg ?_
    refine l_as rfl ?_
    refine l_as rfl ?_
    refine l_end ?_
    exact c_ret (ret2 (v := .slice none 0 0) (v' := .int .i64 2) rfl rfl rfl (fun w' hw => ⟨.slice none 0 0, (by rw [errOf_F c1]), by rw [if_neg c1]; exact (own_nil hw T8 1).one 2 rfl⟩))
  ·
    refine c_skipC ?_
    refine c_reg ?_
    refine l_bld (cs := [.slice none 0 0]) (z := [.slice none 0 0]) (pl := [(0, 1)]) (by kernel_rfl) (by kernel_rfl) rfl ?_
    refine l_box rfl rfl (fun b13 => ?_)
    refine l_as rfl ?_
    refine l_end ?_
    refine c_reg ?_
    refine l_fld (o := 1) rfl (by kernel_rfl) rfl ?_
    refine l_ldo 0 (v := .func (.func 135) #[] #[]) rfl rfl rfl (by kernel_rfl) rfl ?_
    refine l_mv rfl ?_
    refine l_ldr (cs := (HrdD.cells x)) 1 rfl rfl (by kernel_rfl) rfl ?_
    refine l_own [Res.row b2 154 [.func (.func 134) #[] #[], .func (.func 135) #[] #[], .func (.func 136) #[] #[]], Res.row b3 57 (HrdD.cells x), Res.bv b13 TOut (.slice none 0 0) ([] : List UInt8)] (fun w' hw => (own_nil hw T8 1).joinBv (i := 2) (j := 3) (by decide) rfl rfl) ?_
    refine l_callv (fst := []) (cap := []) rfl (by kernel_rfl) rfl rfl (fun w' hw => ?_)
    refine (hrdWrite_s b13 (.slice none 0 0) ([] : List UInt8) x w' (by first | assumption | omega | (simp <;> omega) | (constructor <;> (first | omega | (simp only [LenOk]; omega) | (simp <;> omega)))) (by first | assumption | omega | (simp <;> omega) | (constructor <;> (first | omega | (simp only [LenOk]; omega) | (simp <;> omega)))) (hw.give [2] rfl (by decide))).mono ?_
    rintro _ w1 ⟨sl'1_, rfl, hO⟩
    refine (?_ : CL _ _ _ _ _ _ (Own w [] [Res.row b2 154 [.func (.func 134) #[] #[], .func (.func 135) #[] #[], .func (.func 136) #[] #[]], Res.row b3 57 (HrdD.cells x), Res.bv b13 TOut sl'1_ (([] : List UInt8) ++ x.enc)])) w1 (hw.frameL [2] rfl hO)
    refine l_end ?_
    refine c_reg ?_
    refine l_mv rfl ?_
    refine l_nck rfl rfl ?_
    refine l_fld (o := 0) rfl (by kernel_rfl) rfl ?_
    refine l_own [Res.row b2 154 [.func (.func 134) #[] #[], .func (.func 135) #[] #[], .func (.func 136) #[] #[]], Res.row b3 57 (HrdD.cells x), Res.row b13 TOut [sl'1_], Res.vec 5 1 sl'1_ (([] : List UInt8) ++ x.enc).length ((([] : List UInt8) ++ x.enc).map vb)] (fun w' hw => hw.splitBv (i := 2) (o := b13) (T := TOut) (v := sl'1_) (bs := (([] : List UInt8) ++ x.enc)) rfl) ?_
    refine l_ldo 2 (v := sl'1_) rfl rfl rfl (by kernel_rfl) rfl ?_
    refine l_as rfl ?_
    refine l_as rfl ?_
    refine l_end ?_
    exact c_ret (ret2 (v := sl'1_) (v' := .int .i64 0) rfl rfl rfl (fun w' hw => ⟨sl'1_, (by rw [errOf_T (Decidable.not_not.1 c1)]), by rw [if_pos (Decidable.not_not.1 c1)]; exact hw.one 3 rfl⟩))
theorem msgHard_s (x : HrdD) (w : World) (hx : x.term < 18446744073709551616) : Rets Try.prog 30 #[.agg (HrdD.cells x).toArray] w fun u_ w' => ∃ (r : Value), u_ = .tuple #[r, .int .i64 (errOf x.ok)] ∧ Own w [] [Res.vec 5 1 r (if x.ok then x.enc else []).length ((if x.ok then x.enc else []).map vb)] w' := by
  refine fn_enter (args := [.agg (HrdD.cells x).toArray]) Try.func30 rfl Try.ntmps30 rfl (Own.start w) ?_
  refine c_reg ?_
  refine l_box rfl rfl (fun b1 => ?_)
  refine l_as rfl ?_
  refine l_as rfl ?_
  refine l_end ?_
  refine c_seq ?_
  refine c_heldo [0] rfl (by decide) (by kernel_rfl) (fun w' hw hS => ?_)
  refine h_take 1 rfl (by kernel_rfl) (by kernel_rfl) (by kernel_rfl) (v_ldr (cs := (HrdD.cells x)) 0 rfl rfl (by kernel_rfl)) rfl hS ?_
  refine h_one 0 (by kernel_rfl) rfl hw ?_
  refine l_call (by kernel_rfl) rfl rfl (fun w' hw => ?_)
  refine (hards_s w').mono ?_
  rintro _ w1 ⟨rfl, hO⟩
  refine (?_ : CL _ _ _ _ _ _ (Own w [] [Res.row b1 57 (HrdD.cells x)])) w1 (hw.frame0 hO)
  refine l_nil (fun w' hw => ?_)
  have hS := hw.sel [0] rfl (by decide)
  refine ⟨hS, ?_⟩
  refine h_one 2 (by kernel_rfl) rfl hw ?_
  refine l_call (by kernel_rfl) rfl rfl (fun w' hw => ?_)
  refine (hrdBytes_s x w' (by first | assumption | omega | (simp <;> omega) | (constructor <;> (first | omega | (simp only [LenOk]; omega) | (simp <;> omega))))).mono ?_
  rintro _ w1 ⟨r1_, rfl, hO⟩
  refine (?_ : CL _ _ _ _ _ _ (Own w [] [Res.row b1 57 (HrdD.cells x), Res.vec 5 1 r1_ (if x.ok then x.enc else []).length ((if x.ok then x.enc else []).map vb)])) w1 (hw.frame0 hO)
  refine l_nil (fun w' hw => ?_)
  have hS := hw.sel [0] rfl (by decide)
  refine ⟨hS, ?_⟩
  refine h_take 3 rfl (by kernel_rfl) (by kernel_rfl) (by kernel_rfl) (v_ext (vs := [r1_, .int .i64 (errOf x.ok)]) rfl rfl) rfl hS ?_
  refine h_take 4 rfl (by kernel_rfl) (by kernel_rfl) (by kernel_rfl) (v_ext (vs := [r1_, .int .i64 (errOf x.ok)]) rfl rfl) rfl hS ?_
  refine h_take 5 rfl (by kernel_rfl) (by kernel_rfl) (by kernel_rfl) (v_as) rfl hS ?_
  refine h_take 6 rfl (by kernel_rfl) (by kernel_rfl) (by kernel_rfl) (v_as) rfl hS ?_
  refine h_done (by kernel_rfl) ?_
  refine (?_ : C _ _ _ _ _ _ _ (Own w [] [Res.row b1 57 (HrdD.cells x), Res.vec 5 1 r1_ (if x.ok then x.enc else []).length ((if x.ok then x.enc else []).map vb)])) _ hw
  exact c_ret (ret2 (v := r1_) (v' := .int .i64 (errOf x.ok)) rfl rfl rfl (fun w' hw => ⟨r1_, rfl, hw.sel [1] rfl (by decide)⟩))
theorem rhard_s (x : HrdD) (w : World) (hx : x.term < 18446744073709551616) : Rets Try.prog 38 #[.agg (HrdD.cells x).toArray] w fun u_ w' => ∃ (r : Value), u_ = r ∧ Own w [] [Res.vec 5 1 r x.enc.length (x.enc.map vb)] w' := by
  have hn1 := num_le hx
  have hn2 := num_le (u64_lt x.vote)
  refine fn_enter (args := [.agg (HrdD.cells x).toArray]) Try.func38 rfl Try.ntmps38 rfl (Own.start w) ?_
  refine c_reg ?_
  refine l_box rfl rfl (fun b1 => ?_)
  refine l_as rfl ?_
  refine l_end ?_
  refine c_reg ?_
  refine l_bld (cs := [.slice none 0 0]) (z := [.slice none 0 0]) (pl := [(0, 1)]) (by kernel_rfl) (by kernel_rfl) rfl ?_
  refine l_box rfl rfl (fun b5 => ?_)
  refine l_as rfl ?_
  refine l_end ?_
  refine c_reg ?_
  refine l_mv rfl ?_
  refine l_fld (o := 0) rfl (by kernel_rfl) rfl ?_
  refine l_ldo 0 (v := .int .u64 (x.term : Nat)) rfl rfl rfl (by kernel_rfl) rfl ?_
  refine l_addnil 5 1 ?_
  refine l_call (by kernel_rfl) rfl rfl (fun w' hw => ?_)
  refine (rNum_s b5 (.slice none 0 0) [] x.term w' (by first | assumption | omega | (simp <;> omega) | (constructor <;> (first | omega | (simp only [LenOk]; omega) | (simp <;> omega)))) (by first | assumption | omega | (simp <;> omega) | (constructor <;> (first | omega | (simp only [LenOk]; omega) | (simp <;> omega)))) (hw.give [1, 2] rfl (by decide))).mono ?_
  rintro _ w1 ⟨v'1_, rfl, hO⟩
  refine (?_ : CL _ _ _ _ _ _ (Own w [] [Res.row b1 57 (HrdD.cells x), Res.row b5 130 [v'1_], Res.vec 5 1 v'1_ ([] ++ num x.term).length (([] ++ num x.term).map vb)])) w1 (hw.frameL [1, 2] rfl hO)
  refine l_end ?_
  refine c_reg ?_
  refine l_mv rfl ?_
  refine l_fld (o := 1) rfl (by kernel_rfl) rfl ?_
  refine l_ldo 0 (v := .int .i64 x.vote) rfl rfl rfl (by kernel_rfl) rfl ?_
  refine l_cvt (by kernel_rfl) rfl (wrap_u64 _) rfl ?_ (by kernel_rfl)
  refine l_call (by kernel_rfl) rfl rfl (fun w' hw => ?_)
  refine (rNum_s b5 v'1_ ([] ++ num x.term) (u64 x.vote) w' (u64_lt _) (by first | assumption | omega | (simp <;> omega) | (constructor <;> (first | omega | (simp only [LenOk]; omega) | (simp <;> omega)))) (hw.give [1, 2] rfl (by decide))).mono ?_
  rintro _ w1 ⟨v'2_, rfl, hO⟩
  refine (?_ : CL _ _ _ _ _ _ (Own w [] [Res.row b1 57 (HrdD.cells x), Res.row b5 130 [v'2_], Res.vec 5 1 v'2_ (([] ++ num x.term) ++ num (u64 x.vote)).length ((([] ++ num x.term) ++ num (u64 x.vote)).map vb)])) w1 (hw.frameL [1, 2] rfl hO)
  refine l_end ?_
  refine c_reg ?_
  refine l_mv rfl ?_
  refine l_nck rfl rfl ?_
  refine l_fld (o := 0) rfl (by kernel_rfl) rfl ?_
  refine l_ldo 1 (v := v'2_) rfl rfl rfl (by kernel_rfl) rfl ?_
  refine l_as rfl ?_
  refine l_end ?_
  exact c_ret (ret1 (v := v'2_) rfl rfl (fun w' hw => ⟨v'2_, rfl, by have h := hw.one 2 rfl; simpa [HrdD.enc, numsB] using h⟩))

theorem str_eq {l m : List UInt8} : ((⟨l.toArray⟩ : ByteArray) = ⟨m.toArray⟩) ↔ l = m := by
  constructor
  · intro h; injection h with h; simpa using h
  · rintro rfl; rfl
theorem fits_s (v : Value) (d : List UInt8) (e : Int) (ok : Prop) [Decidable ok] (u : Value) (m : List UInt8) (w : World) (h1 : ok → e = 0 ∧ d = m) (h2 : ¬ ok → e = 2 ∧ d = []) (hv : Rd w [] (Res.sl v d.length (d.map vb))) (hu : Rd w [] (Res.sl u m.length (m.map vb))) : Rets Try.prog 15 #[v, .int .i64 e, .bool (decide ok), u] w fun u_ w' => u_ = .bool true ∧ Own w [] [] w' := by
  refine fn_enter (args := [v, .int .i64 e, .bool (decide ok), u]) Try.func15 rfl Try.ntmps15 rfl (Own.start w) ?_
  refine c_reg ?_
  refine l_as rfl ?_
  refine l_end ?_
  refine c_seq ?_
  refine c_reg ?_
  refine l_mv rfl ?_
  refine l_notp (q := ok) rfl rfl ?_
  refine l_end ?_
  refine c_dec rfl (fun c1 => ?_) (fun c1 => ?_)
  ·
    refine c_reg ?_
    refine l_mv rfl ?_
    refine l_eq rfl rfl rfl ?_
    refine l_mv rfl ?_
    refine l_band (q := e = 2) 3 2 [16, 15, 14] (((d.length : Nat) : Int) = 0) rfl rfl rfl rfl rfl rfl trivial rfl (fun h2_2 => ?_) (fun g2_6 => ?_)
    ·
      refine l_on rfl (gT h2_2) ?_
      refine l_mv rfl ?_
      refine l_on rfl (gT h2_2) ?_
      refine l_lenS (len := d.length) (cs := (d.map vb)) (by kernel_rfl) rfl (fun w' hw' => Own.rd hv hw') rfl ?_
      refine l_on rfl (gT h2_2) ?_
      refine l_eq rfl rfl rfl ?_
      exact l_nil (fun w' hw => ⟨(by repeat (first | exact Out.refl _ _ | refine Out.upd rfl ?_ | refine Out.msk rfl ?_)), rfl, hw⟩)
    refine l_as rfl ?_
    refine l_end ?_
    exact c_ret (ret1 (v := .bool (decide ((e = 2) ∧ (((d.length : Nat) : Int) = 0)))) rfl rfl (fun w' hw => ⟨(by obtain ⟨rfl, rfl⟩ := h2 c1; rfl), hw.drop⟩))
  ·
    refine c_skipC ?_
    refine c_reg ?_
    refine l_mv rfl ?_
    refine l_eq rfl rfl rfl ?_
    refine l_mv rfl ?_
    refine l_band (q := e = 0) 5 2 [25, 24, 23, 22, 21] ((⟨d.toArray⟩ : ByteArray) = (⟨m.toArray⟩ : ByteArray)) rfl rfl rfl rfl rfl rfl trivial rfl (fun h3_2 => ?_) (fun g3_8 => ?_)
    ·
      refine l_on rfl (gT h3_2) ?_
      refine l_mv rfl ?_
      refine l_on rfl (gT h3_2) ?_
      refine l_b2s (bs := d) (by kernel_rfl) (by kernel_rfl) rfl (fun w' hw' => Own.rd hv hw') rfl ?_
      refine l_on rfl (gT h3_2) ?_
      refine l_mv rfl ?_
      refine l_on rfl (gT h3_2) ?_
      refine l_b2s (bs := m) (by kernel_rfl) (by kernel_rfl) rfl (fun w' hw' => Own.rd hu hw') rfl ?_
      refine l_on rfl (gT h3_2) ?_
      refine l_seq rfl rfl rfl ?_
      exact l_nil (fun w' hw => ⟨(by repeat (first | exact Out.refl _ _ | refine Out.upd rfl ?_ | refine Out.msk rfl ?_)), rfl, hw⟩)
    refine l_as rfl ?_
    refine l_end ?_
    exact c_ret (ret1 (v := .bool (decide ((e = 0) ∧ ((⟨d.toArray⟩ : ByteArray) = (⟨m.toArray⟩ : ByteArray))))) rfl rfl (fun w' hw => ⟨(by obtain ⟨rfl, rfl⟩ := h1 (Decidable.not_not.1 c1); congr 1; exact decide_eq_true ⟨rfl, rfl⟩), hw.drop⟩))
theorem enc_fits {ok : Prop} [Decidable ok] {enc : List UInt8} : (ok → errOf ok = 0 ∧ (if ok then enc else []) = enc) ∧ (¬ ok → errOf ok = 2 ∧ (if ok then enc else []) = []) :=
  ⟨fun h => ⟨errOf_T h, if_pos h⟩, fun h => ⟨errOf_F h, if_neg h⟩⟩
theorem hrd52 : (errOf ({ term := 5, vote := 2 } : HrdD).ok = 0) ∧ ((⟨(if ({ term := 5, vote := 2 } : HrdD).ok then ({ term := 5, vote := 2 } : HrdD).enc else []).toArray⟩ : ByteArray) = (⟨#[1, 5, 1, 2]⟩ : ByteArray)) := by decide +kernel
theorem answers_s (w : World) : Rets Try.prog 14 #[] w fun u_ w' => u_ = .bool true ∧ Own w [] [] w' := by
  refine fn_enter (args := []) Try.func14 rfl Try.ntmps14 rfl (Own.start w) ?_
  refine c_reg ?_
  refine l_as rfl ?_
  refine l_end ?_
  refine c_reg ?_
  refine l_bld (cs := [.int .u64 (5 : Nat), .int .i64 2]) (z := [.int .u64 (0 : Nat), .int .i64 0]) (pl := [(0, 1), (1, 1)]) (by kernel_rfl) (by kernel_rfl) rfl ?_
  refine l_call (by kernel_rfl) rfl rfl (fun w' hw => ?_)
  refine (msgHard_s ({ term := 5, vote := 2 } : HrdD) w' (by first | assumption | omega | (simp <;> omega) | (constructor <;> (first | omega | (simp only [LenOk]; omega) | (simp <;> omega))))).mono ?_
  rintro _ w1 ⟨r1_, rfl, hO⟩
  refine (?_ : CL _ _ _ _ _ _ (Own w [] [Res.vec 5 1 r1_ (if ({ term := 5, vote := 2 } : HrdD).ok then ({ term := 5, vote := 2 } : HrdD).enc else []).length ((if ({ term := 5, vote := 2 } : HrdD).ok then ({ term := 5, vote := 2 } : HrdD).enc else []).map vb)])) w1 (hw.frame0 hO)
  refine l_mv rfl ?_
  refine l_ext (vs := [r1_, .int .i64 (errOf ({ term := 5, vote := 2 } : HrdD).ok)]) rfl rfl rfl ?_
  refine l_ext (vs := [r1_, .int .i64 (errOf ({ term := 5, vote := 2 } : HrdD).ok)]) rfl rfl rfl ?_
  refine l_as rfl ?_
  refine l_as rfl ?_
  refine l_end ?_
  refine c_reg ?_
  refine l_mv rfl ?_
  refine l_eq rfl rfl rfl ?_
  refine l_mv rfl ?_
  refine l_band (q := (errOf ({ term := 5, vote := 2 } : HrdD).ok) = 0) 3 2 [13, 12, 11] ((⟨(if ({ term := 5, vote := 2 } : HrdD).ok then ({ term := 5, vote := 2 } : HrdD).enc else []).toArray⟩ : ByteArray) = (⟨#[1, 5, 1, 2]⟩ : ByteArray)) rfl rfl rfl rfl rfl rfl trivial rfl (fun h2_2 => ?_) (fun g2_6 => ?_)
  ·
    refine l_on rfl (gT h2_2) ?_
    refine l_mv rfl ?_
    refine l_on rfl (gT h2_2) ?_
    refine l_b2s (bs := (if ({ term := 5, vote := 2 } : HrdD).ok then ({ term := 5, vote := 2 } : HrdD).enc else [])) (by kernel_rfl) (by kernel_rfl) rfl (fun w' hw' => Vec.sl (Own.holds hw' 0 _ rfl)) rfl ?_
    refine l_on rfl (gT h2_2) ?_
    refine l_seq rfl rfl rfl ?_
    exact l_nil (fun w' hw => ⟨(by repeat (first | exact Out.refl _ _ | refine Out.upd rfl ?_ | refine Out.msk rfl ?_)), rfl, hw⟩)
  refine l_as rfl ?_
  refine l_end ?_
  exact c_ret (ret1 (v := .bool (decide (((errOf ({ term := 5, vote := 2 } : HrdD).ok) = 0) ∧ ((⟨(if ({ term := 5, vote := 2 } : HrdD).ok then ({ term := 5, vote := 2 } : HrdD).enc else []).toArray⟩ : ByteArray) = (⟨#[1, 5, 1, 2]⟩ : ByteArray))))) rfl rfl (fun w' hw => ⟨(by rw [decide_eq_true hrd52]), hw.drop⟩))
theorem own1 {es : List EntD} {x : EntD} (h : es.map EntD.toEntA = [x].map EntD.toEntA) : (nth es 0).toEntA = x.toEntA ∧ 0 < es.length := by
  have hl := congrArg List.length h
  simp at hl
  match es, hl with
  | [y], _ => simp at h; exact ⟨by simpa [nth] using h, by simp⟩
set_option maxHeartbeats 2000000 in
theorem msgLogs_s (x : EntD) (c : ConfD) (s : ShtD) (h : HrdD) (w : World) (hx : x.wf) (hc : c.few) (hs : s.wf) (hh : h.term < 18446744073709551616) (rd_x : EntD.rd x w []) (rd_c : ConfD.rd c w []) (rd_s : ShtD.rd s w []) : Rets Try.prog 4 #[.agg (EntD.cells x).toArray, .agg (ConfD.cells c).toArray, .agg (ShtD.cells s).toArray, .agg (HrdD.cells h).toArray] w fun u_ w' => u_ = .bool true ∧ Own w [] [] w' := by
  have hcw := hc.wf
  refine fn_enter (args := [.agg (EntD.cells x).toArray, .agg (ConfD.cells c).toArray, .agg (ShtD.cells s).toArray, .agg (HrdD.cells h).toArray]) Try.func4 rfl Try.ntmps4 rfl (Own.start w) ?_
  refine c_reg ?_
  refine l_box rfl rfl (fun b4 => ?_)
  refine l_box rfl rfl (fun b5 => ?_)
  refine l_box rfl rfl (fun b6 => ?_)
  refine l_box rfl rfl (fun b7 => ?_)
  refine l_as rfl ?_
  refine l_end ?_
  refine c_reg ?_
  refine l_ldr (cs := (EntD.cells x)) 0 rfl rfl (by kernel_rfl) rfl ?_
  refine l_bsl (e := 50) (sz := 5) (vs := [.agg (EntD.cells x).toArray]) (by kernel_rfl) rfl rfl (by simp [Value.cells, EntD.cells]) (by decide) rfl (fun b19 => ?_)
  refine l_call (by kernel_rfl) rfl rfl (fun w' hw => ?_)
  refine (ownEnts_s (.slice (some ⟨b19, 0, none⟩) 1 1) [x] w' (by simp) (by simpa using hx.data) (hw.rdVec0 4 rfl) (all_cons (rd_x.at0 hw) (fun p hp => by cases hp))).mono ?_
  rintro r1_ w1 ⟨_, es2_, rfl, hf1_2, hO⟩
  obtain ⟨hx0, hx1⟩ := own1 hf1_2
  refine (?_ : CL _ _ _ _ _ _ (Own w [] [Res.row b4 50 (EntD.cells x), Res.row b5 53 (ConfD.cells c), Res.row b6 55 (ShtD.cells s), Res.row b7 57 (HrdD.cells h), Res.vec 50 5 (.slice (some ⟨b19, 0, none⟩) 1 1) [x].length ([x].flatMap EntD.cells), Res.vec 50 5 r1_ es2_.length (es2_.flatMap EntD.cells), Res.star (es2_.map EntD.dres)])) w1 (hw.frame0 hO)
  refine l_idxS (j := 0) (sz := 5) (len := es2_.length) (cs := (es2_.flatMap EntD.cells)) rfl rfl (by kernel_rfl) (fun w' hw' => Vec.sl (Own.holds hw' 5 _ rfl)) rfl (by omega) rfl ?_
  refine l_ldSN (0 * 5 + 0) (cs := (es2_.flatMap EntD.cells)) (EntD.cells (nth es2_ 0)) rfl (by omega) (fun w' hw' => Vec.sl (Own.holds hw' 5 _ rfl)) (flat_atN (sz := 5) (fun _ => rfl) (nth_some (by omega)) (o := 0) (us := (EntD.cells (nth es2_ 0))) (fun k u h => by rw [Nat.zero_add]; exact h)) (by kernel_rfl) rfl ?_
  refine l_call (by kernel_rfl) rfl rfl (fun w' hw => ?_)
  refine (msgEntry_s (nth es2_ 0) w' (by rw [hx0]; exact hx) (EntD.rd.star0 6 rfl hw _ (nth_mem (by omega)))).mono ?_
  rintro _ w1 ⟨r3_, rfl, hO⟩
  refine (?_ : CL _ _ _ _ _ _ (Own w [] [Res.row b4 50 (EntD.cells x), Res.row b5 53 (ConfD.cells c), Res.row b6 55 (ShtD.cells s), Res.row b7 57 (HrdD.cells h), Res.vec 50 5 (.slice (some ⟨b19, 0, none⟩) 1 1) [x].length ([x].flatMap EntD.cells), Res.vec 50 5 r1_ es2_.length (es2_.flatMap EntD.cells), Res.star (es2_.map EntD.dres), Res.vec 5 1 r3_ (if (nth es2_ 0).ok then (nth es2_ 0).enc else []).length ((if (nth es2_ 0).ok then (nth es2_ 0).enc else []).map vb)])) w1 (hw.frame0 hO)
  refine l_mv rfl ?_
  refine l_ext (vs := [r3_, .int .i64 (errOf (nth es2_ 0).ok)]) rfl rfl rfl ?_
  refine l_ext (vs := [r3_, .int .i64 (errOf (nth es2_ 0).ok)]) rfl rfl rfl ?_
  refine l_as rfl ?_
  refine l_as rfl ?_
  refine l_end ?_
  refine c_reg ?_
  refine l_ldr (cs := (ConfD.cells c)) 1 rfl rfl (by kernel_rfl) rfl ?_
  refine l_call (by kernel_rfl) rfl rfl (fun w' hw => ?_)
  refine (ownConf_s c w' (by first | assumption | omega | (simp <;> omega) | (constructor <;> (first | omega | (simp only [LenOk]; omega) | (simp <;> omega)))) (rd_c.at0 hw)).mono ?_
  rintro _ w1 ⟨a4_, b5_, rfl, hO⟩
  refine (?_ : CL _ _ _ _ _ _ (Own w [] [Res.row b4 50 (EntD.cells x), Res.row b5 53 (ConfD.cells c), Res.row b6 55 (ShtD.cells s), Res.row b7 57 (HrdD.cells h), Res.vec 50 5 (.slice (some ⟨b19, 0, none⟩) 1 1) [x].length ([x].flatMap EntD.cells), Res.vec 50 5 r1_ es2_.length (es2_.flatMap EntD.cells), Res.star (es2_.map EntD.dres), Res.vec 5 1 r3_ (if (nth es2_ 0).ok then (nth es2_ 0).enc else []).length ((if (nth es2_ 0).ok then (nth es2_ 0).enc else []).map vb), Res.vec 3 1 a4_ c.vs.length (c.vs.flatMap I1), Res.vec 3 1 b5_ c.ls.length (c.ls.flatMap I1)])) w1 (hw.frame0 hO)
  refine l_call (by kernel_rfl) rfl rfl (fun w' hw => ?_)
  refine (msgConf_s ({ c with vv := a4_, lv := b5_ } : ConfD) w' ⟨hc.vs, hc.ls⟩ ⟨(hw.rdVec0 8 rfl), (hw.rdVec0 9 rfl)⟩).mono ?_
  rintro _ w1 ⟨r6_, rfl, hO⟩
  refine (?_ : CL _ _ _ _ _ _ (Own w [] [Res.row b4 50 (EntD.cells x), Res.row b5 53 (ConfD.cells c), Res.row b6 55 (ShtD.cells s), Res.row b7 57 (HrdD.cells h), Res.vec 50 5 (.slice (some ⟨b19, 0, none⟩) 1 1) [x].length ([x].flatMap EntD.cells), Res.vec 50 5 r1_ es2_.length (es2_.flatMap EntD.cells), Res.star (es2_.map EntD.dres), Res.vec 5 1 r3_ (if (nth es2_ 0).ok then (nth es2_ 0).enc else []).length ((if (nth es2_ 0).ok then (nth es2_ 0).enc else []).map vb), Res.vec 3 1 a4_ c.vs.length (c.vs.flatMap I1), Res.vec 3 1 b5_ c.ls.length (c.ls.flatMap I1), Res.vec 5 1 r6_ (if ({ c with vv := a4_, lv := b5_ } : ConfD).ok then ({ c with vv := a4_, lv := b5_ } : ConfD).enc else []).length ((if ({ c with vv := a4_, lv := b5_ } : ConfD).ok then ({ c with vv := a4_, lv := b5_ } : ConfD).enc else []).map vb)])) w1 (hw.frame0 hO)
  refine l_mv rfl ?_
  refine l_ext (vs := [r6_, .int .i64 (errOf ({ c with vv := a4_, lv := b5_ } : ConfD).ok)]) rfl rfl rfl ?_
  refine l_ext (vs := [r6_, .int .i64 (errOf ({ c with vv := a4_, lv := b5_ } : ConfD).ok)]) rfl rfl rfl ?_
  refine l_as rfl ?_
  refine l_as rfl ?_
  refine l_end ?_
  refine c_reg ?_
  refine l_ldr (cs := (ShtD.cells s)) 2 rfl rfl (by kernel_rfl) rfl ?_
  refine l_call (by kernel_rfl) rfl rfl (fun w' hw => ?_)
  refine (ownShot_s s w' (by first | assumption | omega | (simp <;> omega) | (constructor <;> (first | omega | (simp only [LenOk]; omega) | (simp <;> omega)))) (rd_s.at0 hw)).mono ?_
  rintro _ w1 ⟨a7_, b8_, c9_, rfl, hO⟩
  refine (?_ : CL _ _ _ _ _ _ (Own w [] [Res.row b4 50 (EntD.cells x), Res.row b5 53 (ConfD.cells c), Res.row b6 55 (ShtD.cells s), Res.row b7 57 (HrdD.cells h), Res.vec 50 5 (.slice (some ⟨b19, 0, none⟩) 1 1) [x].length ([x].flatMap EntD.cells), Res.vec 50 5 r1_ es2_.length (es2_.flatMap EntD.cells), Res.star (es2_.map EntD.dres), Res.vec 5 1 r3_ (if (nth es2_ 0).ok then (nth es2_ 0).enc else []).length ((if (nth es2_ 0).ok then (nth es2_ 0).enc else []).map vb), Res.vec 3 1 a4_ c.vs.length (c.vs.flatMap I1), Res.vec 3 1 b5_ c.ls.length (c.ls.flatMap I1), Res.vec 5 1 r6_ (if ({ c with vv := a4_, lv := b5_ } : ConfD).ok then ({ c with vv := a4_, lv := b5_ } : ConfD).enc else []).length ((if ({ c with vv := a4_, lv := b5_ } : ConfD).ok then ({ c with vv := a4_, lv := b5_ } : ConfD).enc else []).map vb), Res.vec 3 1 a7_ s.conf.vs.length (s.conf.vs.flatMap I1), Res.vec 3 1 b8_ s.conf.ls.length (s.conf.ls.flatMap I1), Res.vec 5 1 c9_ s.data.length (s.data.map vb)])) w1 (hw.frame0 hO)
  refine l_call (by kernel_rfl) rfl rfl (fun w' hw => ?_)
  refine (msgShot_s ({ s with conf := ({ vv := a7_, vs := s.conf.vs, lv := b8_, ls := s.conf.ls } : ConfD), dv := c9_ } : ShtD) w' ⟨hs.index, hs.term, ⟨hs.conf.vs, hs.conf.ls⟩, hs.data⟩ ⟨⟨(hw.rdVec0 11 rfl), (hw.rdVec0 12 rfl)⟩, (hw.rdVec0 13 rfl)⟩).mono ?_
  rintro _ w1 ⟨r10_, rfl, hO⟩
  refine (?_ : CL _ _ _ _ _ _ (Own w [] [Res.row b4 50 (EntD.cells x), Res.row b5 53 (ConfD.cells c), Res.row b6 55 (ShtD.cells s), Res.row b7 57 (HrdD.cells h), Res.vec 50 5 (.slice (some ⟨b19, 0, none⟩) 1 1) [x].length ([x].flatMap EntD.cells), Res.vec 50 5 r1_ es2_.length (es2_.flatMap EntD.cells), Res.star (es2_.map EntD.dres), Res.vec 5 1 r3_ (if (nth es2_ 0).ok then (nth es2_ 0).enc else []).length ((if (nth es2_ 0).ok then (nth es2_ 0).enc else []).map vb), Res.vec 3 1 a4_ c.vs.length (c.vs.flatMap I1), Res.vec 3 1 b5_ c.ls.length (c.ls.flatMap I1), Res.vec 5 1 r6_ (if ({ c with vv := a4_, lv := b5_ } : ConfD).ok then ({ c with vv := a4_, lv := b5_ } : ConfD).enc else []).length ((if ({ c with vv := a4_, lv := b5_ } : ConfD).ok then ({ c with vv := a4_, lv := b5_ } : ConfD).enc else []).map vb), Res.vec 3 1 a7_ s.conf.vs.length (s.conf.vs.flatMap I1), Res.vec 3 1 b8_ s.conf.ls.length (s.conf.ls.flatMap I1), Res.vec 5 1 c9_ s.data.length (s.data.map vb), Res.vec 5 1 r10_ (if ({ s with conf := ({ vv := a7_, vs := s.conf.vs, lv := b8_, ls := s.conf.ls } : ConfD), dv := c9_ } : ShtD).a.ok then ({ s with conf := ({ vv := a7_, vs := s.conf.vs, lv := b8_, ls := s.conf.ls } : ConfD), dv := c9_ } : ShtD).a.enc else []).length ((if ({ s with conf := ({ vv := a7_, vs := s.conf.vs, lv := b8_, ls := s.conf.ls } : ConfD), dv := c9_ } : ShtD).a.ok then ({ s with conf := ({ vv := a7_, vs := s.conf.vs, lv := b8_, ls := s.conf.ls } : ConfD), dv := c9_ } : ShtD).a.enc else []).map vb)])) w1 (hw.frame0 hO)
  refine l_mv rfl ?_
  refine l_ext (vs := [r10_, .int .i64 (errOf ({ s with conf := ({ vv := a7_, vs := s.conf.vs, lv := b8_, ls := s.conf.ls } : ConfD), dv := c9_ } : ShtD).a.ok)]) rfl rfl rfl ?_
  refine l_ext (vs := [r10_, .int .i64 (errOf ({ s with conf := ({ vv := a7_, vs := s.conf.vs, lv := b8_, ls := s.conf.ls } : ConfD), dv := c9_ } : ShtD).a.ok)]) rfl rfl rfl ?_
  refine l_as rfl ?_
  refine l_as rfl ?_
  refine l_end ?_
  refine c_reg ?_
  refine l_ldr (cs := (HrdD.cells h)) 3 rfl rfl (by kernel_rfl) rfl ?_
  refine l_call (by kernel_rfl) rfl rfl (fun w' hw => ?_)
  refine (msgHard_s h w' (by first | assumption | omega | (simp <;> omega) | (constructor <;> (first | omega | (simp only [LenOk]; omega) | (simp <;> omega))))).mono ?_
  rintro _ w1 ⟨r11_, rfl, hO⟩
  refine (?_ : CL _ _ _ _ _ _ (Own w [] [Res.row b4 50 (EntD.cells x), Res.row b5 53 (ConfD.cells c), Res.row b6 55 (ShtD.cells s), Res.row b7 57 (HrdD.cells h), Res.vec 50 5 (.slice (some ⟨b19, 0, none⟩) 1 1) [x].length ([x].flatMap EntD.cells), Res.vec 50 5 r1_ es2_.length (es2_.flatMap EntD.cells), Res.star (es2_.map EntD.dres), Res.vec 5 1 r3_ (if (nth es2_ 0).ok then (nth es2_ 0).enc else []).length ((if (nth es2_ 0).ok then (nth es2_ 0).enc else []).map vb), Res.vec 3 1 a4_ c.vs.length (c.vs.flatMap I1), Res.vec 3 1 b5_ c.ls.length (c.ls.flatMap I1), Res.vec 5 1 r6_ (if ({ c with vv := a4_, lv := b5_ } : ConfD).ok then ({ c with vv := a4_, lv := b5_ } : ConfD).enc else []).length ((if ({ c with vv := a4_, lv := b5_ } : ConfD).ok then ({ c with vv := a4_, lv := b5_ } : ConfD).enc else []).map vb), Res.vec 3 1 a7_ s.conf.vs.length (s.conf.vs.flatMap I1), Res.vec 3 1 b8_ s.conf.ls.length (s.conf.ls.flatMap I1), Res.vec 5 1 c9_ s.data.length (s.data.map vb), Res.vec 5 1 r10_ (if ({ s with conf := ({ vv := a7_, vs := s.conf.vs, lv := b8_, ls := s.conf.ls } : ConfD), dv := c9_ } : ShtD).a.ok then ({ s with conf := ({ vv := a7_, vs := s.conf.vs, lv := b8_, ls := s.conf.ls } : ConfD), dv := c9_ } : ShtD).a.enc else []).length ((if ({ s with conf := ({ vv := a7_, vs := s.conf.vs, lv := b8_, ls := s.conf.ls } : ConfD), dv := c9_ } : ShtD).a.ok then ({ s with conf := ({ vv := a7_, vs := s.conf.vs, lv := b8_, ls := s.conf.ls } : ConfD), dv := c9_ } : ShtD).a.enc else []).map vb), Res.vec 5 1 r11_ (if h.ok then h.enc else []).length ((if h.ok then h.enc else []).map vb)])) w1 (hw.frame0 hO)
  refine l_mv rfl ?_
  refine l_ext (vs := [r11_, .int .i64 (errOf h.ok)]) rfl rfl rfl ?_
  refine l_ext (vs := [r11_, .int .i64 (errOf h.ok)]) rfl rfl rfl ?_
  refine l_as rfl ?_
  refine l_as rfl ?_
  refine l_end ?_
  refine c_seq ?_
  refine c_heldo [0, 1, 2, 3, 4, 5, 7, 8, 9, 10, 11, 12, 13, 14, 15] rfl (by decide) (by kernel_rfl) (fun w' hw hS => ?_)
  refine h_one 0 (by kernel_rfl) rfl hw ?_
  refine l_call (by kernel_rfl) rfl rfl (fun w' hw => ?_)
  refine (answers_s w').mono ?_
  rintro _ w1 ⟨rfl, hO⟩
  refine (?_ : CL _ _ _ _ _ _ (Own w [] [Res.row b4 50 (EntD.cells x), Res.row b5 53 (ConfD.cells c), Res.row b6 55 (ShtD.cells s), Res.row b7 57 (HrdD.cells h), Res.vec 50 5 (.slice (some ⟨b19, 0, none⟩) 1 1) [x].length ([x].flatMap EntD.cells), Res.vec 50 5 r1_ es2_.length (es2_.flatMap EntD.cells), Res.star (es2_.map EntD.dres), Res.vec 5 1 r3_ (if (nth es2_ 0).ok then (nth es2_ 0).enc else []).length ((if (nth es2_ 0).ok then (nth es2_ 0).enc else []).map vb), Res.vec 3 1 a4_ c.vs.length (c.vs.flatMap I1), Res.vec 3 1 b5_ c.ls.length (c.ls.flatMap I1), Res.vec 5 1 r6_ (if ({ c with vv := a4_, lv := b5_ } : ConfD).ok then ({ c with vv := a4_, lv := b5_ } : ConfD).enc else []).length ((if ({ c with vv := a4_, lv := b5_ } : ConfD).ok then ({ c with vv := a4_, lv := b5_ } : ConfD).enc else []).map vb), Res.vec 3 1 a7_ s.conf.vs.length (s.conf.vs.flatMap I1), Res.vec 3 1 b8_ s.conf.ls.length (s.conf.ls.flatMap I1), Res.vec 5 1 c9_ s.data.length (s.data.map vb), Res.vec 5 1 r10_ (if ({ s with conf := ({ vv := a7_, vs := s.conf.vs, lv := b8_, ls := s.conf.ls } : ConfD), dv := c9_ } : ShtD).a.ok then ({ s with conf := ({ vv := a7_, vs := s.conf.vs, lv := b8_, ls := s.conf.ls } : ConfD), dv := c9_ } : ShtD).a.enc else []).length ((if ({ s with conf := ({ vv := a7_, vs := s.conf.vs, lv := b8_, ls := s.conf.ls } : ConfD), dv := c9_ } : ShtD).a.ok then ({ s with conf := ({ vv := a7_, vs := s.conf.vs, lv := b8_, ls := s.conf.ls } : ConfD), dv := c9_ } : ShtD).a.enc else []).map vb), Res.vec 5 1 r11_ (if h.ok then h.enc else []).length ((if h.ok then h.enc else []).map vb)])) w1 (hw.frame0 hO)
  refine l_nil (fun w' hw => ?_)
  have hS := hw.sel [0, 1, 2, 3, 4, 5, 7, 8, 9, 10, 11, 12, 13, 14, 15] rfl (by decide)
  refine ⟨hS, ?_⟩
  refine h_take 1 rfl (by kernel_rfl) (by kernel_rfl) (by kernel_rfl) (v_mv) rfl hS ?_
  refine h_takeg 2 rfl rfl rfl (by kernel_rfl) (by kernel_rfl) (by kernel_rfl) (v_mv) rfl hS ?_
  refine h_takeg 3 rfl rfl rfl (by kernel_rfl) (by kernel_rfl) (by kernel_rfl) (v_mv) rfl hS ?_
  refine h_takeg 4 rfl rfl rfl (by kernel_rfl) (by kernel_rfl) (by kernel_rfl) (v_ldr (cs := (EntD.cells x)) 0 rfl rfl (by kernel_rfl)) rfl hS ?_
  refine h_takeg 6 rfl rfl rfl (by kernel_rfl) (by kernel_rfl) (by kernel_rfl) (v_ldr (cs := (EntD.cells x)) 0 rfl rfl (by kernel_rfl)) rfl hS ?_
  refine h_one 5 (by kernel_rfl) rfl hw ?_
  refine l_on rfl rfl ?_
  refine l_call (by kernel_rfl) rfl rfl (fun w' hw => ?_)
  refine (rentOK_s x w' (by first | assumption | omega | (simp <;> omega) | (constructor <;> (first | omega | (simp only [LenOk]; omega) | (simp <;> omega)))) (rd_x.at0 hw)).mono ?_
  rintro _ w1 ⟨rfl, hO⟩
  refine (?_ : CL _ _ _ _ _ _ (Own w [] [Res.row b4 50 (EntD.cells x), Res.row b5 53 (ConfD.cells c), Res.row b6 55 (ShtD.cells s), Res.row b7 57 (HrdD.cells h), Res.vec 50 5 (.slice (some ⟨b19, 0, none⟩) 1 1) [x].length ([x].flatMap EntD.cells), Res.vec 50 5 r1_ es2_.length (es2_.flatMap EntD.cells), Res.star (es2_.map EntD.dres), Res.vec 5 1 r3_ (if (nth es2_ 0).ok then (nth es2_ 0).enc else []).length ((if (nth es2_ 0).ok then (nth es2_ 0).enc else []).map vb), Res.vec 3 1 a4_ c.vs.length (c.vs.flatMap I1), Res.vec 3 1 b5_ c.ls.length (c.ls.flatMap I1), Res.vec 5 1 r6_ (if ({ c with vv := a4_, lv := b5_ } : ConfD).ok then ({ c with vv := a4_, lv := b5_ } : ConfD).enc else []).length ((if ({ c with vv := a4_, lv := b5_ } : ConfD).ok then ({ c with vv := a4_, lv := b5_ } : ConfD).enc else []).map vb), Res.vec 3 1 a7_ s.conf.vs.length (s.conf.vs.flatMap I1), Res.vec 3 1 b8_ s.conf.ls.length (s.conf.ls.flatMap I1), Res.vec 5 1 c9_ s.data.length (s.data.map vb), Res.vec 5 1 r10_ (if ({ s with conf := ({ vv := a7_, vs := s.conf.vs, lv := b8_, ls := s.conf.ls } : ConfD), dv := c9_ } : ShtD).a.ok then ({ s with conf := ({ vv := a7_, vs := s.conf.vs, lv := b8_, ls := s.conf.ls } : ConfD), dv := c9_ } : ShtD).a.enc else []).length ((if ({ s with conf := ({ vv := a7_, vs := s.conf.vs, lv := b8_, ls := s.conf.ls } : ConfD), dv := c9_ } : ShtD).a.ok then ({ s with conf := ({ vv := a7_, vs := s.conf.vs, lv := b8_, ls := s.conf.ls } : ConfD), dv := c9_ } : ShtD).a.enc else []).map vb), Res.vec 5 1 r11_ (if h.ok then h.enc else []).length ((if h.ok then h.enc else []).map vb)])) w1 (hw.frame0 hO)
  refine l_nil (fun w' hw => ?_)
  have hS := hw.sel [0, 1, 2, 3, 4, 5, 7, 8, 9, 10, 11, 12, 13, 14, 15] rfl (by decide)
  refine ⟨hS, ?_⟩
  refine h_one 7 (by kernel_rfl) rfl hw ?_
  refine l_on rfl rfl ?_
  refine l_call (by kernel_rfl) rfl rfl (fun w' hw => ?_)
  refine (rentry_s x w' (by first | assumption | omega | (simp <;> omega) | (constructor <;> (first | omega | (simp only [LenOk]; omega) | (simp <;> omega)))) (rd_x.at0 hw)).mono ?_
  rintro r12_ w1 ⟨_, rfl, hO⟩
  refine (?_ : CL _ _ _ _ _ _ (Own w [] [Res.row b4 50 (EntD.cells x), Res.row b5 53 (ConfD.cells c), Res.row b6 55 (ShtD.cells s), Res.row b7 57 (HrdD.cells h), Res.vec 50 5 (.slice (some ⟨b19, 0, none⟩) 1 1) [x].length ([x].flatMap EntD.cells), Res.vec 50 5 r1_ es2_.length (es2_.flatMap EntD.cells), Res.star (es2_.map EntD.dres), Res.vec 5 1 r3_ (if (nth es2_ 0).ok then (nth es2_ 0).enc else []).length ((if (nth es2_ 0).ok then (nth es2_ 0).enc else []).map vb), Res.vec 3 1 a4_ c.vs.length (c.vs.flatMap I1), Res.vec 3 1 b5_ c.ls.length (c.ls.flatMap I1), Res.vec 5 1 r6_ (if ({ c with vv := a4_, lv := b5_ } : ConfD).ok then ({ c with vv := a4_, lv := b5_ } : ConfD).enc else []).length ((if ({ c with vv := a4_, lv := b5_ } : ConfD).ok then ({ c with vv := a4_, lv := b5_ } : ConfD).enc else []).map vb), Res.vec 3 1 a7_ s.conf.vs.length (s.conf.vs.flatMap I1), Res.vec 3 1 b8_ s.conf.ls.length (s.conf.ls.flatMap I1), Res.vec 5 1 c9_ s.data.length (s.data.map vb), Res.vec 5 1 r10_ (if ({ s with conf := ({ vv := a7_, vs := s.conf.vs, lv := b8_, ls := s.conf.ls } : ConfD), dv := c9_ } : ShtD).a.ok then ({ s with conf := ({ vv := a7_, vs := s.conf.vs, lv := b8_, ls := s.conf.ls } : ConfD), dv := c9_ } : ShtD).a.enc else []).length ((if ({ s with conf := ({ vv := a7_, vs := s.conf.vs, lv := b8_, ls := s.conf.ls } : ConfD), dv := c9_ } : ShtD).a.ok then ({ s with conf := ({ vv := a7_, vs := s.conf.vs, lv := b8_, ls := s.conf.ls } : ConfD), dv := c9_ } : ShtD).a.enc else []).map vb), Res.vec 5 1 r11_ (if h.ok then h.enc else []).length ((if h.ok then h.enc else []).map vb), Res.vec 5 1 r12_ x.enc.length (x.enc.map vb)])) w1 (hw.frame0 hO)
  refine l_nil (fun w' hw => ?_)
  have hS := hw.sel [0, 1, 2, 3, 4, 5, 7, 8, 9, 10, 11, 12, 13, 14, 15] rfl (by decide)
  refine ⟨hS, ?_⟩
  refine h_one 8 (by kernel_rfl) rfl hw ?_
  refine l_on rfl rfl ?_
  refine l_call (by kernel_rfl) rfl rfl (fun w' hw => ?_)
  refine (fits_s r3_ (if (nth es2_ 0).ok then (nth es2_ 0).enc else []) (errOf (nth es2_ 0).ok) x.ok r12_ x.enc w' (by rw [hx0]; exact enc_fits.1) (by rw [hx0]; exact enc_fits.2) (hw.rdVec0 7 rfl) (hw.rdVec0 16 rfl)).mono ?_
  rintro _ w1 ⟨rfl, hO⟩
  refine (?_ : CL _ _ _ _ _ _ (Own w [] [Res.row b4 50 (EntD.cells x), Res.row b5 53 (ConfD.cells c), Res.row b6 55 (ShtD.cells s), Res.row b7 57 (HrdD.cells h), Res.vec 50 5 (.slice (some ⟨b19, 0, none⟩) 1 1) [x].length ([x].flatMap EntD.cells), Res.vec 50 5 r1_ es2_.length (es2_.flatMap EntD.cells), Res.star (es2_.map EntD.dres), Res.vec 5 1 r3_ (if (nth es2_ 0).ok then (nth es2_ 0).enc else []).length ((if (nth es2_ 0).ok then (nth es2_ 0).enc else []).map vb), Res.vec 3 1 a4_ c.vs.length (c.vs.flatMap I1), Res.vec 3 1 b5_ c.ls.length (c.ls.flatMap I1), Res.vec 5 1 r6_ (if ({ c with vv := a4_, lv := b5_ } : ConfD).ok then ({ c with vv := a4_, lv := b5_ } : ConfD).enc else []).length ((if ({ c with vv := a4_, lv := b5_ } : ConfD).ok then ({ c with vv := a4_, lv := b5_ } : ConfD).enc else []).map vb), Res.vec 3 1 a7_ s.conf.vs.length (s.conf.vs.flatMap I1), Res.vec 3 1 b8_ s.conf.ls.length (s.conf.ls.flatMap I1), Res.vec 5 1 c9_ s.data.length (s.data.map vb), Res.vec 5 1 r10_ (if ({ s with conf := ({ vv := a7_, vs := s.conf.vs, lv := b8_, ls := s.conf.ls } : ConfD), dv := c9_ } : ShtD).a.ok then ({ s with conf := ({ vv := a7_, vs := s.conf.vs, lv := b8_, ls := s.conf.ls } : ConfD), dv := c9_ } : ShtD).a.enc else []).length ((if ({ s with conf := ({ vv := a7_, vs := s.conf.vs, lv := b8_, ls := s.conf.ls } : ConfD), dv := c9_ } : ShtD).a.ok then ({ s with conf := ({ vv := a7_, vs := s.conf.vs, lv := b8_, ls := s.conf.ls } : ConfD), dv := c9_ } : ShtD).a.enc else []).map vb), Res.vec 5 1 r11_ (if h.ok then h.enc else []).length ((if h.ok then h.enc else []).map vb), Res.vec 5 1 r12_ x.enc.length (x.enc.map vb)])) w1 (hw.frame0 hO)
  refine l_nil (fun w' hw => ?_)
  have hS := hw.sel [0, 1, 2, 3, 4, 5, 7, 8, 9, 10, 11, 12, 13, 14, 15] rfl (by decide)
  refine ⟨hS, ?_⟩
  refine h_take 9 rfl (by kernel_rfl) (by kernel_rfl) (by kernel_rfl) (v_pickT rfl) rfl hS ?_
  refine h_take 10 rfl (by kernel_rfl) (by kernel_rfl) (by kernel_rfl) (v_mv) rfl hS ?_
  refine h_takeg 11 rfl rfl rfl (by kernel_rfl) (by kernel_rfl) (by kernel_rfl) (v_mv) rfl hS ?_
  refine h_takeg 12 rfl rfl rfl (by kernel_rfl) (by kernel_rfl) (by kernel_rfl) (v_mv) rfl hS ?_
  refine h_takeg 13 rfl rfl rfl (by kernel_rfl) (by kernel_rfl) (by kernel_rfl) (v_ldr (cs := (ConfD.cells c)) 1 rfl rfl (by kernel_rfl)) rfl hS ?_
  refine h_takeg 15 rfl rfl rfl (by kernel_rfl) (by kernel_rfl) (by kernel_rfl) (v_ldr (cs := (ConfD.cells c)) 1 rfl rfl (by kernel_rfl)) rfl hS ?_
  refine h_one 14 (by kernel_rfl) rfl hw ?_
  refine l_on rfl rfl ?_
  refine l_call (by kernel_rfl) rfl rfl (fun w' hw => ?_)
  refine (confOK_spec c w' (by first | assumption | omega | (simp <;> omega) | (constructor <;> (first | omega | (simp only [LenOk]; omega) | (simp <;> omega)))) (rd_c.at0 hw)).mono ?_
  rintro _ w1 ⟨rfl, hO⟩
  refine (?_ : CL _ _ _ _ _ _ (Own w [] [Res.row b4 50 (EntD.cells x), Res.row b5 53 (ConfD.cells c), Res.row b6 55 (ShtD.cells s), Res.row b7 57 (HrdD.cells h), Res.vec 50 5 (.slice (some ⟨b19, 0, none⟩) 1 1) [x].length ([x].flatMap EntD.cells), Res.vec 50 5 r1_ es2_.length (es2_.flatMap EntD.cells), Res.star (es2_.map EntD.dres), Res.vec 5 1 r3_ (if (nth es2_ 0).ok then (nth es2_ 0).enc else []).length ((if (nth es2_ 0).ok then (nth es2_ 0).enc else []).map vb), Res.vec 3 1 a4_ c.vs.length (c.vs.flatMap I1), Res.vec 3 1 b5_ c.ls.length (c.ls.flatMap I1), Res.vec 5 1 r6_ (if ({ c with vv := a4_, lv := b5_ } : ConfD).ok then ({ c with vv := a4_, lv := b5_ } : ConfD).enc else []).length ((if ({ c with vv := a4_, lv := b5_ } : ConfD).ok then ({ c with vv := a4_, lv := b5_ } : ConfD).enc else []).map vb), Res.vec 3 1 a7_ s.conf.vs.length (s.conf.vs.flatMap I1), Res.vec 3 1 b8_ s.conf.ls.length (s.conf.ls.flatMap I1), Res.vec 5 1 c9_ s.data.length (s.data.map vb), Res.vec 5 1 r10_ (if ({ s with conf := ({ vv := a7_, vs := s.conf.vs, lv := b8_, ls := s.conf.ls } : ConfD), dv := c9_ } : ShtD).a.ok then ({ s with conf := ({ vv := a7_, vs := s.conf.vs, lv := b8_, ls := s.conf.ls } : ConfD), dv := c9_ } : ShtD).a.enc else []).length ((if ({ s with conf := ({ vv := a7_, vs := s.conf.vs, lv := b8_, ls := s.conf.ls } : ConfD), dv := c9_ } : ShtD).a.ok then ({ s with conf := ({ vv := a7_, vs := s.conf.vs, lv := b8_, ls := s.conf.ls } : ConfD), dv := c9_ } : ShtD).a.enc else []).map vb), Res.vec 5 1 r11_ (if h.ok then h.enc else []).length ((if h.ok then h.enc else []).map vb), Res.vec 5 1 r12_ x.enc.length (x.enc.map vb)])) w1 (hw.frame0 hO)
  refine l_nil (fun w' hw => ?_)
  have hS := hw.sel [0, 1, 2, 3, 4, 5, 7, 8, 9, 10, 11, 12, 13, 14, 15] rfl (by decide)
  refine ⟨hS, ?_⟩
  refine h_one 16 (by kernel_rfl) rfl hw ?_
  refine l_on rfl rfl ?_
  refine l_call (by kernel_rfl) rfl rfl (fun w' hw => ?_)
  refine (rconf_s c w' (by first | assumption | omega | (simp <;> omega) | (constructor <;> (first | omega | (simp only [LenOk]; omega) | (simp <;> omega)))) (rd_c.at0 hw)).mono ?_
  rintro r13_ w1 ⟨_, rfl, hO⟩
  refine (?_ : CL _ _ _ _ _ _ (Own w [] [Res.row b4 50 (EntD.cells x), Res.row b5 53 (ConfD.cells c), Res.row b6 55 (ShtD.cells s), Res.row b7 57 (HrdD.cells h), Res.vec 50 5 (.slice (some ⟨b19, 0, none⟩) 1 1) [x].length ([x].flatMap EntD.cells), Res.vec 50 5 r1_ es2_.length (es2_.flatMap EntD.cells), Res.star (es2_.map EntD.dres), Res.vec 5 1 r3_ (if (nth es2_ 0).ok then (nth es2_ 0).enc else []).length ((if (nth es2_ 0).ok then (nth es2_ 0).enc else []).map vb), Res.vec 3 1 a4_ c.vs.length (c.vs.flatMap I1), Res.vec 3 1 b5_ c.ls.length (c.ls.flatMap I1), Res.vec 5 1 r6_ (if ({ c with vv := a4_, lv := b5_ } : ConfD).ok then ({ c with vv := a4_, lv := b5_ } : ConfD).enc else []).length ((if ({ c with vv := a4_, lv := b5_ } : ConfD).ok then ({ c with vv := a4_, lv := b5_ } : ConfD).enc else []).map vb), Res.vec 3 1 a7_ s.conf.vs.length (s.conf.vs.flatMap I1), Res.vec 3 1 b8_ s.conf.ls.length (s.conf.ls.flatMap I1), Res.vec 5 1 c9_ s.data.length (s.data.map vb), Res.vec 5 1 r10_ (if ({ s with conf := ({ vv := a7_, vs := s.conf.vs, lv := b8_, ls := s.conf.ls } : ConfD), dv := c9_ } : ShtD).a.ok then ({ s with conf := ({ vv := a7_, vs := s.conf.vs, lv := b8_, ls := s.conf.ls } : ConfD), dv := c9_ } : ShtD).a.enc else []).length ((if ({ s with conf := ({ vv := a7_, vs := s.conf.vs, lv := b8_, ls := s.conf.ls } : ConfD), dv := c9_ } : ShtD).a.ok then ({ s with conf := ({ vv := a7_, vs := s.conf.vs, lv := b8_, ls := s.conf.ls } : ConfD), dv := c9_ } : ShtD).a.enc else []).map vb), Res.vec 5 1 r11_ (if h.ok then h.enc else []).length ((if h.ok then h.enc else []).map vb), Res.vec 5 1 r12_ x.enc.length (x.enc.map vb), Res.vec 5 1 r13_ c.enc.length (c.enc.map vb)])) w1 (hw.frame0 hO)
  refine l_nil (fun w' hw => ?_)
  have hS := hw.sel [0, 1, 2, 3, 4, 5, 7, 8, 9, 10, 11, 12, 13, 14, 15] rfl (by decide)
  refine ⟨hS, ?_⟩
  refine h_one 17 (by kernel_rfl) rfl hw ?_
  refine l_on rfl rfl ?_
  refine l_call (by kernel_rfl) rfl rfl (fun w' hw => ?_)
  refine (fits_s r6_ (if ({ c with vv := a4_, lv := b5_ } : ConfD).ok then ({ c with vv := a4_, lv := b5_ } : ConfD).enc else []) (errOf ({ c with vv := a4_, lv := b5_ } : ConfD).ok) c.ok r13_ c.enc w' enc_fits.1 enc_fits.2 (hw.rdVec0 10 rfl) (hw.rdVec0 17 rfl)).mono ?_
  rintro _ w1 ⟨rfl, hO⟩
  refine (?_ : CL _ _ _ _ _ _ (Own w [] [Res.row b4 50 (EntD.cells x), Res.row b5 53 (ConfD.cells c), Res.row b6 55 (ShtD.cells s), Res.row b7 57 (HrdD.cells h), Res.vec 50 5 (.slice (some ⟨b19, 0, none⟩) 1 1) [x].length ([x].flatMap EntD.cells), Res.vec 50 5 r1_ es2_.length (es2_.flatMap EntD.cells), Res.star (es2_.map EntD.dres), Res.vec 5 1 r3_ (if (nth es2_ 0).ok then (nth es2_ 0).enc else []).length ((if (nth es2_ 0).ok then (nth es2_ 0).enc else []).map vb), Res.vec 3 1 a4_ c.vs.length (c.vs.flatMap I1), Res.vec 3 1 b5_ c.ls.length (c.ls.flatMap I1), Res.vec 5 1 r6_ (if ({ c with vv := a4_, lv := b5_ } : ConfD).ok then ({ c with vv := a4_, lv := b5_ } : ConfD).enc else []).length ((if ({ c with vv := a4_, lv := b5_ } : ConfD).ok then ({ c with vv := a4_, lv := b5_ } : ConfD).enc else []).map vb), Res.vec 3 1 a7_ s.conf.vs.length (s.conf.vs.flatMap I1), Res.vec 3 1 b8_ s.conf.ls.length (s.conf.ls.flatMap I1), Res.vec 5 1 c9_ s.data.length (s.data.map vb), Res.vec 5 1 r10_ (if ({ s with conf := ({ vv := a7_, vs := s.conf.vs, lv := b8_, ls := s.conf.ls } : ConfD), dv := c9_ } : ShtD).a.ok then ({ s with conf := ({ vv := a7_, vs := s.conf.vs, lv := b8_, ls := s.conf.ls } : ConfD), dv := c9_ } : ShtD).a.enc else []).length ((if ({ s with conf := ({ vv := a7_, vs := s.conf.vs, lv := b8_, ls := s.conf.ls } : ConfD), dv := c9_ } : ShtD).a.ok then ({ s with conf := ({ vv := a7_, vs := s.conf.vs, lv := b8_, ls := s.conf.ls } : ConfD), dv := c9_ } : ShtD).a.enc else []).map vb), Res.vec 5 1 r11_ (if h.ok then h.enc else []).length ((if h.ok then h.enc else []).map vb), Res.vec 5 1 r12_ x.enc.length (x.enc.map vb), Res.vec 5 1 r13_ c.enc.length (c.enc.map vb)])) w1 (hw.frame0 hO)
  refine l_nil (fun w' hw => ?_)
  have hS := hw.sel [0, 1, 2, 3, 4, 5, 7, 8, 9, 10, 11, 12, 13, 14, 15] rfl (by decide)
  refine ⟨hS, ?_⟩
  refine h_take 18 rfl (by kernel_rfl) (by kernel_rfl) (by kernel_rfl) (v_pickT rfl) rfl hS ?_
  refine h_take 19 rfl (by kernel_rfl) (by kernel_rfl) (by kernel_rfl) (v_mv) rfl hS ?_
  refine h_takeg 20 rfl rfl rfl (by kernel_rfl) (by kernel_rfl) (by kernel_rfl) (v_mv) rfl hS ?_
  refine h_takeg 21 rfl rfl rfl (by kernel_rfl) (by kernel_rfl) (by kernel_rfl) (v_mv) rfl hS ?_
  refine h_takeg 22 rfl rfl rfl (by kernel_rfl) (by kernel_rfl) (by kernel_rfl) (v_ldr (cs := (ShtD.cells s)) 2 rfl rfl (by kernel_rfl)) rfl hS ?_
  refine h_takeg 24 rfl rfl rfl (by kernel_rfl) (by kernel_rfl) (by kernel_rfl) (v_ldr (cs := (ShtD.cells s)) 2 rfl rfl (by kernel_rfl)) rfl hS ?_
  refine h_one 23 (by kernel_rfl) rfl hw ?_
  refine l_on rfl rfl ?_
  refine l_call (by kernel_rfl) rfl rfl (fun w' hw => ?_)
  refine (rshtOK_s s w' (by first | assumption | omega | (simp <;> omega) | (constructor <;> (first | omega | (simp only [LenOk]; omega) | (simp <;> omega)))) (rd_s.at0 hw)).mono ?_
  rintro _ w1 ⟨rfl, hO⟩
  refine (?_ : CL _ _ _ _ _ _ (Own w [] [Res.row b4 50 (EntD.cells x), Res.row b5 53 (ConfD.cells c), Res.row b6 55 (ShtD.cells s), Res.row b7 57 (HrdD.cells h), Res.vec 50 5 (.slice (some ⟨b19, 0, none⟩) 1 1) [x].length ([x].flatMap EntD.cells), Res.vec 50 5 r1_ es2_.length (es2_.flatMap EntD.cells), Res.star (es2_.map EntD.dres), Res.vec 5 1 r3_ (if (nth es2_ 0).ok then (nth es2_ 0).enc else []).length ((if (nth es2_ 0).ok then (nth es2_ 0).enc else []).map vb), Res.vec 3 1 a4_ c.vs.length (c.vs.flatMap I1), Res.vec 3 1 b5_ c.ls.length (c.ls.flatMap I1), Res.vec 5 1 r6_ (if ({ c with vv := a4_, lv := b5_ } : ConfD).ok then ({ c with vv := a4_, lv := b5_ } : ConfD).enc else []).length ((if ({ c with vv := a4_, lv := b5_ } : ConfD).ok then ({ c with vv := a4_, lv := b5_ } : ConfD).enc else []).map vb), Res.vec 3 1 a7_ s.conf.vs.length (s.conf.vs.flatMap I1), Res.vec 3 1 b8_ s.conf.ls.length (s.conf.ls.flatMap I1), Res.vec 5 1 c9_ s.data.length (s.data.map vb), Res.vec 5 1 r10_ (if ({ s with conf := ({ vv := a7_, vs := s.conf.vs, lv := b8_, ls := s.conf.ls } : ConfD), dv := c9_ } : ShtD).a.ok then ({ s with conf := ({ vv := a7_, vs := s.conf.vs, lv := b8_, ls := s.conf.ls } : ConfD), dv := c9_ } : ShtD).a.enc else []).length ((if ({ s with conf := ({ vv := a7_, vs := s.conf.vs, lv := b8_, ls := s.conf.ls } : ConfD), dv := c9_ } : ShtD).a.ok then ({ s with conf := ({ vv := a7_, vs := s.conf.vs, lv := b8_, ls := s.conf.ls } : ConfD), dv := c9_ } : ShtD).a.enc else []).map vb), Res.vec 5 1 r11_ (if h.ok then h.enc else []).length ((if h.ok then h.enc else []).map vb), Res.vec 5 1 r12_ x.enc.length (x.enc.map vb), Res.vec 5 1 r13_ c.enc.length (c.enc.map vb)])) w1 (hw.frame0 hO)
  refine l_nil (fun w' hw => ?_)
  have hS := hw.sel [0, 1, 2, 3, 4, 5, 7, 8, 9, 10, 11, 12, 13, 14, 15] rfl (by decide)
  refine ⟨hS, ?_⟩
  refine h_one 25 (by kernel_rfl) rfl hw ?_
  refine l_on rfl rfl ?_
  refine l_call (by kernel_rfl) rfl rfl (fun w' hw => ?_)
  refine (rshot_s s w' (by first | assumption | omega | (simp <;> omega) | (constructor <;> (first | omega | (simp only [LenOk]; omega) | (simp <;> omega)))) (rd_s.at0 hw)).mono ?_
  rintro r14_ w1 ⟨_, rfl, hO⟩
  refine (?_ : CL _ _ _ _ _ _ (Own w [] [Res.row b4 50 (EntD.cells x), Res.row b5 53 (ConfD.cells c), Res.row b6 55 (ShtD.cells s), Res.row b7 57 (HrdD.cells h), Res.vec 50 5 (.slice (some ⟨b19, 0, none⟩) 1 1) [x].length ([x].flatMap EntD.cells), Res.vec 50 5 r1_ es2_.length (es2_.flatMap EntD.cells), Res.star (es2_.map EntD.dres), Res.vec 5 1 r3_ (if (nth es2_ 0).ok then (nth es2_ 0).enc else []).length ((if (nth es2_ 0).ok then (nth es2_ 0).enc else []).map vb), Res.vec 3 1 a4_ c.vs.length (c.vs.flatMap I1), Res.vec 3 1 b5_ c.ls.length (c.ls.flatMap I1), Res.vec 5 1 r6_ (if ({ c with vv := a4_, lv := b5_ } : ConfD).ok then ({ c with vv := a4_, lv := b5_ } : ConfD).enc else []).length ((if ({ c with vv := a4_, lv := b5_ } : ConfD).ok then ({ c with vv := a4_, lv := b5_ } : ConfD).enc else []).map vb), Res.vec 3 1 a7_ s.conf.vs.length (s.conf.vs.flatMap I1), Res.vec 3 1 b8_ s.conf.ls.length (s.conf.ls.flatMap I1), Res.vec 5 1 c9_ s.data.length (s.data.map vb), Res.vec 5 1 r10_ (if ({ s with conf := ({ vv := a7_, vs := s.conf.vs, lv := b8_, ls := s.conf.ls } : ConfD), dv := c9_ } : ShtD).a.ok then ({ s with conf := ({ vv := a7_, vs := s.conf.vs, lv := b8_, ls := s.conf.ls } : ConfD), dv := c9_ } : ShtD).a.enc else []).length ((if ({ s with conf := ({ vv := a7_, vs := s.conf.vs, lv := b8_, ls := s.conf.ls } : ConfD), dv := c9_ } : ShtD).a.ok then ({ s with conf := ({ vv := a7_, vs := s.conf.vs, lv := b8_, ls := s.conf.ls } : ConfD), dv := c9_ } : ShtD).a.enc else []).map vb), Res.vec 5 1 r11_ (if h.ok then h.enc else []).length ((if h.ok then h.enc else []).map vb), Res.vec 5 1 r12_ x.enc.length (x.enc.map vb), Res.vec 5 1 r13_ c.enc.length (c.enc.map vb), Res.vec 5 1 r14_ s.a.enc.length (s.a.enc.map vb)])) w1 (hw.frame0 hO)
  refine l_nil (fun w' hw => ?_)
  have hS := hw.sel [0, 1, 2, 3, 4, 5, 7, 8, 9, 10, 11, 12, 13, 14, 15] rfl (by decide)
  refine ⟨hS, ?_⟩
  refine h_one 26 (by kernel_rfl) rfl hw ?_
  refine l_on rfl rfl ?_
  refine l_call (by kernel_rfl) rfl rfl (fun w' hw => ?_)
  refine (fits_s r10_ (if ({ s with conf := ({ vv := a7_, vs := s.conf.vs, lv := b8_, ls := s.conf.ls } : ConfD), dv := c9_ } : ShtD).a.ok then ({ s with conf := ({ vv := a7_, vs := s.conf.vs, lv := b8_, ls := s.conf.ls } : ConfD), dv := c9_ } : ShtD).a.enc else []) (errOf ({ s with conf := ({ vv := a7_, vs := s.conf.vs, lv := b8_, ls := s.conf.ls } : ConfD), dv := c9_ } : ShtD).a.ok) s.a.ok r14_ s.a.enc w' enc_fits.1 enc_fits.2 (hw.rdVec0 14 rfl) (hw.rdVec0 18 rfl)).mono ?_
  rintro _ w1 ⟨rfl, hO⟩
  refine (?_ : CL _ _ _ _ _ _ (Own w [] [Res.row b4 50 (EntD.cells x), Res.row b5 53 (ConfD.cells c), Res.row b6 55 (ShtD.cells s), Res.row b7 57 (HrdD.cells h), Res.vec 50 5 (.slice (some ⟨b19, 0, none⟩) 1 1) [x].length ([x].flatMap EntD.cells), Res.vec 50 5 r1_ es2_.length (es2_.flatMap EntD.cells), Res.star (es2_.map EntD.dres), Res.vec 5 1 r3_ (if (nth es2_ 0).ok then (nth es2_ 0).enc else []).length ((if (nth es2_ 0).ok then (nth es2_ 0).enc else []).map vb), Res.vec 3 1 a4_ c.vs.length (c.vs.flatMap I1), Res.vec 3 1 b5_ c.ls.length (c.ls.flatMap I1), Res.vec 5 1 r6_ (if ({ c with vv := a4_, lv := b5_ } : ConfD).ok then ({ c with vv := a4_, lv := b5_ } : ConfD).enc else []).length ((if ({ c with vv := a4_, lv := b5_ } : ConfD).ok then ({ c with vv := a4_, lv := b5_ } : ConfD).enc else []).map vb), Res.vec 3 1 a7_ s.conf.vs.length (s.conf.vs.flatMap I1), Res.vec 3 1 b8_ s.conf.ls.length (s.conf.ls.flatMap I1), Res.vec 5 1 c9_ s.data.length (s.data.map vb), Res.vec 5 1 r10_ (if ({ s with conf := ({ vv := a7_, vs := s.conf.vs, lv := b8_, ls := s.conf.ls } : ConfD), dv := c9_ } : ShtD).a.ok then ({ s with conf := ({ vv := a7_, vs := s.conf.vs, lv := b8_, ls := s.conf.ls } : ConfD), dv := c9_ } : ShtD).a.enc else []).length ((if ({ s with conf := ({ vv := a7_, vs := s.conf.vs, lv := b8_, ls := s.conf.ls } : ConfD), dv := c9_ } : ShtD).a.ok then ({ s with conf := ({ vv := a7_, vs := s.conf.vs, lv := b8_, ls := s.conf.ls } : ConfD), dv := c9_ } : ShtD).a.enc else []).map vb), Res.vec 5 1 r11_ (if h.ok then h.enc else []).length ((if h.ok then h.enc else []).map vb), Res.vec 5 1 r12_ x.enc.length (x.enc.map vb), Res.vec 5 1 r13_ c.enc.length (c.enc.map vb), Res.vec 5 1 r14_ s.a.enc.length (s.a.enc.map vb)])) w1 (hw.frame0 hO)
  refine l_nil (fun w' hw => ?_)
  have hS := hw.sel [0, 1, 2, 3, 4, 5, 7, 8, 9, 10, 11, 12, 13, 14, 15] rfl (by decide)
  refine ⟨hS, ?_⟩
  refine h_take 27 rfl (by kernel_rfl) (by kernel_rfl) (by kernel_rfl) (v_pickT rfl) rfl hS ?_
  refine h_take 28 rfl (by kernel_rfl) (by kernel_rfl) (by kernel_rfl) (v_mv) rfl hS ?_
  refine h_takeg 29 rfl rfl rfl (by kernel_rfl) (by kernel_rfl) (by kernel_rfl) (v_mv) rfl hS ?_
  refine h_takeg 30 rfl rfl rfl (by kernel_rfl) (by kernel_rfl) (by kernel_rfl) (v_mv) rfl hS ?_
  refine h_takeg 31 rfl rfl rfl (by kernel_rfl) (by kernel_rfl) (by kernel_rfl) (v_ldr (cs := (HrdD.cells h)) 3 rfl rfl (by kernel_rfl)) rfl hS ?_
  refine h_takeg 33 rfl rfl rfl (by kernel_rfl) (by kernel_rfl) (by kernel_rfl) (v_ldr (cs := (HrdD.cells h)) 3 rfl rfl (by kernel_rfl)) rfl hS ?_
  refine h_one 32 (by kernel_rfl) rfl hw ?_
  refine l_on rfl rfl ?_
  refine l_call (by kernel_rfl) rfl rfl (fun w' hw => ?_)
  refine (rhrdOK_s h w').mono ?_
  rintro _ w1 ⟨rfl, hO⟩
  refine (?_ : CL _ _ _ _ _ _ (Own w [] [Res.row b4 50 (EntD.cells x), Res.row b5 53 (ConfD.cells c), Res.row b6 55 (ShtD.cells s), Res.row b7 57 (HrdD.cells h), Res.vec 50 5 (.slice (some ⟨b19, 0, none⟩) 1 1) [x].length ([x].flatMap EntD.cells), Res.vec 50 5 r1_ es2_.length (es2_.flatMap EntD.cells), Res.star (es2_.map EntD.dres), Res.vec 5 1 r3_ (if (nth es2_ 0).ok then (nth es2_ 0).enc else []).length ((if (nth es2_ 0).ok then (nth es2_ 0).enc else []).map vb), Res.vec 3 1 a4_ c.vs.length (c.vs.flatMap I1), Res.vec 3 1 b5_ c.ls.length (c.ls.flatMap I1), Res.vec 5 1 r6_ (if ({ c with vv := a4_, lv := b5_ } : ConfD).ok then ({ c with vv := a4_, lv := b5_ } : ConfD).enc else []).length ((if ({ c with vv := a4_, lv := b5_ } : ConfD).ok then ({ c with vv := a4_, lv := b5_ } : ConfD).enc else []).map vb), Res.vec 3 1 a7_ s.conf.vs.length (s.conf.vs.flatMap I1), Res.vec 3 1 b8_ s.conf.ls.length (s.conf.ls.flatMap I1), Res.vec 5 1 c9_ s.data.length (s.data.map vb), Res.vec 5 1 r10_ (if ({ s with conf := ({ vv := a7_, vs := s.conf.vs, lv := b8_, ls := s.conf.ls } : ConfD), dv := c9_ } : ShtD).a.ok then ({ s with conf := ({ vv := a7_, vs := s.conf.vs, lv := b8_, ls := s.conf.ls } : ConfD), dv := c9_ } : ShtD).a.enc else []).length ((if ({ s with conf := ({ vv := a7_, vs := s.conf.vs, lv := b8_, ls := s.conf.ls } : ConfD), dv := c9_ } : ShtD).a.ok then ({ s with conf := ({ vv := a7_, vs := s.conf.vs, lv := b8_, ls := s.conf.ls } : ConfD), dv := c9_ } : ShtD).a.enc else []).map vb), Res.vec 5 1 r11_ (if h.ok then h.enc else []).length ((if h.ok then h.enc else []).map vb), Res.vec 5 1 r12_ x.enc.length (x.enc.map vb), Res.vec 5 1 r13_ c.enc.length (c.enc.map vb), Res.vec 5 1 r14_ s.a.enc.length (s.a.enc.map vb)])) w1 (hw.frame0 hO)
  refine l_nil (fun w' hw => ?_)
  have hS := hw.sel [0, 1, 2, 3, 4, 5, 7, 8, 9, 10, 11, 12, 13, 14, 15] rfl (by decide)
  refine ⟨hS, ?_⟩
  refine h_one 34 (by kernel_rfl) rfl hw ?_
  refine l_on rfl rfl ?_
  refine l_call (by kernel_rfl) rfl rfl (fun w' hw => ?_)
  refine (rhard_s h w' (by first | assumption | omega | (simp <;> omega) | (constructor <;> (first | omega | (simp only [LenOk]; omega) | (simp <;> omega))))).mono ?_
  rintro r15_ w1 ⟨_, rfl, hO⟩
  refine (?_ : CL _ _ _ _ _ _ (Own w [] [Res.row b4 50 (EntD.cells x), Res.row b5 53 (ConfD.cells c), Res.row b6 55 (ShtD.cells s), Res.row b7 57 (HrdD.cells h), Res.vec 50 5 (.slice (some ⟨b19, 0, none⟩) 1 1) [x].length ([x].flatMap EntD.cells), Res.vec 50 5 r1_ es2_.length (es2_.flatMap EntD.cells), Res.star (es2_.map EntD.dres), Res.vec 5 1 r3_ (if (nth es2_ 0).ok then (nth es2_ 0).enc else []).length ((if (nth es2_ 0).ok then (nth es2_ 0).enc else []).map vb), Res.vec 3 1 a4_ c.vs.length (c.vs.flatMap I1), Res.vec 3 1 b5_ c.ls.length (c.ls.flatMap I1), Res.vec 5 1 r6_ (if ({ c with vv := a4_, lv := b5_ } : ConfD).ok then ({ c with vv := a4_, lv := b5_ } : ConfD).enc else []).length ((if ({ c with vv := a4_, lv := b5_ } : ConfD).ok then ({ c with vv := a4_, lv := b5_ } : ConfD).enc else []).map vb), Res.vec 3 1 a7_ s.conf.vs.length (s.conf.vs.flatMap I1), Res.vec 3 1 b8_ s.conf.ls.length (s.conf.ls.flatMap I1), Res.vec 5 1 c9_ s.data.length (s.data.map vb), Res.vec 5 1 r10_ (if ({ s with conf := ({ vv := a7_, vs := s.conf.vs, lv := b8_, ls := s.conf.ls } : ConfD), dv := c9_ } : ShtD).a.ok then ({ s with conf := ({ vv := a7_, vs := s.conf.vs, lv := b8_, ls := s.conf.ls } : ConfD), dv := c9_ } : ShtD).a.enc else []).length ((if ({ s with conf := ({ vv := a7_, vs := s.conf.vs, lv := b8_, ls := s.conf.ls } : ConfD), dv := c9_ } : ShtD).a.ok then ({ s with conf := ({ vv := a7_, vs := s.conf.vs, lv := b8_, ls := s.conf.ls } : ConfD), dv := c9_ } : ShtD).a.enc else []).map vb), Res.vec 5 1 r11_ (if h.ok then h.enc else []).length ((if h.ok then h.enc else []).map vb), Res.vec 5 1 r12_ x.enc.length (x.enc.map vb), Res.vec 5 1 r13_ c.enc.length (c.enc.map vb), Res.vec 5 1 r14_ s.a.enc.length (s.a.enc.map vb), Res.vec 5 1 r15_ h.enc.length (h.enc.map vb)])) w1 (hw.frame0 hO)
  refine l_nil (fun w' hw => ?_)
  have hS := hw.sel [0, 1, 2, 3, 4, 5, 7, 8, 9, 10, 11, 12, 13, 14, 15] rfl (by decide)
  refine ⟨hS, ?_⟩
  refine h_one 35 (by kernel_rfl) rfl hw ?_
  refine l_on rfl rfl ?_
  refine l_call (by kernel_rfl) rfl rfl (fun w' hw => ?_)
  refine (fits_s r11_ (if h.ok then h.enc else []) (errOf h.ok) h.ok r15_ h.enc w' enc_fits.1 enc_fits.2 (hw.rdVec0 15 rfl) (hw.rdVec0 19 rfl)).mono ?_
  rintro _ w1 ⟨rfl, hO⟩
  refine (?_ : CL _ _ _ _ _ _ (Own w [] [Res.row b4 50 (EntD.cells x), Res.row b5 53 (ConfD.cells c), Res.row b6 55 (ShtD.cells s), Res.row b7 57 (HrdD.cells h), Res.vec 50 5 (.slice (some ⟨b19, 0, none⟩) 1 1) [x].length ([x].flatMap EntD.cells), Res.vec 50 5 r1_ es2_.length (es2_.flatMap EntD.cells), Res.star (es2_.map EntD.dres), Res.vec 5 1 r3_ (if (nth es2_ 0).ok then (nth es2_ 0).enc else []).length ((if (nth es2_ 0).ok then (nth es2_ 0).enc else []).map vb), Res.vec 3 1 a4_ c.vs.length (c.vs.flatMap I1), Res.vec 3 1 b5_ c.ls.length (c.ls.flatMap I1), Res.vec 5 1 r6_ (if ({ c with vv := a4_, lv := b5_ } : ConfD).ok then ({ c with vv := a4_, lv := b5_ } : ConfD).enc else []).length ((if ({ c with vv := a4_, lv := b5_ } : ConfD).ok then ({ c with vv := a4_, lv := b5_ } : ConfD).enc else []).map vb), Res.vec 3 1 a7_ s.conf.vs.length (s.conf.vs.flatMap I1), Res.vec 3 1 b8_ s.conf.ls.length (s.conf.ls.flatMap I1), Res.vec 5 1 c9_ s.data.length (s.data.map vb), Res.vec 5 1 r10_ (if ({ s with conf := ({ vv := a7_, vs := s.conf.vs, lv := b8_, ls := s.conf.ls } : ConfD), dv := c9_ } : ShtD).a.ok then ({ s with conf := ({ vv := a7_, vs := s.conf.vs, lv := b8_, ls := s.conf.ls } : ConfD), dv := c9_ } : ShtD).a.enc else []).length ((if ({ s with conf := ({ vv := a7_, vs := s.conf.vs, lv := b8_, ls := s.conf.ls } : ConfD), dv := c9_ } : ShtD).a.ok then ({ s with conf := ({ vv := a7_, vs := s.conf.vs, lv := b8_, ls := s.conf.ls } : ConfD), dv := c9_ } : ShtD).a.enc else []).map vb), Res.vec 5 1 r11_ (if h.ok then h.enc else []).length ((if h.ok then h.enc else []).map vb), Res.vec 5 1 r12_ x.enc.length (x.enc.map vb), Res.vec 5 1 r13_ c.enc.length (c.enc.map vb), Res.vec 5 1 r14_ s.a.enc.length (s.a.enc.map vb), Res.vec 5 1 r15_ h.enc.length (h.enc.map vb)])) w1 (hw.frame0 hO)
  refine l_nil (fun w' hw => ?_)
  have hS := hw.sel [0, 1, 2, 3, 4, 5, 7, 8, 9, 10, 11, 12, 13, 14, 15] rfl (by decide)
  refine ⟨hS, ?_⟩
  refine h_take 36 rfl (by kernel_rfl) (by kernel_rfl) (by kernel_rfl) (v_pickT rfl) rfl hS ?_
  refine h_take 37 rfl (by kernel_rfl) (by kernel_rfl) (by kernel_rfl) (v_as) rfl hS ?_
  refine h_done (by kernel_rfl) ?_
  refine (?_ : C _ _ _ _ _ _ _ (Own w [] [Res.row b4 50 (EntD.cells x), Res.row b5 53 (ConfD.cells c), Res.row b6 55 (ShtD.cells s), Res.row b7 57 (HrdD.cells h), Res.vec 50 5 (.slice (some ⟨b19, 0, none⟩) 1 1) [x].length ([x].flatMap EntD.cells), Res.vec 50 5 r1_ es2_.length (es2_.flatMap EntD.cells), Res.star (es2_.map EntD.dres), Res.vec 5 1 r3_ (if (nth es2_ 0).ok then (nth es2_ 0).enc else []).length ((if (nth es2_ 0).ok then (nth es2_ 0).enc else []).map vb), Res.vec 3 1 a4_ c.vs.length (c.vs.flatMap I1), Res.vec 3 1 b5_ c.ls.length (c.ls.flatMap I1), Res.vec 5 1 r6_ (if ({ c with vv := a4_, lv := b5_ } : ConfD).ok then ({ c with vv := a4_, lv := b5_ } : ConfD).enc else []).length ((if ({ c with vv := a4_, lv := b5_ } : ConfD).ok then ({ c with vv := a4_, lv := b5_ } : ConfD).enc else []).map vb), Res.vec 3 1 a7_ s.conf.vs.length (s.conf.vs.flatMap I1), Res.vec 3 1 b8_ s.conf.ls.length (s.conf.ls.flatMap I1), Res.vec 5 1 c9_ s.data.length (s.data.map vb), Res.vec 5 1 r10_ (if ({ s with conf := ({ vv := a7_, vs := s.conf.vs, lv := b8_, ls := s.conf.ls } : ConfD), dv := c9_ } : ShtD).a.ok then ({ s with conf := ({ vv := a7_, vs := s.conf.vs, lv := b8_, ls := s.conf.ls } : ConfD), dv := c9_ } : ShtD).a.enc else []).length ((if ({ s with conf := ({ vv := a7_, vs := s.conf.vs, lv := b8_, ls := s.conf.ls } : ConfD), dv := c9_ } : ShtD).a.ok then ({ s with conf := ({ vv := a7_, vs := s.conf.vs, lv := b8_, ls := s.conf.ls } : ConfD), dv := c9_ } : ShtD).a.enc else []).map vb), Res.vec 5 1 r11_ (if h.ok then h.enc else []).length ((if h.ok then h.enc else []).map vb), Res.vec 5 1 r12_ x.enc.length (x.enc.map vb), Res.vec 5 1 r13_ c.enc.length (c.enc.map vb), Res.vec 5 1 r14_ s.a.enc.length (s.a.enc.map vb), Res.vec 5 1 r15_ h.enc.length (h.enc.map vb)])) _ hw
  exact c_ret (ret1 (v := .bool true) rfl rfl (fun w' hw => ⟨rfl, hw.drop⟩))
end Go.Proofs.Ytlkoekhjegaimaa
