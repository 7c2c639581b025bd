/-
  ENTRIES, SNAPSHOTS, TERMS AND VOTES OF BYTES: the program's and the reference's.
-/
import Derived.Test.YtlkoekhjegaimaaEnc2
set_option linter.unusedVariables false
set_option maxRecDepth 10000
namespace Go.Proofs.Ytlkoekhjegaimaa
open Go Go.Sc Go.Proofs

/-- 64 bits as a whole number. -/
def toI (n : Nat) : Int := if n ≤ 9223372036854775807 then n else (n : Int) - 18446744073709551616
theorem wrap_toI {n : Nat} (h : n < 18446744073709551616) : IntKind.i64.wrap (n : Int) = toI n := by
  rw [wi64_u (by omega)]; unfold toI; split <;> split <;> omega
theorem toI_u64 {a : Int} (h : isI a) : toI (u64 a) = a := by unfold isI at h; unfold toI u64; split <;> omega
theorem u64_toI {n : Nat} (h : n < 18446744073709551616) : u64 (toI n) = n := by unfold toI u64; split <;> omega
def pEnt : List UInt8 → Nat → Option (EntA × Nat) := pBind pNum fun i => pBind pNum fun t => pBind (pInt 3) fun k => pBind pNum fun d => pBind pBytes fun b => pPure ⟨i, t, k, toI d, b⟩
instance : DecidablePred EntA.ok := fun x => inferInstance
def decEnt (b : List UInt8) : Option EntA := whole pEnt EntA.ok b
def pSht : List UInt8 → Nat → Option (ShtA × Nat) := pBind pNum fun i => pBind pNum fun t => pBind pConf fun c => pBind pBytes fun b => pPure ⟨i, t, c, b⟩
instance : DecidablePred ShtA.ok := fun x => inferInstance
def decSht (b : List UInt8) : Option ShtA := whole pSht ShtA.ok b
def pHrd : List UInt8 → Nat → Option (HrdD × Nat) := pBind pNum fun t => pBind (pInt 16) fun v => pPure ⟨t, v⟩
instance : DecidablePred HrdD.ok := fun x => inferInstance
def decHrd (b : List UInt8) : Option HrdD := whole pHrd HrdD.ok b
theorem RdS.int {most : Nat} {b : List UInt8} {a a1 n : Nat} {bad bad1 : Bool} (h : RdS (pUpto most) b a bad n a1 bad1) : RdS (pInt most) b a bad (n : Int) a1 bad1 := RdS.map (fun n : Nat => (n : Int)) h

theorem entRead_s (o : Nat) (v : Value) (b : List UInt8) (a : Nat) (bad : Bool) (w : World) (hl : LenOk b.length) (ha : a ≤ b.length) (hb : Rd w (fps [Res.row o 191 [v, .int .i64 (a : Nat), .bool bad]]) (Res.sl v b.length (b.map vb))) (hin : Own w (fps [Res.row o 191 [v, .int .i64 (a : Nat), .bool bad]]) [Res.row o 191 [v, .int .i64 (a : Nat), .bool bad]] w) : Rets Try.prog 121 #[.pointer (some ⟨o, 0, none⟩)] w fun u_ w' => ∃ (i : Nat) (t : Nat) (k : Nat) (d : Int) (dv : Value) (dl : List UInt8) (a' : Nat) (bad' : Bool), u_ = .agg #[.int .u64 (i : Nat), .int .u64 (t : Nat), .int .i64 (k : Nat), .int .i64 d, dv] ∧ RdS pEnt b a bad (⟨i, t, (k : Int), d, dl⟩ : EntA) a' bad' ∧ (i < 18446744073709551616 ∧ t < 18446744073709551616) ∧ dl.length ≤ b.length ∧ Own w (fps [Res.row o 191 [v, .int .i64 (a : Nat), .bool bad]]) [Res.row o 191 [v, .int .i64 (a' : Nat), .bool bad'], Res.vec 5 1 dv dl.length (dl.map vb)] w' := by
  refine fn_enter (args := [.pointer (some ⟨o, 0, none⟩)]) Try.func121 rfl Try.ntmps121 rfl (show Own w (fps [Res.row o 191 [v, .int .i64 (a : Nat), .bool bad]]) [Res.row o 191 [v, .int .i64 (a : Nat), .bool bad]] w from hin) ?_
  refine c_reg ?_
  refine l_new (v := .agg #[.int .u64 (0 : Nat), .int .u64 (0 : Nat), .int .i64 0, .int .i64 0, .slice none 0 0]) (by kernel_rfl) rfl (fun b2 => ?_)
  refine l_end ?_
  refine c_reg ?_
  refine l_mv rfl ?_
  refine l_call (by kernel_rfl) rfl rfl (fun w' hw => ?_)
  refine (inNum_s o v b a bad w' (by first | assumption | omega | (simp <;> omega) | (constructor <;> (first | omega | (simp only [LenOk]; omega) | (simp <;> omega)))) (by first | assumption | omega | (simp <;> omega) | (constructor <;> (first | omega | (simp only [LenOk]; omega) | (simp <;> omega)))) (hw.rdTo hb [0] rfl) (hw.give [0] rfl (by decide))).mono ?_
  rintro _ w1 ⟨n1_, a'2_, bad'3_, rfl, hf1_1, hf1_1_1, hO⟩
  have hq1 := hf1_1.le
  refine (?_ : CL _ _ _ _ _ _ (Own w (fps [Res.row o 191 [v, .int .i64 (a : Nat), .bool bad]]) [Res.row b2 50 [.int .u64 (0 : Nat), .int .u64 (0 : Nat), .int .i64 0, .int .i64 0, .slice none 0 0], Res.row o 191 [v, .int .i64 (a'2_ : Nat), .bool bad'3_]])) w1 (hw.frameL [0] rfl hO)
  refine l_mv rfl ?_
  refine l_call (by kernel_rfl) rfl rfl (fun w' hw => ?_)
  refine (inNum_s o v b a'2_ bad'3_ w' (by first | assumption | omega | (simp <;> omega) | (constructor <;> (first | omega | (simp only [LenOk]; omega) | (simp <;> omega)))) (by first | assumption | omega | (simp <;> omega) | (constructor <;> (first | omega | (simp only [LenOk]; omega) | (simp <;> omega)))) (hw.rdTo hb [1] rfl) (hw.give [1] rfl (by decide))).mono ?_
  rintro _ w1 ⟨n4_, a'5_, bad'6_, rfl, hf1_3, hf1_3_1, hO⟩
  have hq2 := hf1_3.le
  refine (?_ : CL _ _ _ _ _ _ (Own w (fps [Res.row o 191 [v, .int .i64 (a : Nat), .bool bad]]) [Res.row b2 50 [.int .u64 (0 : Nat), .int .u64 (0 : Nat), .int .i64 0, .int .i64 0, .slice none 0 0], Res.row o 191 [v, .int .i64 (a'5_ : Nat), .bool bad'6_]])) w1 (hw.frameL [1] rfl hO)
  refine l_mv rfl ?_
  refine l_call (by kernel_rfl) rfl rfl (fun w' hw => ?_)
  refine (inUpto_s o v b a'5_ bad'6_ 3 w' (by first | assumption | omega | (simp <;> omega) | (constructor <;> (first | omega | (simp only [LenOk]; omega) | (simp <;> omega)))) (by first | assumption | omega | (simp <;> omega) | (constructor <;> (first | omega | (simp only [LenOk]; omega) | (simp <;> omega)))) (by first | assumption | omega | (simp <;> omega) | (constructor <;> (first | omega | (simp only [LenOk]; omega) | (simp <;> omega)))) (hw.rdTo hb [1] rfl) (hw.give [1] rfl (by decide))).mono ?_
  rintro _ w1 ⟨n7_, a'8_, bad'9_, rfl, hf1_5, hf1_5_1, hO⟩
  have hq3 := hf1_5.le
  refine (?_ : CL _ _ _ _ _ _ (Own w (fps [Res.row o 191 [v, .int .i64 (a : Nat), .bool bad]]) [Res.row b2 50 [.int .u64 (0 : Nat), .int .u64 (0 : Nat), .int .i64 0, .int .i64 0, .slice none 0 0], Res.row o 191 [v, .int .i64 (a'8_ : Nat), .bool bad'9_]])) w1 (hw.frameL [1] rfl hO)
  refine l_mv rfl ?_
  refine l_call (by kernel_rfl) rfl rfl (fun w' hw => ?_)
  refine (inNum_s o v b a'8_ bad'9_ w' (by first | assumption | omega | (simp <;> omega) | (constructor <;> (first | omega | (simp only [LenOk]; omega) | (simp <;> omega)))) (by first | assumption | omega | (simp <;> omega) | (constructor <;> (first | omega | (simp only [LenOk]; omega) | (simp <;> omega)))) (hw.rdTo hb [1] rfl) (hw.give [1] rfl (by decide))).mono ?_
  rintro _ w1 ⟨n10_, a'11_, bad'12_, rfl, hf1_7, hf1_7_1, hO⟩
  have hq4 := hf1_7.le
  refine (?_ : CL _ _ _ _ _ _ (Own w (fps [Res.row o 191 [v, .int .i64 (a : Nat), .bool bad]]) [Res.row b2 50 [.int .u64 (0 : Nat), .int .u64 (0 : Nat), .int .i64 0, .int .i64 0, .slice none 0 0], Res.row o 191 [v, .int .i64 (a'11_ : Nat), .bool bad'12_]])) w1 (hw.frameL [1] rfl hO)
  refine l_cvt (c := toI n10_) (by kernel_rfl) rfl (wrap_toI hf1_7_1) rfl ?_ (by kernel_rfl)
  refine l_mv rfl ?_
  refine l_call (by kernel_rfl) rfl rfl (fun w' hw => ?_)
  refine (inData_s o v b a'11_ bad'12_ w' (by first | assumption | omega | (simp <;> omega) | (constructor <;> (first | omega | (simp only [LenOk]; omega) | (simp <;> omega)))) (by first | assumption | omega | (simp <;> omega) | (constructor <;> (first | omega | (simp only [LenOk]; omega) | (simp <;> omega)))) (hw.rdTo hb [1] rfl) (hw.give [1] rfl (by decide))).mono ?_
  rintro r13_ w1 ⟨_, d14_, a'15_, bad'16_, rfl, hf1_10, hf1_10_1, hO⟩
  refine (?_ : CL _ _ _ _ _ _ (Own w (fps [Res.row o 191 [v, .int .i64 (a : Nat), .bool bad]]) [Res.row b2 50 [.int .u64 (0 : Nat), .int .u64 (0 : Nat), .int .i64 0, .int .i64 0, .slice none 0 0], Res.row o 191 [v, .int .i64 (a'15_ : Nat), .bool bad'16_], Res.vec 5 1 r13_ d14_.length (d14_.map vb)])) w1 (hw.frameL [1] rfl hO)
  refine l_haveO (fun w' hw => Own.cell1Vec (i := 2) rfl hw) (fun hc1_ => ?_)
  refine l_bldc (cs := [.int .u64 (n1_ : Nat), .int .u64 (n4_ : Nat), .int .i64 (n7_ : Nat), .int .i64 (toI n10_), r13_]) (z := [.int .u64 (0 : Nat), .int .u64 (0 : Nat), .int .i64 0, .int .i64 0, .slice none 0 0]) (pl := [(0, 1), (1, 1), (2, 1), (3, 1), (4, 1)]) (by kernel_rfl) ⟨rfl, rfl, rfl, rfl, hc1_, trivial⟩ rfl rfl ?_
  refine l_stN (cs := [.int .u64 (0 : Nat), .int .u64 (0 : Nat), .int .i64 0, .int .i64 0, .slice none 0 0]) (vs := [.int .u64 (n1_ : Nat), .int .u64 (n4_ : Nat), .int .i64 (n7_ : Nat), .int .i64 (toI n10_), r13_]) 0 rfl rfl rfl (by kernel_rfl) (allc_cons rfl (allc_cons rfl (allc_cons rfl (allc_cons rfl (allc_cons hc1_ allc_nil))))) (Nat.le_of_ble_eq_true rfl) ?_
  refine l_end ?_
  exact c_ret (retc (cs := [.int .u64 (n1_ : Nat), .int .u64 (n4_ : Nat), .int .i64 (n7_ : Nat), .int .i64 (toI n10_), r13_]) rfl rfl (by kernel_rfl) (Own.rowCells (i := 0) rfl) (fun w' hw => ⟨n1_, n4_, n7_, toI n10_, r13_, d14_, a'15_, bad'16_, rfl, hf1_1.bind (hf1_3.bind (RdS.bind hf1_5.int (hf1_7.bind (hf1_10.bind (RdS.pure _ hf1_10.le))))), ⟨hf1_1_1, hf1_3_1⟩, hf1_10_1, hw.sel [1, 2] rfl (by decide)⟩))
theorem entValue_s (v : Value) (b : List UInt8) (w : World) (hl : b.length ≤ 1000000000) (hb : Rd w [] (Res.sl v b.length (b.map vb))) : Rets Try.prog 82 #[.agg #[.func (.func 119) #[] #[], .func (.func 120) #[] #[], .func (.func 121) #[] #[]], v] w fun u_ w' => ∃ (i : Nat) (t : Nat) (k : Int) (d : Int) (dv : Value) (dl : List UInt8) (e : Int), u_ = .tuple #[.agg #[.int .u64 (i : Nat), .int .u64 (t : Nat), .int .i64 k, .int .i64 d, dv], .int .i64 e] ∧ ValPost (decEnt b) (⟨i, t, k, d, dl⟩ : EntA) ⟨0, 0, 0, 0, []⟩ e ∧ (i < 18446744073709551616 ∧ t < 18446744073709551616) ∧ dl.length ≤ b.length ∧ Own w [] [Res.vec 5 1 dv dl.length (dl.map vb)] w' := by
  refine fn_enter (args := [.agg #[.func (.func 119) #[] #[], .func (.func 120) #[] #[], .func (.func 121) #[] #[]], v]) Try.func82 rfl Try.ntmps82 rfl (Own.start w) ?_
  refine c_reg ?_
  refine l_box rfl rfl (fun b2 => ?_)
  refine l_new (v := .agg #[.int .u64 (0 : Nat), .int .u64 (0 : Nat), .int .i64 0, .int .i64 0, .slice none 0 0]) (by kernel_rfl) rfl (fun b4 => ?_)
  refine l_as rfl ?_
  refine l_end ?_
  refine c_reg ?_
  refine l_mv rfl ?_
  refine l_bldc (cs := [v, .int .i64 0, .bool false]) (z := [.slice none 0 0, .int .i64 0, .bool false]) (pl := [(0, 1), (1, 1), (2, 1)]) (by kernel_rfl) ⟨(Sl.cell1 (Rd.φ hb)), trivial⟩ rfl rfl ?_
  refine l_box rfl rfl (fun b10 => ?_)
  refine l_as rfl ?_
  refine l_end ?_
  refine c_reg ?_
  refine l_fld (o := 2) rfl (by kernel_rfl) rfl ?_
  refine l_ldo 0 (v := .func (.func 121) #[] #[]) rfl rfl rfl (by kernel_rfl) rfl ?_
  refine l_mv rfl ?_
  refine l_callv (fst := []) (cap := []) rfl (by kernel_rfl) rfl rfl (fun w' hw => ?_)
  refine (entRead_s b10 v b 0 false w' (by first | assumption | omega | (simp <;> omega) | (constructor <;> (first | omega | (simp only [LenOk]; omega) | (simp <;> omega)))) (by first | assumption | omega | (simp <;> omega) | (constructor <;> (first | omega | (simp only [LenOk]; omega) | (simp <;> omega)))) (hw.rdTo hb [2] rfl) (hw.give [2] rfl (by decide))).mono ?_
  rintro _ w1 ⟨i1_, t2_, k3_, d4_, dv5_, dl6_, a'7_, bad'8_, rfl, hf2_3, hf2_3_1, hf2_3_2, hO⟩
  refine (?_ : CL _ _ _ _ _ _ (Own w [] [Res.row b2 139 [.func (.func 119) #[] #[], .func (.func 120) #[] #[], .func (.func 121) #[] #[]], Res.row b4 50 [.int .u64 (0 : Nat), .int .u64 (0 : Nat), .int .i64 0, .int .i64 0, .slice none 0 0], Res.row b10 191 [v, .int .i64 (a'7_ : Nat), .bool bad'8_], Res.vec 5 1 dv5_ dl6_.length (dl6_.map vb)])) w1 (hw.frameL [2] rfl hO)
  refine l_haveO (fun w' hw => Own.cell1Vec (i := 3) rfl hw) (fun hc1_ => ?_)
  refine l_stN (cs := [.int .u64 (0 : Nat), .int .u64 (0 : Nat), .int .i64 0, .int .i64 0, .slice none 0 0]) (vs := [.int .u64 (i1_ : Nat), .int .u64 (t2_ : Nat), .int .i64 (k3_ : Nat), .int .i64 d4_, dv5_]) 1 rfl rfl rfl (by kernel_rfl) (allc_cons rfl (allc_cons rfl (allc_cons rfl (allc_cons rfl (allc_cons hc1_ allc_nil))))) (Nat.le_of_ble_eq_true rfl) ?_
  refine l_end ?_
  refine c_seq ?_
  refine c_reg ?_
  refine l_mv rfl ?_
  refine l_nck rfl rfl ?_
  refine l_fld (o := 2) rfl (by kernel_rfl) rfl ?_
  refine l_ldo 2 (v := .bool bad'8_) rfl rfl rfl (by kernel_rfl) rfl ?_
  refine l_mv rfl ?_
  refine l_bor (q := bad'8_ = true) 7 4 [26, 25, 24, 23, 22, 21, 20] (((a'7_ : Nat) : Int) ≠ ((b.length : Nat) : Int)) rfl rfl (bool_dec _) rfl rfl rfl trivial rfl (fun h3_4 => ?_) (fun g3_12 => ?_)
  ·
    refine l_on rfl (bF h3_4) ?_
    refine l_mv rfl ?_
    refine l_on rfl (bF h3_4) ?_
    refine l_nck rfl rfl ?_
    refine l_on rfl (bF h3_4) ?_
    refine l_fld (o := 1) rfl (by kernel_rfl) rfl ?_
    refine l_on rfl (bF h3_4) ?_
    refine l_ldo 2 (v := .int .i64 (a'7_ : Nat)) rfl rfl rfl (by kernel_rfl) rfl ?_
    refine l_on rfl (bF h3_4) ?_
    refine l_mv rfl ?_
    refine l_on rfl (bF h3_4) ?_
    refine l_lenS (len := b.length) (cs := (b.map vb)) (by kernel_rfl) rfl (fun w' hw' => Own.rd hb hw') rfl ?_
    refine l_on rfl (bF h3_4) ?_
    refine l_ne rfl rfl rfl ?_
    exact l_nil (fun w' hw => ⟨(by repeat (first | exact Out.refl _ _ | refine Out.upd rfl ?_ | refine Out.msk rfl ?_)), rfl, hw⟩)
  refine l_mv rfl ?_
  refine l_bor (q := (bad'8_ = true) ∨ (((a'7_ : Nat) : Int) ≠ ((b.length : Nat) : Int))) 5 13 [33, 32, 31, 30, 29] (¬ (({ index := i1_, term := t2_, kind := ((k3_ : Nat) : Int), delta := d4_, dv := dv5_, data := dl6_ } : EntD).ok)) rfl rfl rfl rfl rfl rfl trivial rfl (fun h3_13 => ?_) (fun g3_19 => ?_)
  ·
    refine l_on rfl (gF h3_13) ?_
    refine l_fld (o := 0) rfl (by kernel_rfl) rfl ?_
    refine l_on rfl (gF h3_13) ?_
    refine l_ldo 0 (v := .func (.func 119) #[] #[]) rfl rfl rfl (by kernel_rfl) rfl ?_
    refine l_on rfl (gF h3_13) ?_
    refine l_ldr (cs := [.int .u64 (i1_ : Nat), .int .u64 (t2_ : Nat), .int .i64 (k3_ : Nat), .int .i64 d4_, dv5_]) 1 rfl rfl (by kernel_rfl) rfl ?_
    refine l_on rfl (gF h3_13) ?_
    refine l_callv (fst := []) (cap := []) rfl (by kernel_rfl) rfl rfl (fun w' hw => ?_)
    refine (entSound_s ({ index := i1_, term := t2_, kind := ((k3_ : Nat) : Int), delta := d4_, dv := dv5_, data := dl6_ } : EntD) w' ⟨hf2_3_1.1, hf2_3_1.2, by have := hf2_3_2; dsimp only; omega⟩ ⟨(hw.rdVec0 3 rfl)⟩).mono ?_
    rintro _ w1 ⟨rfl, hO⟩
    refine (?_ : CL _ _ _ _ _ _ (Own w [] [Res.row b2 139 [.func (.func 119) #[] #[], .func (.func 120) #[] #[], .func (.func 121) #[] #[]], Res.row b4 50 [.int .u64 (i1_ : Nat), .int .u64 (t2_ : Nat), .int .i64 (k3_ : Nat), .int .i64 d4_, dv5_], Res.row b10 191 [v, .int .i64 (a'7_ : Nat), .bool bad'8_], Res.vec 5 1 dv5_ dl6_.length (dl6_.map vb)])) w1 (hw.frame0 hO)
    refine l_on rfl (gF h3_13) ?_
    refine l_notp (q := ({ index := i1_, term := t2_, kind := ((k3_ : Nat) : Int), delta := d4_, dv := dv5_, data := dl6_ } : EntD).ok) rfl rfl ?_
    exact l_nil (fun w' hw => ⟨(by repeat (first | exact Out.refl _ _ | refine Out.upd rfl ?_ | refine Out.msk rfl ?_)), rfl, hw⟩)
  refine l_end ?_
  refine c_dec rfl (fun c1 => ?_) (fun c1 => ?_)
  ·
    refine c_reg ?_
    refine l_new (v := .agg #[.int .u64 (0 : Nat), .int .u64 (0 : Nat), .int .i64 0, .int .i64 0, .slice none 0 0]) (by kernel_rfl) rfl (fun b7 => ?_)
    refine l_end ?_
    refine c_reg ?_
    refine l_ldr (cs := [.int .u64 (0 : Nat), .int .u64 (0 : Nat), .int .i64 0, .int .i64 0, .slice none 0 0]) 4 rfl rfl (by kernel_rfl) rfl ?_
    refine l_stN (cs := [.int .u64 (i1_ : Nat), .int .u64 (t2_ : Nat), .int .i64 (k3_ : Nat), .int .i64 d4_, dv5_]) (vs := [.int .u64 (0 : Nat), .int .u64 (0 : Nat), .int .i64 0, .int .i64 0, .slice none 0 0]) 1 rfl rfl rfl (by kernel_rfl) (allc_cons rfl (allc_cons rfl (allc_cons rfl (allc_cons rfl (allc_cons rfl allc_nil))))) (Nat.le_of_ble_eq_true rfl) ?_
    refine l_as rfl ?_
    refine l_end ?_
    exact c_ret (retc2 (cs := [.int .u64 (0 : Nat), .int .u64 (0 : Nat), .int .i64 0, .int .i64 0, .slice none 0 0]) (v := .int .i64 4) rfl rfl rfl (by kernel_rfl) (Own.rowCells (i := 1) rfl) (fun w' hw => ⟨0, 0, 0, 0, .slice none 0 0, [], 4, rfl, .inr ⟨rfl, whole_no hf2_3 (fun h1 h2 h3 => c1.elim (fun h => h.elim (fun h => (by rw [h1] at h; cases h)) (fun h => h (by omega))) (fun h => h h3)), rfl⟩, ⟨by omega, by omega⟩, (by simp), own_nil hw.drop 5 1⟩))
  ·
    refine c_skipC ?_
    refine c_reg ?_
    refine l_ldr (cs := [.int .u64 (i1_ : Nat), .int .u64 (t2_ : Nat), .int .i64 (k3_ : Nat), .int .i64 d4_, dv5_]) 1 rfl rfl (by kernel_rfl) rfl ?_
    refine l_stN (cs := [.int .u64 (i1_ : Nat), .int .u64 (t2_ : Nat), .int .i64 (k3_ : Nat), .int .i64 d4_, dv5_]) (vs := [.int .u64 (i1_ : Nat), .int .u64 (t2_ : Nat), .int .i64 (k3_ : Nat), .int .i64 d4_, dv5_]) 1 rfl rfl rfl (by kernel_rfl) (allc_cons rfl (allc_cons rfl (allc_cons rfl (allc_cons rfl (allc_cons hc1_ allc_nil))))) (Nat.le_of_ble_eq_true rfl) ?_
    refine l_as rfl ?_
    refine l_end ?_
    exact c_ret (retc2 (cs := [.int .u64 (i1_ : Nat), .int .u64 (t2_ : Nat), .int .i64 (k3_ : Nat), .int .i64 d4_, dv5_]) (v := .int .i64 0) rfl rfl rfl (by kernel_rfl) (Own.rowCells (i := 1) rfl) (fun w' hw => ⟨i1_, t2_, ((k3_ : Nat) : Int), d4_, dv5_, dl6_, 0, rfl, .inl ⟨rfl, whole_yes hf2_3 (by cases h : bad'8_; rfl; exact absurd (.inl (.inl h)) c1) (by have : ¬ (a'7_ : Int) ≠ b.length := fun h => c1 (.inl (.inr h)); omega) (Decidable.not_not.1 fun h => c1 (.inr h))⟩, hf2_3_1, hf2_3_2, hw.sel [3] rfl (by decide)⟩))
theorem toEnt_s (v : Value) (b : List UInt8) (w : World) (hl : b.length ≤ 1000000000) (hb : Rd w [] (Res.sl v b.length (b.map vb))) : Rets Try.prog 39 #[v] w fun u_ w' => ∃ (i : Nat) (t : Nat) (k : Int) (d : Int) (dv : Value) (dl : List UInt8) (e : Int), u_ = .tuple #[.agg #[.int .u64 (i : Nat), .int .u64 (t : Nat), .int .i64 k, .int .i64 d, dv], .int .i64 e] ∧ ValPost (decEnt b) (⟨i, t, k, d, dl⟩ : EntA) ⟨0, 0, 0, 0, []⟩ e ∧ (i < 18446744073709551616 ∧ t < 18446744073709551616) ∧ dl.length ≤ b.length ∧ Own w [] [Res.vec 5 1 dv dl.length (dl.map vb)] w' := by
  refine fn_enter (args := [v]) Try.func39 rfl Try.ntmps39 rfl (Own.start w) ?_
  refine c_reg ?_
  refine l_new (v := .agg #[.int .u64 (0 : Nat), .int .u64 (0 : Nat), .int .i64 0, .int .i64 0, .slice none 0 0]) (by kernel_rfl) rfl (fun b2 => ?_)
  refine l_as rfl ?_
  refine l_end ?_
  refine c_reg ?_
  refine l_call (by kernel_rfl) rfl rfl (fun w' hw => ?_)
  refine (entries_s w').mono ?_
  rintro _ w1 ⟨rfl, hO⟩
  refine (?_ : CL _ _ _ _ _ _ (Own w [] [Res.row b2 50 [.int .u64 (0 : Nat), .int .u64 (0 : Nat), .int .i64 0, .int .i64 0, .slice none 0 0]])) w1 (hw.frame0 hO)
  refine l_mv rfl ?_
  refine l_call (by kernel_rfl) rfl rfl (fun w' hw => ?_)
  refine (entValue_s v b w' (by first | assumption | omega | (simp <;> omega) | (constructor <;> (first | omega | (simp only [LenOk]; omega) | (simp <;> omega)))) (hw.rd0 hb)).mono ?_
  rintro _ w1 ⟨i1_, t2_, k3_, d4_, dv5_, dl6_, e7_, rfl, hf1_2, hf1_2_1, hf1_2_2, hO⟩
  refine (?_ : CL _ _ _ _ _ _ (Own w [] [Res.row b2 50 [.int .u64 (0 : Nat), .int .u64 (0 : Nat), .int .i64 0, .int .i64 0, .slice none 0 0], Res.vec 5 1 dv5_ dl6_.length (dl6_.map vb)])) w1 (hw.frame0 hO)
  refine l_ext (vs := [.agg #[.int .u64 (i1_ : Nat), .int .u64 (t2_ : Nat), .int .i64 k3_, .int .i64 d4_, dv5_], .int .i64 e7_]) rfl rfl rfl ?_
  refine l_ext (vs := [.agg #[.int .u64 (i1_ : Nat), .int .u64 (t2_ : Nat), .int .i64 k3_, .int .i64 d4_, dv5_], .int .i64 e7_]) rfl rfl rfl ?_
  refine l_haveO (fun w' hw => Own.cell1Vec (i := 1) rfl hw) (fun hc1_ => ?_)
  refine l_stN (cs := [.int .u64 (0 : Nat), .int .u64 (0 : Nat), .int .i64 0, .int .i64 0, .slice none 0 0]) (vs := [.int .u64 (i1_ : Nat), .int .u64 (t2_ : Nat), .int .i64 k3_, .int .i64 d4_, dv5_]) 0 rfl rfl rfl (by kernel_rfl) (allc_cons rfl (allc_cons rfl (allc_cons rfl (allc_cons rfl (allc_cons hc1_ allc_nil))))) (Nat.le_of_ble_eq_true rfl) ?_
  refine l_as rfl ?_
  refine l_end ?_
  exact c_ret (retc2 (cs := [.int .u64 (i1_ : Nat), .int .u64 (t2_ : Nat), .int .i64 k3_, .int .i64 d4_, dv5_]) (v := .int .i64 e7_) rfl rfl rfl (by kernel_rfl) (Own.rowCells (i := 0) rfl) (fun w' hw => ⟨i1_, t2_, k3_, d4_, dv5_, dl6_, e7_, rfl, hf1_2, hf1_2_1, hf1_2_2, hw.sel [1] rfl (by decide)⟩))
theorem rentRead_s (o : Nat) (v : Value) (b : List UInt8) (a : Nat) (bad : Bool) (w : World) (hl : LenOk b.length) (ha : a ≤ b.length) (hb : Rd w (fps [Res.row o 162 [v, .int .i64 (a : Nat), .bool bad]]) (Res.sl v b.length (b.map vb))) (hin : Own w (fps [Res.row o 162 [v, .int .i64 (a : Nat), .bool bad]]) [Res.row o 162 [v, .int .i64 (a : Nat), .bool bad]] w) : Rets Try.prog 83 #[.pointer (some ⟨o, 0, none⟩)] w fun u_ w' => ∃ (i : Nat) (t : Nat) (k : Nat) (d : Int) (dv : Value) (dl : List UInt8) (a' : Nat) (bad' : Bool), u_ = .agg #[.int .u64 (i : Nat), .int .u64 (t : Nat), .int .i64 (k : Nat), .int .i64 d, dv] ∧ RdS pEnt b a bad (⟨i, t, (k : Int), d, dl⟩ : EntA) a' bad' ∧ (i < 18446744073709551616 ∧ t < 18446744073709551616) ∧ dl.length ≤ b.length ∧ Own w (fps [Res.row o 162 [v, .int .i64 (a : Nat), .bool bad]]) [Res.row o 162 [v, .int .i64 (a' : Nat), .bool bad'], Res.vec 5 1 dv dl.length (dl.map vb)] w' := by
  refine fn_enter (args := [.pointer (some ⟨o, 0, none⟩)]) Try.func83 rfl Try.ntmps83 rfl (show Own w (fps [Res.row o 162 [v, .int .i64 (a : Nat), .bool bad]]) [Res.row o 162 [v, .int .i64 (a : Nat), .bool bad]] w from hin) ?_
  refine c_reg ?_
  refine l_new (v := .agg #[.int .u64 (0 : Nat), .int .u64 (0 : Nat), .int .i64 0, .int .i64 0, .slice none 0 0]) (by kernel_rfl) rfl (fun b2 => ?_)
  refine l_end ?_
  refine c_reg ?_
  refine l_bld (cs := [.int .u64 (0 : Nat), .int .u64 (0 : Nat), .int .i64 0, .int .i64 0, .slice none 0 0]) (z := [.int .u64 (0 : Nat), .int .u64 (0 : Nat), .int .i64 0, .int .i64 0, .slice none 0 0]) (pl := [(0, 1), (1, 1), (2, 1), (3, 1), (4, 1)]) (by kernel_rfl) rfl rfl ?_
  refine l_new (v := .agg #[.int .u64 (0 : Nat), .int .u64 (0 : Nat), .int .i64 0, .int .i64 0, .slice none 0 0]) (by kernel_rfl) rfl (fun b3 => ?_)
  refine l_stN (cs := [.int .u64 (0 : Nat), .int .u64 (0 : Nat), .int .i64 0, .int .i64 0, .slice none 0 0]) (vs := [.int .u64 (0 : Nat), .int .u64 (0 : Nat), .int .i64 0, .int .i64 0, .slice none 0 0]) 2 rfl rfl rfl (by kernel_rfl) (allc_cons rfl (allc_cons rfl (allc_cons rfl (allc_cons rfl (allc_cons rfl allc_nil))))) (Nat.le_of_ble_eq_true rfl) ?_
  refine l_end ?_
  refine c_reg ?_
  refine l_mv rfl ?_
  refine l_call (by kernel_rfl) rfl rfl (fun w' hw => ?_)
  refine (rinNum_s o v b a bad w' (by first | assumption | omega | (simp <;> omega) | (constructor <;> (first | omega | (simp only [LenOk]; omega) | (simp <;> omega)))) (by first | assumption | omega | (simp <;> omega) | (constructor <;> (first | omega | (simp only [LenOk]; omega) | (simp <;> omega)))) (hw.rdTo hb [0] rfl) (hw.give [0] rfl (by decide))).mono ?_
  rintro _ w1 ⟨n1_, a'2_, bad'3_, rfl, hf2_1, hf2_1_1, hO⟩
  have hq1 := hf2_1.le
  refine (?_ : CL _ _ _ _ _ _ (Own w (fps [Res.row o 162 [v, .int .i64 (a : Nat), .bool bad]]) [Res.row b2 50 [.int .u64 (0 : Nat), .int .u64 (0 : Nat), .int .i64 0, .int .i64 0, .slice none 0 0], Res.row b3 50 [.int .u64 (0 : Nat), .int .u64 (0 : Nat), .int .i64 0, .int .i64 0, .slice none 0 0], Res.row o 162 [v, .int .i64 (a'2_ : Nat), .bool bad'3_]])) w1 (hw.frameL [0] rfl hO)
  refine l_fld (o := 0) rfl (by kernel_rfl) rfl ?_
  refine l_st (cs := [.int .u64 (0 : Nat), .int .u64 (0 : Nat), .int .i64 0, .int .i64 0, .slice none 0 0]) 1 rfl rfl rfl (by kernel_rfl) rfl (Nat.le_of_ble_eq_true rfl) ?_
  refine l_end ?_
  refine c_reg ?_
  refine l_mv rfl ?_
  refine l_call (by kernel_rfl) rfl rfl (fun w' hw => ?_)
  refine (rinNum_s o v b a'2_ bad'3_ w' (by first | assumption | omega | (simp <;> omega) | (constructor <;> (first | omega | (simp only [LenOk]; omega) | (simp <;> omega)))) (by first | assumption | omega | (simp <;> omega) | (constructor <;> (first | omega | (simp only [LenOk]; omega) | (simp <;> omega)))) (hw.rdTo hb [2] rfl) (hw.give [2] rfl (by decide))).mono ?_
  rintro _ w1 ⟨n4_, a'5_, bad'6_, rfl, hf3_1, hf3_1_1, hO⟩
  have hq2 := hf3_1.le
  refine (?_ : CL _ _ _ _ _ _ (Own w (fps [Res.row o 162 [v, .int .i64 (a : Nat), .bool bad]]) [Res.row b2 50 [.int .u64 (0 : Nat), .int .u64 (0 : Nat), .int .i64 0, .int .i64 0, .slice none 0 0], Res.row b3 50 [.int .u64 (n1_ : Nat), .int .u64 (0 : Nat), .int .i64 0, .int .i64 0, .slice none 0 0], Res.row o 162 [v, .int .i64 (a'5_ : Nat), .bool bad'6_]])) w1 (hw.frameL [2] rfl hO)
  refine l_fld (o := 1) rfl (by kernel_rfl) rfl ?_
  refine l_st (cs := [.int .u64 (n1_ : Nat), .int .u64 (0 : Nat), .int .i64 0, .int .i64 0, .slice none 0 0]) 1 rfl rfl rfl (by kernel_rfl) rfl (Nat.le_of_ble_eq_true rfl) ?_
  refine l_end ?_
  refine c_reg ?_
  refine l_mv rfl ?_
  refine l_call (by kernel_rfl) rfl rfl (fun w' hw => ?_)
  refine (rinInt_s o v b a'5_ bad'6_ 3 w' (by first | assumption | omega | (simp <;> omega) | (constructor <;> (first | omega | (simp only [LenOk]; omega) | (simp <;> omega)))) (by first | assumption | omega | (simp <;> omega) | (constructor <;> (first | omega | (simp only [LenOk]; omega) | (simp <;> omega)))) (by first | assumption | omega | (simp <;> omega) | (constructor <;> (first | omega | (simp only [LenOk]; omega) | (simp <;> omega)))) (hw.rdTo hb [2] rfl) (hw.give [2] rfl (by decide))).mono ?_
  rintro _ w1 ⟨n7_, a'8_, bad'9_, rfl, hf4_1, hf4_1_1, hO⟩
  have hq3 := hf4_1.le
  refine (?_ : CL _ _ _ _ _ _ (Own w (fps [Res.row o 162 [v, .int .i64 (a : Nat), .bool bad]]) [Res.row b2 50 [.int .u64 (0 : Nat), .int .u64 (0 : Nat), .int .i64 0, .int .i64 0, .slice none 0 0], Res.row b3 50 [.int .u64 (n1_ : Nat), .int .u64 (n4_ : Nat), .int .i64 0, .int .i64 0, .slice none 0 0], Res.row o 162 [v, .int .i64 (a'8_ : Nat), .bool bad'9_]])) w1 (hw.frameL [2] rfl hO)
  refine l_fld (o := 2) rfl (by kernel_rfl) rfl ?_
  refine l_st (cs := [.int .u64 (n1_ : Nat), .int .u64 (n4_ : Nat), .int .i64 0, .int .i64 0, .slice none 0 0]) 1 rfl rfl rfl (by kernel_rfl) rfl (Nat.le_of_ble_eq_true rfl) ?_
  refine l_end ?_
  refine c_reg ?_
  refine l_mv rfl ?_
  refine l_call (by kernel_rfl) rfl rfl (fun w' hw => ?_)
  refine (rinNum_s o v b a'8_ bad'9_ w' (by first | assumption | omega | (simp <;> omega) | (constructor <;> (first | omega | (simp only [LenOk]; omega) | (simp <;> omega)))) (by first | assumption | omega | (simp <;> omega) | (constructor <;> (first | omega | (simp only [LenOk]; omega) | (simp <;> omega)))) (hw.rdTo hb [2] rfl) (hw.give [2] rfl (by decide))).mono ?_
  rintro _ w1 ⟨n10_, a'11_, bad'12_, rfl, hf5_1, hf5_1_1, hO⟩
  have hq4 := hf5_1.le
  refine (?_ : CL _ _ _ _ _ _ (Own w (fps [Res.row o 162 [v, .int .i64 (a : Nat), .bool bad]]) [Res.row b2 50 [.int .u64 (0 : Nat), .int .u64 (0 : Nat), .int .i64 0, .int .i64 0, .slice none 0 0], Res.row b3 50 [.int .u64 (n1_ : Nat), .int .u64 (n4_ : Nat), .int .i64 (n7_ : Nat), .int .i64 0, .slice none 0 0], Res.row o 162 [v, .int .i64 (a'11_ : Nat), .bool bad'12_]])) w1 (hw.frameL [2] rfl hO)
  refine l_cvt (c := toI n10_) (by kernel_rfl) rfl (wrap_toI hf5_1_1) rfl ?_ (by kernel_rfl)
  refine l_fld (o := 3) rfl (by kernel_rfl) rfl ?_
  refine l_st (cs := [.int .u64 (n1_ : Nat), .int .u64 (n4_ : Nat), .int .i64 (n7_ : Nat), .int .i64 0, .slice none 0 0]) 1 rfl rfl rfl (by kernel_rfl) rfl (Nat.le_of_ble_eq_true rfl) ?_
  refine l_end ?_
  refine c_reg ?_
  refine l_mv rfl ?_
  refine l_call (by kernel_rfl) rfl rfl (fun w' hw => ?_)
  refine (rinData_s o v b a'11_ bad'12_ w' (by first | assumption | omega | (simp <;> omega) | (constructor <;> (first | omega | (simp only [LenOk]; omega) | (simp <;> omega)))) (by first | assumption | omega | (simp <;> omega) | (constructor <;> (first | omega | (simp only [LenOk]; omega) | (simp <;> omega)))) (hw.rdTo hb [2] rfl) (hw.give [2] rfl (by decide))).mono ?_
  rintro r13_ w1 ⟨_, d14_, a'15_, bad'16_, rfl, hf6_1, hf6_1_1, hO⟩
  refine (?_ : CL _ _ _ _ _ _ (Own w (fps [Res.row o 162 [v, .int .i64 (a : Nat), .bool bad]]) [Res.row b2 50 [.int .u64 (0 : Nat), .int .u64 (0 : Nat), .int .i64 0, .int .i64 0, .slice none 0 0], Res.row b3 50 [.int .u64 (n1_ : Nat), .int .u64 (n4_ : Nat), .int .i64 (n7_ : Nat), .int .i64 (toI n10_), .slice none 0 0], Res.row o 162 [v, .int .i64 (a'15_ : Nat), .bool bad'16_], Res.vec 5 1 r13_ d14_.length (d14_.map vb)])) w1 (hw.frameL [2] rfl hO)
  refine l_fld (o := 4) rfl (by kernel_rfl) rfl ?_
  refine l_haveO (fun w' hw => Own.cell1Vec (i := 3) rfl hw) (fun hc1_ => ?_)
  refine l_st (cs := [.int .u64 (n1_ : Nat), .int .u64 (n4_ : Nat), .int .i64 (n7_ : Nat), .int .i64 (toI n10_), .slice none 0 0]) 1 rfl rfl rfl (by kernel_rfl) hc1_ (Nat.le_of_ble_eq_true rfl) ?_
  refine l_end ?_
  refine c_reg ?_
  refine l_ldr (cs := [.int .u64 (n1_ : Nat), .int .u64 (n4_ : Nat), .int .i64 (n7_ : Nat), .int .i64 (toI n10_), r13_]) 1 rfl rfl (by kernel_rfl) rfl ?_
  refine l_stN (cs := [.int .u64 (0 : Nat), .int .u64 (0 : Nat), .int .i64 0, .int .i64 0, .slice none 0 0]) (vs := [.int .u64 (n1_ : Nat), .int .u64 (n4_ : Nat), .int .i64 (n7_ : Nat), .int .i64 (toI n10_), r13_]) 0 rfl rfl rfl (by kernel_rfl) (allc_cons rfl (allc_cons rfl (allc_cons rfl (allc_cons rfl (allc_cons hc1_ allc_nil))))) (Nat.le_of_ble_eq_true rfl) ?_
  refine l_end ?_
  exact c_ret (retc (cs := [.int .u64 (n1_ : Nat), .int .u64 (n4_ : Nat), .int .i64 (n7_ : Nat), .int .i64 (toI n10_), r13_]) rfl rfl (by kernel_rfl) (Own.rowCells (i := 0) rfl) (fun w' hw => ⟨n1_, n4_, n7_, toI n10_, r13_, d14_, a'15_, bad'16_, rfl, hf2_1.bind (hf3_1.bind (RdS.bind hf4_1.int (hf5_1.bind (hf6_1.bind (RdS.pure _ hf6_1.le))))), ⟨hf2_1_1, hf3_1_1⟩, hf6_1_1, hw.sel [2, 3] rfl (by decide)⟩))
theorem rtoEnt_s (v : Value) (b : List UInt8) (w : World) (hl : b.length ≤ 1000000000) (hb : Rd w [] (Res.sl v b.length (b.map vb))) : Rets Try.prog 40 #[v] w fun u_ w' => ∃ (i : Nat) (t : Nat) (k : Int) (d : Int) (dv : Value) (dl : List UInt8) (f : Bool), u_ = .tuple #[.agg #[.int .u64 (i : Nat), .int .u64 (t : Nat), .int .i64 k, .int .i64 d, dv], .bool f] ∧ RefPost (decEnt b) (⟨i, t, k, d, dl⟩ : EntA) f ∧ (i < 18446744073709551616 ∧ t < 18446744073709551616) ∧ dl.length ≤ b.length ∧ Own w [] [Res.vec 5 1 dv dl.length (dl.map vb)] w' := by
  refine fn_enter (args := [v]) Try.func40 rfl Try.ntmps40 rfl (Own.start w) ?_
  refine c_reg ?_
  refine l_new (v := .agg #[.int .u64 (0 : Nat), .int .u64 (0 : Nat), .int .i64 0, .int .i64 0, .slice none 0 0]) (by kernel_rfl) rfl (fun b2 => ?_)
  refine l_as rfl ?_
  refine l_end ?_
  refine c_reg ?_
  refine l_mv rfl ?_
  refine l_bldc (cs := [v, .int .i64 0, .bool false]) (z := [.slice none 0 0, .int .i64 0, .bool false]) (pl := [(0, 1), (1, 1), (2, 1)]) (by kernel_rfl) ⟨(Sl.cell1 (Rd.φ hb)), trivial⟩ rfl rfl ?_
  refine l_box rfl rfl (fun b8 => ?_)
  refine l_as rfl ?_
  refine l_end ?_
  refine c_reg ?_
  refine l_mv rfl ?_
  refine l_call (by kernel_rfl) rfl rfl (fun w' hw => ?_)
  refine (rentRead_s b8 v b 0 false w' (by first | assumption | omega | (simp <;> omega) | (constructor <;> (first | omega | (simp only [LenOk]; omega) | (simp <;> omega)))) (by first | assumption | omega | (simp <;> omega) | (constructor <;> (first | omega | (simp only [LenOk]; omega) | (simp <;> omega)))) (hw.rdTo hb [1] rfl) (hw.give [1] rfl (by decide))).mono ?_
  rintro _ w1 ⟨i1_, t2_, k3_, d4_, dv5_, dl6_, a'7_, bad'8_, rfl, hf2_1, hf2_1_1, hf2_1_2, hO⟩
  refine (?_ : CL _ _ _ _ _ _ (Own w [] [Res.row b2 50 [.int .u64 (0 : Nat), .int .u64 (0 : Nat), .int .i64 0, .int .i64 0, .slice none 0 0], Res.row b8 162 [v, .int .i64 (a'7_ : Nat), .bool bad'8_], Res.vec 5 1 dv5_ dl6_.length (dl6_.map vb)])) w1 (hw.frameL [1] rfl hO)
  refine l_new (v := .agg #[.int .u64 (0 : Nat), .int .u64 (0 : Nat), .int .i64 0, .int .i64 0, .slice none 0 0]) (by kernel_rfl) rfl (fun b5 => ?_)
  refine l_haveO (fun w' hw => Own.cell1Vec (i := 2) rfl hw) (fun hc1_ => ?_)
  refine l_stN (cs := [.int .u64 (0 : Nat), .int .u64 (0 : Nat), .int .i64 0, .int .i64 0, .slice none 0 0]) (vs := [.int .u64 (i1_ : Nat), .int .u64 (t2_ : Nat), .int .i64 (k3_ : Nat), .int .i64 d4_, dv5_]) 3 rfl rfl rfl (by kernel_rfl) (allc_cons rfl (allc_cons rfl (allc_cons rfl (allc_cons rfl (allc_cons hc1_ allc_nil))))) (Nat.le_of_ble_eq_true rfl) ?_
  refine l_end ?_
  refine c_seq ?_
  refine c_heldo [2, 3] rfl (by decide) (by kernel_rfl) (fun w' hw hS => ?_)
  refine h_take 0 rfl (by kernel_rfl) (by kernel_rfl) (by kernel_rfl) (v_ldr (cs := [.int .u64 (i1_ : Nat), .int .u64 (t2_ : Nat), .int .i64 (k3_ : Nat), .int .i64 d4_, dv5_]) 1 rfl rfl (by kernel_rfl)) rfl hS ?_
  refine h_take 1 rfl (by kernel_rfl) (by kernel_rfl) (by kernel_rfl) (v_mv) rfl hS ?_
  refine h_one 2 (by kernel_rfl) rfl hw ?_
  refine l_call (by kernel_rfl) rfl rfl (fun w' hw => ?_)
  refine (whole_s b8 v b a'7_ bad'8_ w' (by first | assumption | omega | (simp <;> omega) | (constructor <;> (first | omega | (simp only [LenOk]; omega) | (simp <;> omega)))) (hw.rdTo hb [1] rfl) (hw.give [1] rfl (by decide))).mono ?_
  rintro _ w1 ⟨rfl, hO⟩
  refine (?_ : CL _ _ _ _ _ _ (Own w [] [Res.row b2 50 [.int .u64 (0 : Nat), .int .u64 (0 : Nat), .int .i64 0, .int .i64 0, .slice none 0 0], Res.vec 5 1 dv5_ dl6_.length (dl6_.map vb), Res.row b5 50 [.int .u64 (i1_ : Nat), .int .u64 (t2_ : Nat), .int .i64 (k3_ : Nat), .int .i64 d4_, dv5_], Res.row b8 162 [v, .int .i64 (a'7_ : Nat), .bool bad'8_]])) w1 (hw.frameL [1] rfl hO)
  refine l_nil (fun w' hw => ?_)
  have hS := hw.sel [1, 2] rfl (by decide)
  refine ⟨hS, ?_⟩
  refine h_take 3 rfl (by kernel_rfl) (by kernel_rfl) (by kernel_rfl) (v_mv) rfl hS ?_
  by_cases g3_3 : bad'8_ = false ∧ a'7_ = b.length
  ·
    refine h_takeg 4 rfl rfl (gT g3_3) (by kernel_rfl) (by kernel_rfl) (by kernel_rfl) (v_ldr (cs := [.int .u64 (i1_ : Nat), .int .u64 (t2_ : Nat), .int .i64 (k3_ : Nat), .int .i64 d4_, dv5_]) 1 rfl rfl (by kernel_rfl)) rfl hS ?_
    refine h_one 5 (by kernel_rfl) rfl hw ?_
    refine l_on rfl (gT g3_3) ?_
    refine l_call (by kernel_rfl) rfl rfl (fun w' hw => ?_)
    refine (rentOK_s ({ index := i1_, term := t2_, kind := ((k3_ : Nat) : Int), delta := d4_, dv := dv5_, data := dl6_ } : EntD) w' ⟨hf2_1_1.1, hf2_1_1.2, by have := hf2_1_2; dsimp only; omega⟩ ⟨(hw.rdVec0 1 rfl)⟩).mono ?_
    rintro _ w1 ⟨rfl, hO⟩
    refine (?_ : CL _ _ _ _ _ _ (Own w [] [Res.row b2 50 [.int .u64 (0 : Nat), .int .u64 (0 : Nat), .int .i64 0, .int .i64 0, .slice none 0 0], Res.vec 5 1 dv5_ dl6_.length (dl6_.map vb), Res.row b5 50 [.int .u64 (i1_ : Nat), .int .u64 (t2_ : Nat), .int .i64 (k3_ : Nat), .int .i64 d4_, dv5_], Res.row b8 162 [v, .int .i64 (a'7_ : Nat), .bool bad'8_]])) w1 (hw.frame0 hO)
    refine l_nil (fun w' hw => ?_)
    have hS := hw.sel [1, 2] rfl (by decide)
    refine ⟨hS, ?_⟩
    refine h_take 6 rfl (by kernel_rfl) (by kernel_rfl) (by kernel_rfl) (v_pickT (gT g3_3)) rfl hS ?_
    refine h_one 7 (by kernel_rfl) rfl hw ?_
    refine l_stN (cs := [.int .u64 (0 : Nat), .int .u64 (0 : Nat), .int .i64 0, .int .i64 0, .slice none 0 0]) (vs := [.int .u64 (i1_ : Nat), .int .u64 (t2_ : Nat), .int .i64 (k3_ : Nat), .int .i64 d4_, dv5_]) 0 rfl rfl rfl (by kernel_rfl) (allc_cons rfl (allc_cons rfl (allc_cons rfl (allc_cons rfl (allc_cons hc1_ allc_nil))))) (Nat.le_of_ble_eq_true rfl) ?_
    refine l_nil (fun w' hw => ?_)
    have hS := hw.sel [1, 2] rfl (by decide)
    refine ⟨hS, ?_⟩
    refine h_take 8 rfl (by kernel_rfl) (by kernel_rfl) (by kernel_rfl) (v_as) rfl hS ?_
    refine h_done (by kernel_rfl) ?_
    refine (?_ : C _ _ _ _ _ _ _ (Own w [] [Res.row b2 50 [.int .u64 (i1_ : Nat), .int .u64 (t2_ : Nat), .int .i64 (k3_ : Nat), .int .i64 d4_, dv5_], Res.vec 5 1 dv5_ dl6_.length (dl6_.map vb), Res.row b5 50 [.int .u64 (i1_ : Nat), .int .u64 (t2_ : Nat), .int .i64 (k3_ : Nat), .int .i64 d4_, dv5_], Res.row b8 162 [v, .int .i64 (a'7_ : Nat), .bool bad'8_]])) _ hw
    exact c_ret (retc2 (cs := [.int .u64 (i1_ : Nat), .int .u64 (t2_ : Nat), .int .i64 (k3_ : Nat), .int .i64 d4_, dv5_]) (v := .bool (decide (({ index := i1_, term := t2_, kind := ((k3_ : Nat) : Int), delta := d4_, dv := dv5_, data := dl6_ } : EntD).ok))) rfl rfl rfl (by kernel_rfl) (Own.rowCells (i := 0) rfl) (fun w' hw => ⟨i1_, t2_, ((k3_ : Nat) : Int), d4_, dv5_, dl6_, (decide ({ index := i1_, term := t2_, kind := ((k3_ : Nat) : Int), delta := d4_, dv := dv5_, data := dl6_ } : EntD).ok), rfl, RefPost.on hf2_1 g3_3 decide_eq_true_iff, hf2_1_1, hf2_1_2, hw.sel [1] rfl (by decide)⟩))
  ·
    refine h_offg 4 rfl rfl (gF g3_3) rfl (by kernel_rfl) (by kernel_rfl) (by kernel_rfl) rfl hS ?_
    refine h_offg 5 rfl rfl (gF g3_3) rfl (by kernel_rfl) (by kernel_rfl) (by kernel_rfl) rfl hS ?_
    refine h_take 6 rfl (by kernel_rfl) (by kernel_rfl) (by kernel_rfl) (v_pickF (gF g3_3)) rfl hS ?_
    refine h_one 7 (by kernel_rfl) rfl hw ?_
    refine l_stN (cs := [.int .u64 (0 : Nat), .int .u64 (0 : Nat), .int .i64 0, .int .i64 0, .slice none 0 0]) (vs := [.int .u64 (i1_ : Nat), .int .u64 (t2_ : Nat), .int .i64 (k3_ : Nat), .int .i64 d4_, dv5_]) 0 rfl rfl rfl (by kernel_rfl) (allc_cons rfl (allc_cons rfl (allc_cons rfl (allc_cons rfl (allc_cons hc1_ allc_nil))))) (Nat.le_of_ble_eq_true rfl) ?_
    refine l_nil (fun w' hw => ?_)
    have hS := hw.sel [1, 2] rfl (by decide)
    refine ⟨hS, ?_⟩
    refine h_take 8 rfl (by kernel_rfl) (by kernel_rfl) (by kernel_rfl) (v_as) rfl hS ?_
    refine h_done (by kernel_rfl) ?_
    refine (?_ : C _ _ _ _ _ _ _ (Own w [] [Res.row b2 50 [.int .u64 (i1_ : Nat), .int .u64 (t2_ : Nat), .int .i64 (k3_ : Nat), .int .i64 d4_, dv5_], Res.vec 5 1 dv5_ dl6_.length (dl6_.map vb), Res.row b5 50 [.int .u64 (i1_ : Nat), .int .u64 (t2_ : Nat), .int .i64 (k3_ : Nat), .int .i64 d4_, dv5_], Res.row b8 162 [v, .int .i64 (a'7_ : Nat), .bool bad'8_]])) _ hw
    exact c_ret (retc2 (cs := [.int .u64 (i1_ : Nat), .int .u64 (t2_ : Nat), .int .i64 (k3_ : Nat), .int .i64 d4_, dv5_]) (v := .bool false) rfl rfl rfl (by kernel_rfl) (Own.rowCells (i := 0) rfl) (fun w' hw => ⟨i1_, t2_, ((k3_ : Nat) : Int), d4_, dv5_, dl6_, false, rfl, RefPost.off hf2_1 g3_3, hf2_1_1, hf2_1_2, hw.sel [1] rfl (by decide)⟩))

theorem shtRead_s (o : Nat) (v : Value) (b : List UInt8) (a : Nat) (bad : Bool) (cb : Nat) (w : World) (hl : LenOk b.length) (ha : a ≤ b.length) (hcb : Rd w (fps [Res.row o 191 [v, .int .i64 (a : Nat), .bool bad]]) (Res.row cb 144 [.func (.func 122) #[] #[], .func (.func 127) #[] #[], .func (.func 129) #[] #[]])) (hb : Rd w (fps [Res.row o 191 [v, .int .i64 (a : Nat), .bool bad]]) (Res.sl v b.length (b.map vb))) (hin : Own w (fps [Res.row o 191 [v, .int .i64 (a : Nat), .bool bad]]) [Res.row o 191 [v, .int .i64 (a : Nat), .bool bad]] w) : Rets Try.prog 133 #[.pointer (some ⟨o, 0, none⟩), .pointer (some ⟨cb, 0, none⟩)] w fun u_ w' => ∃ (i : Nat) (t : Nat) (r1 : Value) (l1 : List Int) (r2 : Value) (l2 : List Int) (dv : Value) (dl : List UInt8) (a' : Nat) (bad' : Bool), u_ = .agg #[.int .u64 (i : Nat), .int .u64 (t : Nat), r1, r2, dv] ∧ RdS pSht b a bad (⟨i, t, ⟨l1, l2⟩, dl⟩ : ShtA) a' bad' ∧ (i < 18446744073709551616 ∧ t < 18446744073709551616) ∧ (l1.length ≤ 16 ∧ l2.length ≤ 16) ∧ dl.length ≤ b.length ∧ Own w (fps [Res.row o 191 [v, .int .i64 (a : Nat), .bool bad]]) [Res.row o 191 [v, .int .i64 (a' : Nat), .bool bad'], Res.vec 3 1 r1 l1.length (l1.flatMap I1), Res.vec 3 1 r2 l2.length (l2.flatMap I1), Res.vec 5 1 dv dl.length (dl.map vb)] w' := by
  refine fn_enter (args := [.pointer (some ⟨o, 0, none⟩), .pointer (some ⟨cb, 0, none⟩)]) Try.func133 rfl Try.ntmps133 rfl (show Own w (fps [Res.row o 191 [v, .int .i64 (a : Nat), .bool bad]]) [Res.row o 191 [v, .int .i64 (a : Nat), .bool bad]] w from hin) ?_
  refine c_reg ?_
  refine l_new (v := .agg #[.int .u64 (0 : Nat), .int .u64 (0 : Nat), .slice none 0 0, .slice none 0 0, .slice none 0 0]) (by kernel_rfl) rfl (fun b3 => ?_)
  refine l_end ?_
  refine c_seq ?_
  refine c_heldo [] rfl (by decide) (by kernel_rfl) (fun w' hw hS => ?_)
  refine h_take 0 rfl (by kernel_rfl) (by kernel_rfl) (by kernel_rfl) (v_mv) rfl hS ?_
  refine h_take 2 rfl (by kernel_rfl) (by kernel_rfl) (by kernel_rfl) (v_mv) rfl hS ?_
  refine h_take 4 rfl (by kernel_rfl) (by kernel_rfl) (by kernel_rfl) (v_fld (o := 2) rfl (by kernel_rfl)) rfl hS ?_
  refine h_take 5 rfl (by kernel_rfl) (by kernel_rfl) (by kernel_rfl) (v_ldq (v := .func (.func 129) #[] #[]) rfl (hcb.φ.cell rfl) (hcb.far _ (by simp [Res.row])) (by kernel_rfl)) rfl hS ?_
  refine h_take 6 rfl (by kernel_rfl) (by kernel_rfl) (by kernel_rfl) (v_mv) rfl hS ?_
  refine h_take 8 rfl (by kernel_rfl) (by kernel_rfl) (by kernel_rfl) (v_mv) rfl hS ?_
  refine h_one 1 (by kernel_rfl) rfl hw ?_
  refine l_call (by kernel_rfl) rfl rfl (fun w' hw => ?_)
  refine (inNum_s o v b a bad w' (by first | assumption | omega | (simp <;> omega) | (constructor <;> (first | omega | (simp only [LenOk]; omega) | (simp <;> omega)))) (by first | assumption | omega | (simp <;> omega) | (constructor <;> (first | omega | (simp only [LenOk]; omega) | (simp <;> omega)))) (hw.rdTo hb [0] rfl) (hw.give [0] rfl (by decide))).mono ?_
  rintro _ w1 ⟨n1_, a'2_, bad'3_, rfl, hf1_1, hf1_1_1, hO⟩
  have hq1 := hf1_1.le
  refine (?_ : CL _ _ _ _ _ _ (Own w (fps [Res.row o 191 [v, .int .i64 (a : Nat), .bool bad]]) [Res.row b3 55 [.int .u64 (0 : Nat), .int .u64 (0 : Nat), .slice none 0 0, .slice none 0 0, .slice none 0 0], Res.row o 191 [v, .int .i64 (a'2_ : Nat), .bool bad'3_]])) w1 (hw.frameL [0] rfl hO)
  refine l_nil (fun w' hw => ?_)
  have hS := hw.sel [] rfl (by decide)
  refine ⟨hS, ?_⟩
  refine h_one 3 (by kernel_rfl) rfl hw ?_
  refine l_call (by kernel_rfl) rfl rfl (fun w' hw => ?_)
  refine (inNum_s o v b a'2_ bad'3_ w' (by first | assumption | omega | (simp <;> omega) | (constructor <;> (first | omega | (simp only [LenOk]; omega) | (simp <;> omega)))) (by first | assumption | omega | (simp <;> omega) | (constructor <;> (first | omega | (simp only [LenOk]; omega) | (simp <;> omega)))) (hw.rdTo hb [1] rfl) (hw.give [1] rfl (by decide))).mono ?_
  rintro _ w1 ⟨n4_, a'5_, bad'6_, rfl, hf1_3, hf1_3_1, hO⟩
  have hq2 := hf1_3.le
  refine (?_ : CL _ _ _ _ _ _ (Own w (fps [Res.row o 191 [v, .int .i64 (a : Nat), .bool bad]]) [Res.row b3 55 [.int .u64 (0 : Nat), .int .u64 (0 : Nat), .slice none 0 0, .slice none 0 0, .slice none 0 0], Res.row o 191 [v, .int .i64 (a'5_ : Nat), .bool bad'6_]])) w1 (hw.frameL [1] rfl hO)
  refine l_nil (fun w' hw => ?_)
  have hS := hw.sel [] rfl (by decide)
  refine ⟨hS, ?_⟩
  refine h_one 7 (by kernel_rfl) rfl hw ?_
  refine l_callv (fst := []) (cap := []) rfl (by kernel_rfl) rfl rfl (fun w' hw => ?_)
  refine (confRead_s o v b a'5_ bad'6_ w' (by first | assumption | omega | (simp <;> omega) | (constructor <;> (first | omega | (simp only [LenOk]; omega) | (simp <;> omega)))) (by first | assumption | omega | (simp <;> omega) | (constructor <;> (first | omega | (simp only [LenOk]; omega) | (simp <;> omega)))) (hw.rdTo hb [1] rfl) (hw.give [1] rfl (by decide))).mono ?_
  rintro _ w1 ⟨r17_, l18_, r29_, l210_, a'11_, bad'12_, rfl, hf1_7, hf1_7_1, hf1_7_2, hO⟩
  have hq3 := hf1_7.le
  refine (?_ : CL _ _ _ _ _ _ (Own w (fps [Res.row o 191 [v, .int .i64 (a : Nat), .bool bad]]) [Res.row b3 55 [.int .u64 (0 : Nat), .int .u64 (0 : Nat), .slice none 0 0, .slice none 0 0, .slice none 0 0], Res.row o 191 [v, .int .i64 (a'11_ : Nat), .bool bad'12_], Res.vec 3 1 r17_ l18_.length (l18_.flatMap I1), Res.vec 3 1 r29_ l210_.length (l210_.flatMap I1)])) w1 (hw.frameL [1] rfl hO)
  refine l_nil (fun w' hw => ?_)
  have hS := hw.sel [] rfl (by decide)
  refine ⟨hS, ?_⟩
  refine h_one 9 (by kernel_rfl) rfl hw ?_
  refine l_call (by kernel_rfl) rfl rfl (fun w' hw => ?_)
  refine (inData_s o v b a'11_ bad'12_ w' (by first | assumption | omega | (simp <;> omega) | (constructor <;> (first | omega | (simp only [LenOk]; omega) | (simp <;> omega)))) (by first | assumption | omega | (simp <;> omega) | (constructor <;> (first | omega | (simp only [LenOk]; omega) | (simp <;> omega)))) (hw.rdTo hb [1] rfl) (hw.give [1] rfl (by decide))).mono ?_
  rintro r13_ w1 ⟨_, d14_, a'15_, bad'16_, rfl, hf1_9, hf1_9_1, hO⟩
  refine (?_ : CL _ _ _ _ _ _ (Own w (fps [Res.row o 191 [v, .int .i64 (a : Nat), .bool bad]]) [Res.row b3 55 [.int .u64 (0 : Nat), .int .u64 (0 : Nat), .slice none 0 0, .slice none 0 0, .slice none 0 0], Res.vec 3 1 r17_ l18_.length (l18_.flatMap I1), Res.vec 3 1 r29_ l210_.length (l210_.flatMap I1), Res.row o 191 [v, .int .i64 (a'15_ : Nat), .bool bad'16_], Res.vec 5 1 r13_ d14_.length (d14_.map vb)])) w1 (hw.frameL [1] rfl hO)
  refine l_nil (fun w' hw => ?_)
  have hS := hw.sel [] rfl (by decide)
  refine ⟨hS, ?_⟩
  refine h_one 10 (by kernel_rfl) rfl hw ?_
  refine l_haveO (fun w' hw => Own.cell1Vec (i := 4) rfl hw) (fun hc4_ => ?_)
  refine l_bldc (cs := [.int .u64 (n1_ : Nat), .int .u64 (n4_ : Nat), r17_, r29_, r13_]) (z := [.int .u64 (0 : Nat), .int .u64 (0 : Nat), .slice none 0 0, .slice none 0 0, .slice none 0 0]) (pl := [(0, 1), (1, 1), (2, 2), (4, 1)]) (by kernel_rfl) ⟨rfl, rfl, trivial, hc4_, trivial⟩ rfl rfl ?_
  refine l_nil (fun w' hw => ?_)
  have hS := hw.sel [] rfl (by decide)
  refine ⟨hS, ?_⟩
  refine h_one 11 (by kernel_rfl) rfl hw ?_
  refine l_haveO (fun w' hw => Own.cell1Vec (i := 1) rfl hw) (fun hc5_ => ?_)
  refine l_haveO (fun w' hw => Own.cell1Vec (i := 2) rfl hw) (fun hc6_ => ?_)
  refine l_stN (cs := [.int .u64 (0 : Nat), .int .u64 (0 : Nat), .slice none 0 0, .slice none 0 0, .slice none 0 0]) (vs := [.int .u64 (n1_ : Nat), .int .u64 (n4_ : Nat), r17_, r29_, r13_]) 0 rfl rfl rfl (by kernel_rfl) (allc_cons rfl (allc_cons rfl (allc_cons hc5_ (allc_cons hc6_ (allc_cons hc4_ allc_nil))))) (Nat.le_of_ble_eq_true rfl) ?_
  refine l_nil (fun w' hw => ?_)
  have hS := hw.sel [] rfl (by decide)
  refine ⟨hS, ?_⟩
  refine h_done (by kernel_rfl) ?_
  refine (?_ : C _ _ _ _ _ _ _ (Own w (fps [Res.row o 191 [v, .int .i64 (a : Nat), .bool bad]]) [Res.row b3 55 [.int .u64 (n1_ : Nat), .int .u64 (n4_ : Nat), r17_, r29_, r13_], Res.vec 3 1 r17_ l18_.length (l18_.flatMap I1), Res.vec 3 1 r29_ l210_.length (l210_.flatMap I1), Res.row o 191 [v, .int .i64 (a'15_ : Nat), .bool bad'16_], Res.vec 5 1 r13_ d14_.length (d14_.map vb)])) _ hw
  exact c_ret (retc (cs := [.int .u64 (n1_ : Nat), .int .u64 (n4_ : Nat), r17_, r29_, r13_]) rfl rfl (by kernel_rfl) (Own.rowCells (i := 0) rfl) (fun w' hw => ⟨n1_, n4_, r17_, l18_, r29_, l210_, r13_, d14_, a'15_, bad'16_, rfl, hf1_1.bind (hf1_3.bind (hf1_7.bind (hf1_9.bind (RdS.pure _ hf1_9.le)))), ⟨hf1_1_1, hf1_3_1⟩, ⟨hf1_7_1, hf1_7_2⟩, hf1_9_1, hw.sel [3, 1, 2, 4] rfl (by decide)⟩))
theorem shtValue_s (v : Value) (b : List UInt8) (cb : Nat) (w : World) (hl : b.length ≤ 1000000000) (hcb : Rd w [] (Res.row cb 144 [.func (.func 122) #[] #[], .func (.func 127) #[] #[], .func (.func 129) #[] #[]])) (hb : Rd w [] (Res.sl v b.length (b.map vb))) : Rets Try.prog 87 #[.agg #[.func (.func 131) #[] #[.pointer (some ⟨cb, 0, none⟩)], .func (.func 132) #[] #[.pointer (some ⟨cb, 0, none⟩)], .func (.func 133) #[] #[.pointer (some ⟨cb, 0, none⟩)]], v] w fun u_ w' => ∃ (i : Nat) (t : Nat) (r1 : Value) (l1 : List Int) (r2 : Value) (l2 : List Int) (dv : Value) (dl : List UInt8) (e : Int), u_ = .tuple #[.agg #[.int .u64 (i : Nat), .int .u64 (t : Nat), r1, r2, dv], .int .i64 e] ∧ ValPost (decSht b) (⟨i, t, ⟨l1, l2⟩, dl⟩ : ShtA) ⟨0, 0, ⟨[], []⟩, []⟩ e ∧ (i < 18446744073709551616 ∧ t < 18446744073709551616) ∧ (l1.length ≤ 16 ∧ l2.length ≤ 16) ∧ dl.length ≤ b.length ∧ Own w [] [Res.vec 3 1 r1 l1.length (l1.flatMap I1), Res.vec 3 1 r2 l2.length (l2.flatMap I1), Res.vec 5 1 dv dl.length (dl.map vb)] w' := by
  refine fn_enter (args := [.agg #[.func (.func 131) #[] #[.pointer (some ⟨cb, 0, none⟩)], .func (.func 132) #[] #[.pointer (some ⟨cb, 0, none⟩)], .func (.func 133) #[] #[.pointer (some ⟨cb, 0, none⟩)]], v]) Try.func87 rfl Try.ntmps87 rfl (Own.start w) ?_
  refine c_reg ?_
  refine l_box rfl rfl (fun b2 => ?_)
  refine l_new (v := .agg #[.int .u64 (0 : Nat), .int .u64 (0 : Nat), .slice none 0 0, .slice none 0 0, .slice none 0 0]) (by kernel_rfl) rfl (fun b4 => ?_)
  refine l_as rfl ?_
  refine l_end ?_
  refine c_reg ?_
  refine l_mv rfl ?_
  refine l_bldc (cs := [v, .int .i64 0, .bool false]) (z := [.slice none 0 0, .int .i64 0, .bool false]) (pl := [(0, 1), (1, 1), (2, 1)]) (by kernel_rfl) ⟨(Sl.cell1 (Rd.φ hb)), trivial⟩ rfl rfl ?_
  refine l_box rfl rfl (fun b10 => ?_)
  refine l_as rfl ?_
  refine l_end ?_
  refine c_reg ?_
  refine l_fld (o := 2) rfl (by kernel_rfl) rfl ?_
  refine l_ldo 0 (v := .func (.func 133) #[] #[.pointer (some ⟨cb, 0, none⟩)]) rfl rfl rfl (by kernel_rfl) rfl ?_
  refine l_mv rfl ?_
  refine l_callv (fst := []) (cap := [.pointer (some ⟨cb, 0, none⟩)]) rfl (by kernel_rfl) rfl rfl (fun w' hw => ?_)
  refine (shtRead_s b10 v b 0 false cb w' (by first | assumption | omega | (simp <;> omega) | (constructor <;> (first | omega | (simp only [LenOk]; omega) | (simp <;> omega)))) (by first | assumption | omega | (simp <;> omega) | (constructor <;> (first | omega | (simp only [LenOk]; omega) | (simp <;> omega)))) (hw.rdTo hcb [2] rfl) (hw.rdTo hb [2] rfl) (hw.give [2] rfl (by decide))).mono ?_
  rintro _ w1 ⟨i1_, t2_, r13_, l14_, r25_, l26_, dv7_, dl8_, a'9_, bad'10_, rfl, hf2_3, hf2_3_1, hf2_3_2, hf2_3_3, hO⟩
  refine (?_ : CL _ _ _ _ _ _ (Own w [] [Res.row b2 149 [.func (.func 131) #[] #[.pointer (some ⟨cb, 0, none⟩)], .func (.func 132) #[] #[.pointer (some ⟨cb, 0, none⟩)], .func (.func 133) #[] #[.pointer (some ⟨cb, 0, none⟩)]], Res.row b4 55 [.int .u64 (0 : Nat), .int .u64 (0 : Nat), .slice none 0 0, .slice none 0 0, .slice none 0 0], Res.row b10 191 [v, .int .i64 (a'9_ : Nat), .bool bad'10_], Res.vec 3 1 r13_ l14_.length (l14_.flatMap I1), Res.vec 3 1 r25_ l26_.length (l26_.flatMap I1), Res.vec 5 1 dv7_ dl8_.length (dl8_.map vb)])) w1 (hw.frameL [2] rfl hO)
  refine l_haveO (fun w' hw => Own.cell1Vec (i := 3) rfl hw) (fun hc1_ => ?_)
  refine l_haveO (fun w' hw => Own.cell1Vec (i := 4) rfl hw) (fun hc2_ => ?_)
  refine l_haveO (fun w' hw => Own.cell1Vec (i := 5) rfl hw) (fun hc3_ => ?_)
  refine l_stN (cs := [.int .u64 (0 : Nat), .int .u64 (0 : Nat), .slice none 0 0, .slice none 0 0, .slice none 0 0]) (vs := [.int .u64 (i1_ : Nat), .int .u64 (t2_ : Nat), r13_, r25_, dv7_]) 1 rfl rfl rfl (by kernel_rfl) (allc_cons rfl (allc_cons rfl (allc_cons hc1_ (allc_cons hc2_ (allc_cons hc3_ allc_nil))))) (Nat.le_of_ble_eq_true rfl) ?_
  refine l_end ?_
  refine c_seq ?_
  refine c_reg ?_
  refine l_mv rfl ?_
  refine l_nck rfl rfl ?_
  refine l_fld (o := 2) rfl (by kernel_rfl) rfl ?_
  refine l_ldo 2 (v := .bool bad'10_) rfl rfl rfl (by kernel_rfl) rfl ?_
  refine l_mv rfl ?_
  refine l_bor (q := bad'10_ = true) 7 4 [26, 25, 24, 23, 22, 21, 20] (((a'9_ : Nat) : Int) ≠ ((b.length : Nat) : Int)) rfl rfl (bool_dec _) rfl rfl rfl trivial rfl (fun h3_4 => ?_) (fun g3_12 => ?_)
  ·
    refine l_on rfl (bF h3_4) ?_
    refine l_mv rfl ?_
    refine l_on rfl (bF h3_4) ?_
    refine l_nck rfl rfl ?_
    refine l_on rfl (bF h3_4) ?_
    refine l_fld (o := 1) rfl (by kernel_rfl) rfl ?_
    refine l_on rfl (bF h3_4) ?_
    refine l_ldo 2 (v := .int .i64 (a'9_ : Nat)) rfl rfl rfl (by kernel_rfl) rfl ?_
    refine l_on rfl (bF h3_4) ?_
    refine l_mv rfl ?_
    refine l_on rfl (bF h3_4) ?_
    refine l_lenS (len := b.length) (cs := (b.map vb)) (by kernel_rfl) rfl (fun w' hw' => Own.rd hb hw') rfl ?_
    refine l_on rfl (bF h3_4) ?_
    refine l_ne rfl rfl rfl ?_
    exact l_nil (fun w' hw => ⟨(by repeat (first | exact Out.refl _ _ | refine Out.upd rfl ?_ | refine Out.msk rfl ?_)), rfl, hw⟩)
  refine l_mv rfl ?_
  refine l_bor (q := (bad'10_ = true) ∨ (((a'9_ : Nat) : Int) ≠ ((b.length : Nat) : Int))) 5 13 [33, 32, 31, 30, 29] (¬ (({ index := i1_, term := t2_, conf := ({ vv := r13_, vs := l14_, lv := r25_, ls := l26_ } : ConfD), dv := dv7_, data := dl8_ } : ShtD).a.ok)) rfl rfl rfl rfl rfl rfl trivial rfl (fun h3_13 => ?_) (fun g3_19 => ?_)
  ·
    refine l_on rfl (gF h3_13) ?_
    refine l_fld (o := 0) rfl (by kernel_rfl) rfl ?_
    refine l_on rfl (gF h3_13) ?_
    refine l_ldo 0 (v := .func (.func 131) #[] #[.pointer (some ⟨cb, 0, none⟩)]) rfl rfl rfl (by kernel_rfl) rfl ?_
    refine l_on rfl (gF h3_13) ?_
    refine l_ldr (cs := [.int .u64 (i1_ : Nat), .int .u64 (t2_ : Nat), r13_, r25_, dv7_]) 1 rfl rfl (by kernel_rfl) rfl ?_
    refine l_on rfl (gF h3_13) ?_
    refine l_callv (fst := []) (cap := [.pointer (some ⟨cb, 0, none⟩)]) rfl (by kernel_rfl) rfl rfl (fun w' hw => ?_)
    refine (shtSound_s ({ index := i1_, term := t2_, conf := ({ vv := r13_, vs := l14_, lv := r25_, ls := l26_ } : ConfD), dv := dv7_, data := dl8_ } : ShtD) cb w' ⟨hf2_3_1.1, hf2_3_1.2, ⟨by have := hf2_3_2.1; dsimp only; omega, by have := hf2_3_2.2; dsimp only; omega⟩, by have := hf2_3_3; dsimp only; omega⟩ (hw.rd0 hcb) ⟨⟨(hw.rdVec0 3 rfl), (hw.rdVec0 4 rfl)⟩, (hw.rdVec0 5 rfl)⟩).mono ?_
    rintro _ w1 ⟨rfl, hO⟩
    refine (?_ : CL _ _ _ _ _ _ (Own w [] [Res.row b2 149 [.func (.func 131) #[] #[.pointer (some ⟨cb, 0, none⟩)], .func (.func 132) #[] #[.pointer (some ⟨cb, 0, none⟩)], .func (.func 133) #[] #[.pointer (some ⟨cb, 0, none⟩)]], Res.row b4 55 [.int .u64 (i1_ : Nat), .int .u64 (t2_ : Nat), r13_, r25_, dv7_], Res.row b10 191 [v, .int .i64 (a'9_ : Nat), .bool bad'10_], Res.vec 3 1 r13_ l14_.length (l14_.flatMap I1), Res.vec 3 1 r25_ l26_.length (l26_.flatMap I1), Res.vec 5 1 dv7_ dl8_.length (dl8_.map vb)])) w1 (hw.frame0 hO)
    refine l_on rfl (gF h3_13) ?_
    refine l_notp (q := ({ index := i1_, term := t2_, conf := ({ vv := r13_, vs := l14_, lv := r25_, ls := l26_ } : ConfD), dv := dv7_, data := dl8_ } : ShtD).a.ok) rfl rfl ?_
    exact l_nil (fun w' hw => ⟨(by repeat (first | exact Out.refl _ _ | refine Out.upd rfl ?_ | refine Out.msk rfl ?_)), rfl, hw⟩)
  refine l_end ?_
  refine c_dec rfl (fun c1 => ?_) (fun c1 => ?_)
  ·
    refine c_reg ?_
    refine l_new (v := .agg #[.int .u64 (0 : Nat), .int .u64 (0 : Nat), .slice none 0 0, .slice none 0 0, .slice none 0 0]) (by kernel_rfl) rfl (fun b7 => ?_)
    refine l_end ?_
    refine c_reg ?_
    refine l_ldr (cs := [.int .u64 (0 : Nat), .int .u64 (0 : Nat), .slice none 0 0, .slice none 0 0, .slice none 0 0]) 6 rfl rfl (by kernel_rfl) rfl ?_
    refine l_stN (cs := [.int .u64 (i1_ : Nat), .int .u64 (t2_ : Nat), r13_, r25_, dv7_]) (vs := [.int .u64 (0 : Nat), .int .u64 (0 : Nat), .slice none 0 0, .slice none 0 0, .slice none 0 0]) 1 rfl rfl rfl (by kernel_rfl) (allc_cons rfl (allc_cons rfl (allc_cons rfl (allc_cons rfl (allc_cons rfl allc_nil))))) (Nat.le_of_ble_eq_true rfl) ?_
    refine l_as rfl ?_
    refine l_end ?_
    exact c_ret (retc2 (cs := [.int .u64 (0 : Nat), .int .u64 (0 : Nat), .slice none 0 0, .slice none 0 0, .slice none 0 0]) (v := .int .i64 4) rfl rfl rfl (by kernel_rfl) (Own.rowCells (i := 1) rfl) (fun w' hw => ⟨0, 0, .slice none 0 0, [], .slice none 0 0, [], .slice none 0 0, [], 4, rfl, .inr ⟨rfl, whole_no hf2_3 (fun h1 h2 h3 => c1.elim (fun h => h.elim (fun h => (by rw [h1] at h; cases h)) (fun h => h (by omega))) (fun h => h h3)), rfl⟩, ⟨by omega, by omega⟩, ⟨by simp, by simp⟩, (by simp), own_nil (own_nil (own_nil hw.drop 3 1) 3 1) 5 1⟩))
  ·
    refine c_skipC ?_
    refine c_reg ?_
    refine l_ldr (cs := [.int .u64 (i1_ : Nat), .int .u64 (t2_ : Nat), r13_, r25_, dv7_]) 1 rfl rfl (by kernel_rfl) rfl ?_
    refine l_stN (cs := [.int .u64 (i1_ : Nat), .int .u64 (t2_ : Nat), r13_, r25_, dv7_]) (vs := [.int .u64 (i1_ : Nat), .int .u64 (t2_ : Nat), r13_, r25_, dv7_]) 1 rfl rfl rfl (by kernel_rfl) (allc_cons rfl (allc_cons rfl (allc_cons hc1_ (allc_cons hc2_ (allc_cons hc3_ allc_nil))))) (Nat.le_of_ble_eq_true rfl) ?_
    refine l_as rfl ?_
    refine l_end ?_
    exact c_ret (retc2 (cs := [.int .u64 (i1_ : Nat), .int .u64 (t2_ : Nat), r13_, r25_, dv7_]) (v := .int .i64 0) rfl rfl rfl (by kernel_rfl) (Own.rowCells (i := 1) rfl) (fun w' hw => ⟨i1_, t2_, r13_, l14_, r25_, l26_, dv7_, dl8_, 0, rfl, .inl ⟨rfl, whole_yes hf2_3 (by cases h : bad'10_; rfl; exact absurd (.inl (.inl h)) c1) (by have : ¬ (a'9_ : Int) ≠ b.length := fun h => c1 (.inl (.inr h)); omega) (Decidable.not_not.1 fun h => c1 (.inr h))⟩, hf2_3_1, hf2_3_2, hf2_3_3, hw.sel [3, 4, 5] rfl (by decide)⟩))
theorem toSht_s (v : Value) (b : List UInt8) (w : World) (hl : b.length ≤ 1000000000) (hb : Rd w [] (Res.sl v b.length (b.map vb))) : Rets Try.prog 43 #[v] w fun u_ w' => ∃ (i : Nat) (t : Nat) (r1 : Value) (l1 : List Int) (r2 : Value) (l2 : List Int) (dv : Value) (dl : List UInt8) (e : Int), u_ = .tuple #[.agg #[.int .u64 (i : Nat), .int .u64 (t : Nat), r1, r2, dv], .int .i64 e] ∧ ValPost (decSht b) (⟨i, t, ⟨l1, l2⟩, dl⟩ : ShtA) ⟨0, 0, ⟨[], []⟩, []⟩ e ∧ (i < 18446744073709551616 ∧ t < 18446744073709551616) ∧ (l1.length ≤ 16 ∧ l2.length ≤ 16) ∧ dl.length ≤ b.length ∧ Own w [] [Res.vec 3 1 r1 l1.length (l1.flatMap I1), Res.vec 3 1 r2 l2.length (l2.flatMap I1), Res.vec 5 1 dv dl.length (dl.map vb)] w' := by
  refine fn_enter (args := [v]) Try.func43 rfl Try.ntmps43 rfl (Own.start w) ?_
  refine c_reg ?_
  refine l_new (v := .agg #[.int .u64 (0 : Nat), .int .u64 (0 : Nat), .slice none 0 0, .slice none 0 0, .slice none 0 0]) (by kernel_rfl) rfl (fun b2 => ?_)
  refine l_as rfl ?_
  refine l_end ?_
  refine c_reg ?_
  refine l_call (by kernel_rfl) rfl rfl (fun w' hw => ?_)
  refine (shots_s w').mono ?_
  rintro _ w1 ⟨cb1_, rfl, hO⟩
  refine (?_ : CL _ _ _ _ _ _ (Own w [] [Res.row b2 55 [.int .u64 (0 : Nat), .int .u64 (0 : Nat), .slice none 0 0, .slice none 0 0, .slice none 0 0], Res.row cb1_ 144 [.func (.func 122) #[] #[], .func (.func 127) #[] #[], .func (.func 129) #[] #[]]])) w1 (hw.frame0 hO)
  refine l_mv rfl ?_
  refine l_call (by kernel_rfl) rfl rfl (fun w' hw => ?_)
  refine (shtValue_s v b cb1_ w' (by first | assumption | omega | (simp <;> omega) | (constructor <;> (first | omega | (simp only [LenOk]; omega) | (simp <;> omega)))) (hw.rdRes0 1 rfl) (hw.rd0 hb)).mono ?_
  rintro _ w1 ⟨i2_, t3_, r14_, l15_, r26_, l27_, dv8_, dl9_, e10_, rfl, hf1_2, hf1_2_1, hf1_2_2, hf1_2_3, hO⟩
  refine (?_ : CL _ _ _ _ _ _ (Own w [] [Res.row b2 55 [.int .u64 (0 : Nat), .int .u64 (0 : Nat), .slice none 0 0, .slice none 0 0, .slice none 0 0], Res.row cb1_ 144 [.func (.func 122) #[] #[], .func (.func 127) #[] #[], .func (.func 129) #[] #[]], Res.vec 3 1 r14_ l15_.length (l15_.flatMap I1), Res.vec 3 1 r26_ l27_.length (l27_.flatMap I1), Res.vec 5 1 dv8_ dl9_.length (dl9_.map vb)])) w1 (hw.frame0 hO)
  refine l_ext (vs := [.agg #[.int .u64 (i2_ : Nat), .int .u64 (t3_ : Nat), r14_, r26_, dv8_], .int .i64 e10_]) rfl rfl rfl ?_
  refine l_ext (vs := [.agg #[.int .u64 (i2_ : Nat), .int .u64 (t3_ : Nat), r14_, r26_, dv8_], .int .i64 e10_]) rfl rfl rfl ?_
  refine l_haveO (fun w' hw => Own.cell1Vec (i := 2) rfl hw) (fun hc1_ => ?_)
  refine l_haveO (fun w' hw => Own.cell1Vec (i := 3) rfl hw) (fun hc2_ => ?_)
  refine l_haveO (fun w' hw => Own.cell1Vec (i := 4) rfl hw) (fun hc3_ => ?_)
  refine l_stN (cs := [.int .u64 (0 : Nat), .int .u64 (0 : Nat), .slice none 0 0, .slice none 0 0, .slice none 0 0]) (vs := [.int .u64 (i2_ : Nat), .int .u64 (t3_ : Nat), r14_, r26_, dv8_]) 0 rfl rfl rfl (by kernel_rfl) (allc_cons rfl (allc_cons rfl (allc_cons hc1_ (allc_cons hc2_ (allc_cons hc3_ allc_nil))))) (Nat.le_of_ble_eq_true rfl) ?_
  refine l_as rfl ?_
  refine l_end ?_
  exact c_ret (retc2 (cs := [.int .u64 (i2_ : Nat), .int .u64 (t3_ : Nat), r14_, r26_, dv8_]) (v := .int .i64 e10_) rfl rfl rfl (by kernel_rfl) (Own.rowCells (i := 0) rfl) (fun w' hw => ⟨i2_, t3_, r14_, l15_, r26_, l27_, dv8_, dl9_, e10_, rfl, hf1_2, hf1_2_1, hf1_2_2, hf1_2_3, hw.sel [2, 3, 4] rfl (by decide)⟩))
theorem rtoSht_s (v : Value) (b : List UInt8) (w : World) (hl : b.length ≤ 1000000000) (hb : Rd w [] (Res.sl v b.length (b.map vb))) : Rets Try.prog 44 #[v] w fun u_ w' => ∃ (i : Nat) (t : Nat) (r1 : Value) (l1 : List Int) (r2 : Value) (l2 : List Int) (dv : Value) (dl : List UInt8) (f : Bool), u_ = .tuple #[.agg #[.int .u64 (i : Nat), .int .u64 (t : Nat), r1, r2, dv], .bool f] ∧ RefPost (decSht b) (⟨i, t, ⟨l1, l2⟩, dl⟩ : ShtA) f ∧ (i < 18446744073709551616 ∧ t < 18446744073709551616) ∧ (l1.length ≤ 16 ∧ l2.length ≤ 16) ∧ dl.length ≤ b.length ∧ Own w [] [Res.vec 3 1 r1 l1.length (l1.flatMap I1), Res.vec 3 1 r2 l2.length (l2.flatMap I1), Res.vec 5 1 dv dl.length (dl.map vb)] w' := by
  refine fn_enter (args := [v]) Try.func44 rfl Try.ntmps44 rfl (Own.start w) ?_
  refine c_reg ?_
  refine l_new (v := .agg #[.int .u64 (0 : Nat), .int .u64 (0 : Nat), .slice none 0 0, .slice none 0 0, .slice none 0 0]) (by kernel_rfl) rfl (fun b2 => ?_)
  refine l_as rfl ?_
  refine l_end ?_
  refine c_reg ?_
  refine l_mv rfl ?_
  refine l_bldc (cs := [v, .int .i64 0, .bool false]) (z := [.slice none 0 0, .int .i64 0, .bool false]) (pl := [(0, 1), (1, 1), (2, 1)]) (by kernel_rfl) ⟨(Sl.cell1 (Rd.φ hb)), trivial⟩ rfl rfl ?_
  refine l_box rfl rfl (fun b8 => ?_)
  refine l_as rfl ?_
  refine l_end ?_
  refine c_reg ?_
  refine l_bld (cs := [.int .u64 (0 : Nat), .int .u64 (0 : Nat), .slice none 0 0, .slice none 0 0, .slice none 0 0]) (z := [.int .u64 (0 : Nat), .int .u64 (0 : Nat), .slice none 0 0, .slice none 0 0, .slice none 0 0]) (pl := [(0, 1), (1, 1), (2, 2), (4, 1)]) (by kernel_rfl) rfl rfl ?_
  refine l_new (v := .agg #[.int .u64 (0 : Nat), .int .u64 (0 : Nat), .slice none 0 0, .slice none 0 0, .slice none 0 0]) (by kernel_rfl) rfl (fun b5 => ?_)
  refine l_stN (cs := [.int .u64 (0 : Nat), .int .u64 (0 : Nat), .slice none 0 0, .slice none 0 0, .slice none 0 0]) (vs := [.int .u64 (0 : Nat), .int .u64 (0 : Nat), .slice none 0 0, .slice none 0 0, .slice none 0 0]) 2 rfl rfl rfl (by kernel_rfl) (allc_cons rfl (allc_cons rfl (allc_cons rfl (allc_cons rfl (allc_cons rfl allc_nil))))) (Nat.le_of_ble_eq_true rfl) ?_
  refine l_end ?_
  refine c_reg ?_
  refine l_mv rfl ?_
  refine l_call (by kernel_rfl) rfl rfl (fun w' hw => ?_)
  refine (rinNum_s b8 v b 0 false w' (by first | assumption | omega | (simp <;> omega) | (constructor <;> (first | omega | (simp only [LenOk]; omega) | (simp <;> omega)))) (by first | assumption | omega | (simp <;> omega) | (constructor <;> (first | omega | (simp only [LenOk]; omega) | (simp <;> omega)))) (hw.rdTo hb [1] rfl) (hw.give [1] rfl (by decide))).mono ?_
  rintro _ w1 ⟨n1_, a'2_, bad'3_, rfl, hf3_1, hf3_1_1, hO⟩
  have hq1 := hf3_1.le
  refine (?_ : CL _ _ _ _ _ _ (Own w [] [Res.row b2 55 [.int .u64 (0 : Nat), .int .u64 (0 : Nat), .slice none 0 0, .slice none 0 0, .slice none 0 0], Res.row b5 55 [.int .u64 (0 : Nat), .int .u64 (0 : Nat), .slice none 0 0, .slice none 0 0, .slice none 0 0], Res.row b8 162 [v, .int .i64 (a'2_ : Nat), .bool bad'3_]])) w1 (hw.frameL [1] rfl hO)
  refine l_fld (o := 0) rfl (by kernel_rfl) rfl ?_
  refine l_st (cs := [.int .u64 (0 : Nat), .int .u64 (0 : Nat), .slice none 0 0, .slice none 0 0, .slice none 0 0]) 1 rfl rfl rfl (by kernel_rfl) rfl (Nat.le_of_ble_eq_true rfl) ?_
  refine l_end ?_
  refine c_reg ?_
  refine l_mv rfl ?_
  refine l_call (by kernel_rfl) rfl rfl (fun w' hw => ?_)
  refine (rinNum_s b8 v b a'2_ bad'3_ w' (by first | assumption | omega | (simp <;> omega) | (constructor <;> (first | omega | (simp only [LenOk]; omega) | (simp <;> omega)))) (by first | assumption | omega | (simp <;> omega) | (constructor <;> (first | omega | (simp only [LenOk]; omega) | (simp <;> omega)))) (hw.rdTo hb [2] rfl) (hw.give [2] rfl (by decide))).mono ?_
  rintro _ w1 ⟨n4_, a'5_, bad'6_, rfl, hf4_1, hf4_1_1, hO⟩
  have hq2 := hf4_1.le
  refine (?_ : CL _ _ _ _ _ _ (Own w [] [Res.row b2 55 [.int .u64 (0 : Nat), .int .u64 (0 : Nat), .slice none 0 0, .slice none 0 0, .slice none 0 0], Res.row b5 55 [.int .u64 (n1_ : Nat), .int .u64 (0 : Nat), .slice none 0 0, .slice none 0 0, .slice none 0 0], Res.row b8 162 [v, .int .i64 (a'5_ : Nat), .bool bad'6_]])) w1 (hw.frameL [2] rfl hO)
  refine l_fld (o := 1) rfl (by kernel_rfl) rfl ?_
  refine l_st (cs := [.int .u64 (n1_ : Nat), .int .u64 (0 : Nat), .slice none 0 0, .slice none 0 0, .slice none 0 0]) 1 rfl rfl rfl (by kernel_rfl) rfl (Nat.le_of_ble_eq_true rfl) ?_
  refine l_end ?_
  refine c_reg ?_
  refine l_mv rfl ?_
  refine l_call (by kernel_rfl) rfl rfl (fun w' hw => ?_)
  refine (rconfRead_s b8 v b a'5_ bad'6_ w' (by first | assumption | omega | (simp <;> omega) | (constructor <;> (first | omega | (simp only [LenOk]; omega) | (simp <;> omega)))) (by first | assumption | omega | (simp <;> omega) | (constructor <;> (first | omega | (simp only [LenOk]; omega) | (simp <;> omega)))) (hw.rdTo hb [2] rfl) (hw.give [2] rfl (by decide))).mono ?_
  rintro _ w1 ⟨r17_, l18_, r29_, l210_, a'11_, bad'12_, rfl, hf5_1, hf5_1_1, hf5_1_2, hO⟩
  have hq3 := hf5_1.le
  refine (?_ : CL _ _ _ _ _ _ (Own w [] [Res.row b2 55 [.int .u64 (0 : Nat), .int .u64 (0 : Nat), .slice none 0 0, .slice none 0 0, .slice none 0 0], Res.row b5 55 [.int .u64 (n1_ : Nat), .int .u64 (n4_ : Nat), .slice none 0 0, .slice none 0 0, .slice none 0 0], Res.row b8 162 [v, .int .i64 (a'11_ : Nat), .bool bad'12_], Res.vec 3 1 r17_ l18_.length (l18_.flatMap I1), Res.vec 3 1 r29_ l210_.length (l210_.flatMap I1)])) w1 (hw.frameL [2] rfl hO)
  refine l_fld (o := 2) rfl (by kernel_rfl) rfl ?_
  refine l_haveO (fun w' hw => Own.cell1Vec (i := 3) rfl hw) (fun hc1_ => ?_)
  refine l_haveO (fun w' hw => Own.cell1Vec (i := 4) rfl hw) (fun hc2_ => ?_)
  refine l_stN (cs := [.int .u64 (n1_ : Nat), .int .u64 (n4_ : Nat), .slice none 0 0, .slice none 0 0, .slice none 0 0]) (vs := [r17_, r29_]) 1 rfl rfl rfl (by kernel_rfl) (allc_cons hc1_ (allc_cons hc2_ allc_nil)) (Nat.le_of_ble_eq_true rfl) ?_
  refine l_end ?_
  refine c_reg ?_
  refine l_mv rfl ?_
  refine l_call (by kernel_rfl) rfl rfl (fun w' hw => ?_)
  refine (rinData_s b8 v b a'11_ bad'12_ w' (by first | assumption | omega | (simp <;> omega) | (constructor <;> (first | omega | (simp only [LenOk]; omega) | (simp <;> omega)))) (by first | assumption | omega | (simp <;> omega) | (constructor <;> (first | omega | (simp only [LenOk]; omega) | (simp <;> omega)))) (hw.rdTo hb [2] rfl) (hw.give [2] rfl (by decide))).mono ?_
  rintro r13_ w1 ⟨_, d14_, a'15_, bad'16_, rfl, hf6_1, hf6_1_1, hO⟩
  have hR : RdS pSht b 0 false (⟨n1_, n4_, ⟨l18_, l210_⟩, d14_⟩ : ShtA) a'15_ bad'16_ := hf3_1.bind (hf4_1.bind (hf5_1.bind (hf6_1.bind (RdS.pure _ hf6_1.le))))
  refine (?_ : CL _ _ _ _ _ _ (Own w [] [Res.row b2 55 [.int .u64 (0 : Nat), .int .u64 (0 : Nat), .slice none 0 0, .slice none 0 0, .slice none 0 0], Res.row b5 55 [.int .u64 (n1_ : Nat), .int .u64 (n4_ : Nat), r17_, r29_, .slice none 0 0], Res.vec 3 1 r17_ l18_.length (l18_.flatMap I1), Res.vec 3 1 r29_ l210_.length (l210_.flatMap I1), Res.row b8 162 [v, .int .i64 (a'15_ : Nat), .bool bad'16_], Res.vec 5 1 r13_ d14_.length (d14_.map vb)])) w1 (hw.frameL [2] rfl hO)
  refine l_fld (o := 4) rfl (by kernel_rfl) rfl ?_
  refine l_haveO (fun w' hw => Own.cell1Vec (i := 5) rfl hw) (fun hc3_ => ?_)
  refine l_st (cs := [.int .u64 (n1_ : Nat), .int .u64 (n4_ : Nat), r17_, r29_, .slice none 0 0]) 1 rfl rfl rfl (by kernel_rfl) hc3_ (Nat.le_of_ble_eq_true rfl) ?_
  refine l_end ?_
  refine c_seq ?_
  refine c_heldo [1, 2, 3, 5] rfl (by decide) (by kernel_rfl) (fun w' hw hS => ?_)
  refine h_take 0 rfl (by kernel_rfl) (by kernel_rfl) (by kernel_rfl) (v_ldr (cs := [.int .u64 (n1_ : Nat), .int .u64 (n4_ : Nat), r17_, r29_, r13_]) 0 rfl rfl (by kernel_rfl)) rfl hS ?_
  refine h_take 1 rfl (by kernel_rfl) (by kernel_rfl) (by kernel_rfl) (v_mv) rfl hS ?_
  refine h_one 2 (by kernel_rfl) rfl hw ?_
  refine l_call (by kernel_rfl) rfl rfl (fun w' hw => ?_)
  refine (whole_s b8 v b a'15_ bad'16_ w' (by first | assumption | omega | (simp <;> omega) | (constructor <;> (first | omega | (simp only [LenOk]; omega) | (simp <;> omega)))) (hw.rdTo hb [4] rfl) (hw.give [4] rfl (by decide))).mono ?_
  rintro _ w1 ⟨rfl, hO⟩
  refine (?_ : CL _ _ _ _ _ _ (Own w [] [Res.row b2 55 [.int .u64 (0 : Nat), .int .u64 (0 : Nat), .slice none 0 0, .slice none 0 0, .slice none 0 0], Res.row b5 55 [.int .u64 (n1_ : Nat), .int .u64 (n4_ : Nat), r17_, r29_, r13_], Res.vec 3 1 r17_ l18_.length (l18_.flatMap I1), Res.vec 3 1 r29_ l210_.length (l210_.flatMap I1), Res.vec 5 1 r13_ d14_.length (d14_.map vb), Res.row b8 162 [v, .int .i64 (a'15_ : Nat), .bool bad'16_]])) w1 (hw.frameL [4] rfl hO)
  refine l_nil (fun w' hw => ?_)
  have hS := hw.sel [1, 2, 3, 4] rfl (by decide)
  refine ⟨hS, ?_⟩
  refine h_take 3 rfl (by kernel_rfl) (by kernel_rfl) (by kernel_rfl) (v_mv) rfl hS ?_
  by_cases g7_3 : bad'16_ = false ∧ a'15_ = b.length
  ·
    refine h_takeg 4 rfl rfl (gT g7_3) (by kernel_rfl) (by kernel_rfl) (by kernel_rfl) (v_ldr (cs := [.int .u64 (n1_ : Nat), .int .u64 (n4_ : Nat), r17_, r29_, r13_]) 0 rfl rfl (by kernel_rfl)) rfl hS ?_
    refine h_one 5 (by kernel_rfl) rfl hw ?_
    refine l_on rfl (gT g7_3) ?_
    refine l_call (by kernel_rfl) rfl rfl (fun w' hw => ?_)
    refine (rshtOK_s ({ index := n1_, term := n4_, conf := ({ vv := r17_, vs := l18_, lv := r29_, ls := l210_ } : ConfD), dv := r13_, data := d14_ } : ShtD) w' ⟨hf3_1_1, hf4_1_1, ⟨by have := hf5_1_1; dsimp only; omega, by have := hf5_1_2; dsimp only; omega⟩, by have := hf6_1_1; dsimp only; omega⟩ ⟨⟨(hw.rdVec0 2 rfl), (hw.rdVec0 3 rfl)⟩, (hw.rdVec0 4 rfl)⟩).mono ?_
    rintro _ w1 ⟨rfl, hO⟩
    refine (?_ : CL _ _ _ _ _ _ (Own w [] [Res.row b2 55 [.int .u64 (0 : Nat), .int .u64 (0 : Nat), .slice none 0 0, .slice none 0 0, .slice none 0 0], Res.row b5 55 [.int .u64 (n1_ : Nat), .int .u64 (n4_ : Nat), r17_, r29_, r13_], Res.vec 3 1 r17_ l18_.length (l18_.flatMap I1), Res.vec 3 1 r29_ l210_.length (l210_.flatMap I1), Res.vec 5 1 r13_ d14_.length (d14_.map vb), Res.row b8 162 [v, .int .i64 (a'15_ : Nat), .bool bad'16_]])) w1 (hw.frame0 hO)
    refine l_nil (fun w' hw => ?_)
    have hS := hw.sel [1, 2, 3, 4] rfl (by decide)
    refine ⟨hS, ?_⟩
    refine h_take 6 rfl (by kernel_rfl) (by kernel_rfl) (by kernel_rfl) (v_pickT (gT g7_3)) rfl hS ?_
    refine h_one 7 (by kernel_rfl) rfl hw ?_
    refine l_stN (cs := [.int .u64 (0 : Nat), .int .u64 (0 : Nat), .slice none 0 0, .slice none 0 0, .slice none 0 0]) (vs := [.int .u64 (n1_ : Nat), .int .u64 (n4_ : Nat), r17_, r29_, r13_]) 0 rfl rfl rfl (by kernel_rfl) (allc_cons rfl (allc_cons rfl (allc_cons hc1_ (allc_cons hc2_ (allc_cons hc3_ allc_nil))))) (Nat.le_of_ble_eq_true rfl) ?_
    refine l_nil (fun w' hw => ?_)
    have hS := hw.sel [1, 2, 3, 4] rfl (by decide)
    refine ⟨hS, ?_⟩
    refine h_take 8 rfl (by kernel_rfl) (by kernel_rfl) (by kernel_rfl) (v_as) rfl hS ?_
    refine h_done (by kernel_rfl) ?_
    refine (?_ : C _ _ _ _ _ _ _ (Own w [] [Res.row b2 55 [.int .u64 (n1_ : Nat), .int .u64 (n4_ : Nat), r17_, r29_, r13_], Res.row b5 55 [.int .u64 (n1_ : Nat), .int .u64 (n4_ : Nat), r17_, r29_, r13_], Res.vec 3 1 r17_ l18_.length (l18_.flatMap I1), Res.vec 3 1 r29_ l210_.length (l210_.flatMap I1), Res.vec 5 1 r13_ d14_.length (d14_.map vb), Res.row b8 162 [v, .int .i64 (a'15_ : Nat), .bool bad'16_]])) _ hw
    exact c_ret (retc2 (cs := [.int .u64 (n1_ : Nat), .int .u64 (n4_ : Nat), r17_, r29_, r13_]) (v := .bool (decide (({ index := n1_, term := n4_, conf := ({ vv := r17_, vs := l18_, lv := r29_, ls := l210_ } : ConfD), dv := r13_, data := d14_ } : ShtD).a.ok))) rfl rfl rfl (by kernel_rfl) (Own.rowCells (i := 0) rfl) (fun w' hw => ⟨n1_, n4_, r17_, l18_, r29_, l210_, r13_, d14_, (decide ({ index := n1_, term := n4_, conf := ({ vv := r17_, vs := l18_, lv := r29_, ls := l210_ } : ConfD), dv := r13_, data := d14_ } : ShtD).a.ok), rfl, RefPost.on hR g7_3 decide_eq_true_iff, ⟨hf3_1_1, hf4_1_1⟩, ⟨hf5_1_1, hf5_1_2⟩, hf6_1_1, hw.sel [2, 3, 4] rfl (by decide)⟩))
  ·
    refine h_offg 4 rfl rfl (gF g7_3) rfl (by kernel_rfl) (by kernel_rfl) (by kernel_rfl) rfl hS ?_
    refine h_offg 5 rfl rfl (gF g7_3) rfl (by kernel_rfl) (by kernel_rfl) (by kernel_rfl) rfl hS ?_
    refine h_take 6 rfl (by kernel_rfl) (by kernel_rfl) (by kernel_rfl) (v_pickF (gF g7_3)) rfl hS ?_
    refine h_one 7 (by kernel_rfl) rfl hw ?_
    refine l_stN (cs := [.int .u64 (0 : Nat), .int .u64 (0 : Nat), .slice none 0 0, .slice none 0 0, .slice none 0 0]) (vs := [.int .u64 (n1_ : Nat), .int .u64 (n4_ : Nat), r17_, r29_, r13_]) 0 rfl rfl rfl (by kernel_rfl) (allc_cons rfl (allc_cons rfl (allc_cons hc1_ (allc_cons hc2_ (allc_cons hc3_ allc_nil))))) (Nat.le_of_ble_eq_true rfl) ?_
    refine l_nil (fun w' hw => ?_)
    have hS := hw.sel [1, 2, 3, 4] rfl (by decide)
    refine ⟨hS, ?_⟩
    refine h_take 8 rfl (by kernel_rfl) (by kernel_rfl) (by kernel_rfl) (v_as) rfl hS ?_
    refine h_done (by kernel_rfl) ?_
    refine (?_ : C _ _ _ _ _ _ _ (Own w [] [Res.row b2 55 [.int .u64 (n1_ : Nat), .int .u64 (n4_ : Nat), r17_, r29_, r13_], Res.row b5 55 [.int .u64 (n1_ : Nat), .int .u64 (n4_ : Nat), r17_, r29_, r13_], Res.vec 3 1 r17_ l18_.length (l18_.flatMap I1), Res.vec 3 1 r29_ l210_.length (l210_.flatMap I1), Res.vec 5 1 r13_ d14_.length (d14_.map vb), Res.row b8 162 [v, .int .i64 (a'15_ : Nat), .bool bad'16_]])) _ hw
    exact c_ret (retc2 (cs := [.int .u64 (n1_ : Nat), .int .u64 (n4_ : Nat), r17_, r29_, r13_]) (v := .bool false) rfl rfl rfl (by kernel_rfl) (Own.rowCells (i := 0) rfl) (fun w' hw => ⟨n1_, n4_, r17_, l18_, r29_, l210_, r13_, d14_, false, rfl, RefPost.off hR g7_3, ⟨hf3_1_1, hf4_1_1⟩, ⟨hf5_1_1, hf5_1_2⟩, hf6_1_1, hw.sel [2, 3, 4] rfl (by decide)⟩))

theorem hrdRead_s (o : Nat) (v : Value) (b : List UInt8) (a : Nat) (bad : Bool) (w : World) (hl : LenOk b.length) (ha : a ≤ b.length) (hb : Rd w (fps [Res.row o 191 [v, .int .i64 (a : Nat), .bool bad]]) (Res.sl v b.length (b.map vb))) (hin : Own w (fps [Res.row o 191 [v, .int .i64 (a : Nat), .bool bad]]) [Res.row o 191 [v, .int .i64 (a : Nat), .bool bad]] w) : Rets Try.prog 136 #[.pointer (some ⟨o, 0, none⟩)] w fun u_ w' => ∃ (t : Nat) (k : Nat) (a' : Nat) (bad' : Bool), u_ = .agg #[.int .u64 (t : Nat), .int .i64 (k : Nat)] ∧ RdS pHrd b a bad (⟨t, (k : Int)⟩ : HrdD) a' bad' ∧ t < 18446744073709551616 ∧ k ≤ 16 ∧ Own w (fps [Res.row o 191 [v, .int .i64 (a : Nat), .bool bad]]) [Res.row o 191 [v, .int .i64 (a' : Nat), .bool bad']] w' := by
  refine fn_enter (args := [.pointer (some ⟨o, 0, none⟩)]) Try.func136 rfl Try.ntmps136 rfl (show Own w (fps [Res.row o 191 [v, .int .i64 (a : Nat), .bool bad]]) [Res.row o 191 [v, .int .i64 (a : Nat), .bool bad]] w from hin) ?_
  refine c_reg ?_
  refine l_new (v := .agg #[.int .u64 (0 : Nat), .int .i64 0]) (by kernel_rfl) rfl (fun b2 => ?_)
  refine l_end ?_
  refine c_reg ?_
  refine l_mv rfl ?_
  refine l_call (by kernel_rfl) rfl rfl (fun w' hw => ?_)
  refine (inNum_s o v b a bad w' (by first | assumption | omega | (simp <;> omega) | (constructor <;> (first | omega | (simp only [LenOk]; omega) | (simp <;> omega)))) (by first | assumption | omega | (simp <;> omega) | (constructor <;> (first | omega | (simp only [LenOk]; omega) | (simp <;> omega)))) (hw.rdTo hb [0] rfl) (hw.give [0] rfl (by decide))).mono ?_
  rintro _ w1 ⟨n1_, a'2_, bad'3_, rfl, hf1_1, hf1_1_1, hO⟩
  have hq1 := hf1_1.le
  refine (?_ : CL _ _ _ _ _ _ (Own w (fps [Res.row o 191 [v, .int .i64 (a : Nat), .bool bad]]) [Res.row b2 57 [.int .u64 (0 : Nat), .int .i64 0], Res.row o 191 [v, .int .i64 (a'2_ : Nat), .bool bad'3_]])) w1 (hw.frameL [0] rfl hO)
  refine l_mv rfl ?_
  refine l_call (by kernel_rfl) rfl rfl (fun w' hw => ?_)
  refine (inUpto_s o v b a'2_ bad'3_ 16 w' (by first | assumption | omega | (simp <;> omega) | (constructor <;> (first | omega | (simp only [LenOk]; omega) | (simp <;> omega)))) (by first | assumption | omega | (simp <;> omega) | (constructor <;> (first | omega | (simp only [LenOk]; omega) | (simp <;> omega)))) (by first | assumption | omega | (simp <;> omega) | (constructor <;> (first | omega | (simp only [LenOk]; omega) | (simp <;> omega)))) (hw.rdTo hb [1] rfl) (hw.give [1] rfl (by decide))).mono ?_
  rintro _ w1 ⟨n4_, a'5_, bad'6_, rfl, hf1_3, hf1_3_1, hO⟩
  refine (?_ : CL _ _ _ _ _ _ (Own w (fps [Res.row o 191 [v, .int .i64 (a : Nat), .bool bad]]) [Res.row b2 57 [.int .u64 (0 : Nat), .int .i64 0], Res.row o 191 [v, .int .i64 (a'5_ : Nat), .bool bad'6_]])) w1 (hw.frameL [1] rfl hO)
  refine l_bld (cs := [.int .u64 (n1_ : Nat), .int .i64 (n4_ : Nat)]) (z := [.int .u64 (0 : Nat), .int .i64 0]) (pl := [(0, 1), (1, 1)]) (by kernel_rfl) rfl rfl ?_
  refine l_stN (cs := [.int .u64 (0 : Nat), .int .i64 0]) (vs := [.int .u64 (n1_ : Nat), .int .i64 (n4_ : Nat)]) 0 rfl rfl rfl (by kernel_rfl) (allc_cons rfl (allc_cons rfl allc_nil)) (Nat.le_of_ble_eq_true rfl) ?_
  refine l_end ?_
  exact c_ret (retc (cs := [.int .u64 (n1_ : Nat), .int .i64 (n4_ : Nat)]) rfl rfl (by kernel_rfl) (Own.rowCells (i := 0) rfl) (fun w' hw => ⟨n1_, n4_, a'5_, bad'6_, rfl, hf1_1.bind (RdS.bind hf1_3.int (RdS.pure _ hf1_3.le)), hf1_1_1, hf1_3_1, hw.sel [1] rfl (by decide)⟩))
theorem hrdValue_s (v : Value) (b : List UInt8) (w : World) (hl : b.length ≤ 1000000000) (hb : Rd w [] (Res.sl v b.length (b.map vb))) : Rets Try.prog 90 #[.agg #[.func (.func 134) #[] #[], .func (.func 135) #[] #[], .func (.func 136) #[] #[]], v] w fun u_ w' => ∃ (t : Nat) (k : Int) (e : Int), u_ = .tuple #[.agg #[.int .u64 (t : Nat), .int .i64 k], .int .i64 e] ∧ ValPost (decHrd b) (⟨t, k⟩ : HrdD) ⟨0, 0⟩ e ∧ t < 18446744073709551616 ∧ Own w [] [] w' := by
  refine fn_enter (args := [.agg #[.func (.func 134) #[] #[], .func (.func 135) #[] #[], .func (.func 136) #[] #[]], v]) Try.func90 rfl Try.ntmps90 rfl (Own.start w) ?_
  refine c_reg ?_
  refine l_box rfl rfl (fun b2 => ?_)
  refine l_new (v := .agg #[.int .u64 (0 : Nat), .int .i64 0]) (by kernel_rfl) rfl (fun b4 => ?_)
  refine l_as rfl ?_
  refine l_end ?_
  refine c_reg ?_
  refine l_mv rfl ?_
  refine l_bldc (cs := [v, .int .i64 0, .bool false]) (z := [.slice none 0 0, .int .i64 0, .bool false]) (pl := [(0, 1), (1, 1), (2, 1)]) (by kernel_rfl) ⟨(Sl.cell1 (Rd.φ hb)), trivial⟩ rfl rfl ?_
  refine l_box rfl rfl (fun b10 => ?_)
  refine l_as rfl ?_
  refine l_end ?_
  refine c_reg ?_
  refine l_fld (o := 2) rfl (by kernel_rfl) rfl ?_
  refine l_ldo 0 (v := .func (.func 136) #[] #[]) rfl rfl rfl (by kernel_rfl) rfl ?_
  refine l_mv rfl ?_
  refine l_callv (fst := []) (cap := []) rfl (by kernel_rfl) rfl rfl (fun w' hw => ?_)
  refine (hrdRead_s b10 v b 0 false w' (by first | assumption | omega | (simp <;> omega) | (constructor <;> (first | omega | (simp only [LenOk]; omega) | (simp <;> omega)))) (by first | assumption | omega | (simp <;> omega) | (constructor <;> (first | omega | (simp only [LenOk]; omega) | (simp <;> omega)))) (hw.rdTo hb [2] rfl) (hw.give [2] rfl (by decide))).mono ?_
  rintro _ w1 ⟨t1_, k2_, a'3_, bad'4_, rfl, hf2_3, hf2_3_1, hf2_3_2, hO⟩
  refine (?_ : CL _ _ _ _ _ _ (Own w [] [Res.row b2 154 [.func (.func 134) #[] #[], .func (.func 135) #[] #[], .func (.func 136) #[] #[]], Res.row b4 57 [.int .u64 (0 : Nat), .int .i64 0], Res.row b10 191 [v, .int .i64 (a'3_ : Nat), .bool bad'4_]])) w1 (hw.frameL [2] rfl hO)
  refine l_stN (cs := [.int .u64 (0 : Nat), .int .i64 0]) (vs := [.int .u64 (t1_ : Nat), .int .i64 (k2_ : Nat)]) 1 rfl rfl rfl (by kernel_rfl) (allc_cons rfl (allc_cons rfl allc_nil)) (Nat.le_of_ble_eq_true rfl) ?_
  refine l_end ?_
  refine c_seq ?_
  refine c_reg ?_
  refine l_mv rfl ?_
  refine l_nck rfl rfl ?_
  refine l_fld (o := 2) rfl (by kernel_rfl) rfl ?_
  refine l_ldo 2 (v := .bool bad'4_) rfl rfl rfl (by kernel_rfl) rfl ?_
  refine l_mv rfl ?_
  refine l_bor (q := bad'4_ = true) 7 4 [26, 25, 24, 23, 22, 21, 20] (((a'3_ : Nat) : Int) ≠ ((b.length : Nat) : Int)) rfl rfl (bool_dec _) rfl rfl rfl trivial rfl (fun h3_4 => ?_) (fun g3_12 => ?_)
  ·
    refine l_on rfl (bF h3_4) ?_
    refine l_mv rfl ?_
    refine l_on rfl (bF h3_4) ?_
    refine l_nck rfl rfl ?_
    refine l_on rfl (bF h3_4) ?_
    refine l_fld (o := 1) rfl (by kernel_rfl) rfl ?_
    refine l_on rfl (bF h3_4) ?_
    refine l_ldo 2 (v := .int .i64 (a'3_ : Nat)) rfl rfl rfl (by kernel_rfl) rfl ?_
    refine l_on rfl (bF h3_4) ?_
    refine l_mv rfl ?_
    refine l_on rfl (bF h3_4) ?_
    refine l_lenS (len := b.length) (cs := (b.map vb)) (by kernel_rfl) rfl (fun w' hw' => Own.rd hb hw') rfl ?_
    refine l_on rfl (bF h3_4) ?_
    refine l_ne rfl rfl rfl ?_
    exact l_nil (fun w' hw => ⟨(by repeat (first | exact Out.refl _ _ | refine Out.upd rfl ?_ | refine Out.msk rfl ?_)), rfl, hw⟩)
  refine l_mv rfl ?_
  refine l_bor (q := (bad'4_ = true) ∨ (((a'3_ : Nat) : Int) ≠ ((b.length : Nat) : Int))) 5 13 [33, 32, 31, 30, 29] (¬ (({ term := t1_, vote := ((k2_ : Nat) : Int) } : HrdD).ok)) rfl rfl rfl rfl rfl rfl trivial rfl (fun h3_13 => ?_) (fun g3_19 => ?_)
  ·
    refine l_on rfl (gF h3_13) ?_
    refine l_fld (o := 0) rfl (by kernel_rfl) rfl ?_
    refine l_on rfl (gF h3_13) ?_
    refine l_ldo 0 (v := .func (.func 134) #[] #[]) rfl rfl rfl (by kernel_rfl) rfl ?_
    refine l_on rfl (gF h3_13) ?_
    refine l_ldr (cs := [.int .u64 (t1_ : Nat), .int .i64 (k2_ : Nat)]) 1 rfl rfl (by kernel_rfl) rfl ?_
    refine l_on rfl (gF h3_13) ?_
    refine l_callv (fst := []) (cap := []) rfl (by kernel_rfl) rfl rfl (fun w' hw => ?_)
    refine (hrdSound_s ({ term := t1_, vote := ((k2_ : Nat) : Int) } : HrdD) w').mono ?_
    rintro _ w1 ⟨rfl, hO⟩
    refine (?_ : CL _ _ _ _ _ _ (Own w [] [Res.row b2 154 [.func (.func 134) #[] #[], .func (.func 135) #[] #[], .func (.func 136) #[] #[]], Res.row b4 57 [.int .u64 (t1_ : Nat), .int .i64 (k2_ : Nat)], Res.row b10 191 [v, .int .i64 (a'3_ : Nat), .bool bad'4_]])) w1 (hw.frame0 hO)
    refine l_on rfl (gF h3_13) ?_
    refine l_notp (q := ({ term := t1_, vote := ((k2_ : Nat) : Int) } : HrdD).ok) rfl rfl ?_
    exact l_nil (fun w' hw => ⟨(by repeat (first | exact Out.refl _ _ | refine Out.upd rfl ?_ | refine Out.msk rfl ?_)), rfl, hw⟩)
  refine l_end ?_
  refine c_dec rfl (fun c1 => ?_) (fun c1 => ?_)
  ·
    refine c_reg ?_
    refine l_new (v := .agg #[.int .u64 (0 : Nat), .int .i64 0]) (by kernel_rfl) rfl (fun b7 => ?_)
    refine l_end ?_
    refine c_reg ?_
    refine l_ldr (cs := [.int .u64 (0 : Nat), .int .i64 0]) 3 rfl rfl (by kernel_rfl) rfl ?_
    refine l_stN (cs := [.int .u64 (t1_ : Nat), .int .i64 (k2_ : Nat)]) (vs := [.int .u64 (0 : Nat), .int .i64 0]) 1 rfl rfl rfl (by kernel_rfl) (allc_cons rfl (allc_cons rfl allc_nil)) (Nat.le_of_ble_eq_true rfl) ?_
    refine l_as rfl ?_
    refine l_end ?_
    exact c_ret (retc2 (cs := [.int .u64 (0 : Nat), .int .i64 0]) (v := .int .i64 4) rfl rfl rfl (by kernel_rfl) (Own.rowCells (i := 1) rfl) (fun w' hw => ⟨0, 0, 4, rfl, .inr ⟨rfl, whole_no hf2_3 (fun h1 h2 h3 => c1.elim (fun h => h.elim (fun h => (by rw [h1] at h; cases h)) (fun h => h (by omega))) (fun h => h h3)), rfl⟩, (by omega), hw.drop⟩))
  ·
    refine c_skipC ?_
    refine c_reg ?_
    refine l_ldr (cs := [.int .u64 (t1_ : Nat), .int .i64 (k2_ : Nat)]) 1 rfl rfl (by kernel_rfl) rfl ?_
    refine l_stN (cs := [.int .u64 (t1_ : Nat), .int .i64 (k2_ : Nat)]) (vs := [.int .u64 (t1_ : Nat), .int .i64 (k2_ : Nat)]) 1 rfl rfl rfl (by kernel_rfl) (allc_cons rfl (allc_cons rfl allc_nil)) (Nat.le_of_ble_eq_true rfl) ?_
    refine l_as rfl ?_
    refine l_end ?_
    exact c_ret (retc2 (cs := [.int .u64 (t1_ : Nat), .int .i64 (k2_ : Nat)]) (v := .int .i64 0) rfl rfl rfl (by kernel_rfl) (Own.rowCells (i := 1) rfl) (fun w' hw => ⟨t1_, ((k2_ : Nat) : Int), 0, rfl, .inl ⟨rfl, whole_yes hf2_3 (by cases h : bad'4_; rfl; exact absurd (.inl (.inl h)) c1) (by have : ¬ (a'3_ : Int) ≠ b.length := fun h => c1 (.inl (.inr h)); omega) (Decidable.not_not.1 fun h => c1 (.inr h))⟩, hf2_3_1, hw.drop⟩))
theorem toHrd_s (v : Value) (b : List UInt8) (w : World) (hl : b.length ≤ 1000000000) (hb : Rd w [] (Res.sl v b.length (b.map vb))) : Rets Try.prog 45 #[v] w fun u_ w' => ∃ (t : Nat) (k : Int) (e : Int), u_ = .tuple #[.agg #[.int .u64 (t : Nat), .int .i64 k], .int .i64 e] ∧ ValPost (decHrd b) (⟨t, k⟩ : HrdD) ⟨0, 0⟩ e ∧ t < 18446744073709551616 ∧ Own w [] [] w' := by
  refine fn_enter (args := [v]) Try.func45 rfl Try.ntmps45 rfl (Own.start w) ?_
  refine c_reg ?_
  refine l_new (v := .agg #[.int .u64 (0 : Nat), .int .i64 0]) (by kernel_rfl) rfl (fun b2 => ?_)
  refine l_as rfl ?_
  refine l_end ?_
  refine c_reg ?_
  refine l_call (by kernel_rfl) rfl rfl (fun w' hw => ?_)
  refine (hards_s w').mono ?_
  rintro _ w1 ⟨rfl, hO⟩
  refine (?_ : CL _ _ _ _ _ _ (Own w [] [Res.row b2 57 [.int .u64 (0 : Nat), .int .i64 0]])) w1 (hw.frame0 hO)
  refine l_mv rfl ?_
  refine l_call (by kernel_rfl) rfl rfl (fun w' hw => ?_)
  refine (hrdValue_s v b w' (by first | assumption | omega | (simp <;> omega) | (constructor <;> (first | omega | (simp only [LenOk]; omega) | (simp <;> omega)))) (hw.rd0 hb)).mono ?_
  rintro _ w1 ⟨t1_, k2_, e3_, rfl, hf1_2, hf1_2_1, hO⟩
  refine (?_ : CL _ _ _ _ _ _ (Own w [] [Res.row b2 57 [.int .u64 (0 : Nat), .int .i64 0]])) w1 (hw.frame0 hO)
  refine l_ext (vs := [.agg #[.int .u64 (t1_ : Nat), .int .i64 k2_], .int .i64 e3_]) rfl rfl rfl ?_
  refine l_ext (vs := [.agg #[.int .u64 (t1_ : Nat), .int .i64 k2_], .int .i64 e3_]) rfl rfl rfl ?_
  refine l_stN (cs := [.int .u64 (0 : Nat), .int .i64 0]) (vs := [.int .u64 (t1_ : Nat), .int .i64 k2_]) 0 rfl rfl rfl (by kernel_rfl) (allc_cons rfl (allc_cons rfl allc_nil)) (Nat.le_of_ble_eq_true rfl) ?_
  refine l_as rfl ?_
  refine l_end ?_
  exact c_ret (retc2 (cs := [.int .u64 (t1_ : Nat), .int .i64 k2_]) (v := .int .i64 e3_) rfl rfl rfl (by kernel_rfl) (Own.rowCells (i := 0) rfl) (fun w' hw => ⟨t1_, k2_, e3_, rfl, hf1_2, hf1_2_1, hw.drop⟩))
theorem RefPost.whole {α : Type} {p : List UInt8 → Nat → Option (α × Nat)} {ok : α → Prop} [DecidablePred ok] {b : List UInt8} {x : α} {a : Nat} {bad : Bool} (h : RdS p b 0 false x a bad) (hok : ok x) : RefPost (whole p ok b) x (decide (bad = false ∧ a = b.length)) :=
  ⟨fun q => (by have := of_decide_eq_true q; exact whole_yes h this.1 this.2 hok), fun q => whole_no h fun h1 h2 _ => of_decide_eq_false q ⟨h1, h2⟩⟩
theorem rtoHrd_s (v : Value) (b : List UInt8) (w : World) (hl : b.length ≤ 1000000000) (hb : Rd w [] (Res.sl v b.length (b.map vb))) : Rets Try.prog 46 #[v] w fun u_ w' => ∃ (t : Nat) (k : Int) (f : Bool), u_ = .tuple #[.agg #[.int .u64 (t : Nat), .int .i64 k], .bool f] ∧ RefPost (decHrd b) (⟨t, k⟩ : HrdD) f ∧ t < 18446744073709551616 ∧ Own w [] [] w' := by
  refine fn_enter (args := [v]) Try.func46 rfl Try.ntmps46 rfl (Own.start w) ?_
  refine c_reg ?_
  refine l_new (v := .agg #[.int .u64 (0 : Nat), .int .i64 0]) (by kernel_rfl) rfl (fun b2 => ?_)
  refine l_as rfl ?_
  refine l_end ?_
  refine c_reg ?_
  refine l_mv rfl ?_
  refine l_bldc (cs := [v, .int .i64 0, .bool false]) (z := [.slice none 0 0, .int .i64 0, .bool false]) (pl := [(0, 1), (1, 1), (2, 1)]) (by kernel_rfl) ⟨(Sl.cell1 (Rd.φ hb)), trivial⟩ rfl rfl ?_
  refine l_box rfl rfl (fun b8 => ?_)
  refine l_as rfl ?_
  refine l_end ?_
  refine c_reg ?_
  refine l_bld (cs := [.int .u64 (0 : Nat), .int .i64 0]) (z := [.int .u64 (0 : Nat), .int .i64 0]) (pl := [(0, 1), (1, 1)]) (by kernel_rfl) rfl rfl ?_
  refine l_new (v := .agg #[.int .u64 (0 : Nat), .int .i64 0]) (by kernel_rfl) rfl (fun b5 => ?_)
  refine l_stN (cs := [.int .u64 (0 : Nat), .int .i64 0]) (vs := [.int .u64 (0 : Nat), .int .i64 0]) 2 rfl rfl rfl (by kernel_rfl) (allc_cons rfl (allc_cons rfl allc_nil)) (Nat.le_of_ble_eq_true rfl) ?_
  refine l_end ?_
  refine c_reg ?_
  refine l_mv rfl ?_
  refine l_call (by kernel_rfl) rfl rfl (fun w' hw => ?_)
  refine (rinNum_s b8 v b 0 false w' (by first | assumption | omega | (simp <;> omega) | (constructor <;> (first | omega | (simp only [LenOk]; omega) | (simp <;> omega)))) (by first | assumption | omega | (simp <;> omega) | (constructor <;> (first | omega | (simp only [LenOk]; omega) | (simp <;> omega)))) (hw.rdTo hb [1] rfl) (hw.give [1] rfl (by decide))).mono ?_
  rintro _ w1 ⟨n1_, a'2_, bad'3_, rfl, hf3_1, hf3_1_1, hO⟩
  have hq1 := hf3_1.le
  refine (?_ : CL _ _ _ _ _ _ (Own w [] [Res.row b2 57 [.int .u64 (0 : Nat), .int .i64 0], Res.row b5 57 [.int .u64 (0 : Nat), .int .i64 0], Res.row b8 162 [v, .int .i64 (a'2_ : Nat), .bool bad'3_]])) w1 (hw.frameL [1] rfl hO)
  refine l_fld (o := 0) rfl (by kernel_rfl) rfl ?_
  refine l_st (cs := [.int .u64 (0 : Nat), .int .i64 0]) 1 rfl rfl rfl (by kernel_rfl) rfl (Nat.le_of_ble_eq_true rfl) ?_
  refine l_end ?_
  refine c_reg ?_
  refine l_mv rfl ?_
  refine l_call (by kernel_rfl) rfl rfl (fun w' hw => ?_)
  refine (rinInt_s b8 v b a'2_ bad'3_ 16 w' (by first | assumption | omega | (simp <;> omega) | (constructor <;> (first | omega | (simp only [LenOk]; omega) | (simp <;> omega)))) (by first | assumption | omega | (simp <;> omega) | (constructor <;> (first | omega | (simp only [LenOk]; omega) | (simp <;> omega)))) (by first | assumption | omega | (simp <;> omega) | (constructor <;> (first | omega | (simp only [LenOk]; omega) | (simp <;> omega)))) (hw.rdTo hb [2] rfl) (hw.give [2] rfl (by decide))).mono ?_
  rintro _ w1 ⟨n4_, a'5_, bad'6_, rfl, hf4_1, hf4_1_1, hO⟩
  have hR : RdS pHrd b 0 false (⟨n1_, ((n4_ : Nat) : Int)⟩ : HrdD) a'5_ bad'6_ := hf3_1.bind (RdS.bind hf4_1.int (RdS.pure _ hf4_1.le))
  refine (?_ : CL _ _ _ _ _ _ (Own w [] [Res.row b2 57 [.int .u64 (0 : Nat), .int .i64 0], Res.row b5 57 [.int .u64 (n1_ : Nat), .int .i64 0], Res.row b8 162 [v, .int .i64 (a'5_ : Nat), .bool bad'6_]])) w1 (hw.frameL [2] rfl hO)
  refine l_fld (o := 1) rfl (by kernel_rfl) rfl ?_
  refine l_st (cs := [.int .u64 (n1_ : Nat), .int .i64 0]) 1 rfl rfl rfl (by kernel_rfl) rfl (Nat.le_of_ble_eq_true rfl) ?_
  refine l_end ?_
  refine c_seq ?_
  refine c_heldo [1] rfl (by decide) (by kernel_rfl) (fun w' hw hS => ?_)
  refine h_take 0 rfl (by kernel_rfl) (by kernel_rfl) (by kernel_rfl) (v_ldr (cs := [.int .u64 (n1_ : Nat), .int .i64 (n4_ : Nat)]) 0 rfl rfl (by kernel_rfl)) rfl hS ?_
  refine h_take 1 rfl (by kernel_rfl) (by kernel_rfl) (by kernel_rfl) (v_mv) rfl hS ?_
  refine h_one 2 (by kernel_rfl) rfl hw ?_
  refine l_call (by kernel_rfl) rfl rfl (fun w' hw => ?_)
  refine (whole_s b8 v b a'5_ bad'6_ w' (by first | assumption | omega | (simp <;> omega) | (constructor <;> (first | omega | (simp only [LenOk]; omega) | (simp <;> omega)))) (hw.rdTo hb [2] rfl) (hw.give [2] rfl (by decide))).mono ?_
  rintro _ w1 ⟨rfl, hO⟩
  refine (?_ : CL _ _ _ _ _ _ (Own w [] [Res.row b2 57 [.int .u64 (0 : Nat), .int .i64 0], Res.row b5 57 [.int .u64 (n1_ : Nat), .int .i64 (n4_ : Nat)], Res.row b8 162 [v, .int .i64 (a'5_ : Nat), .bool bad'6_]])) w1 (hw.frameL [2] rfl hO)
  refine l_nil (fun w' hw => ?_)
  have hS := hw.sel [1] rfl (by decide)
  refine ⟨hS, ?_⟩
  refine h_one 3 (by kernel_rfl) rfl hw ?_
  refine l_stN (cs := [.int .u64 (0 : Nat), .int .i64 0]) (vs := [.int .u64 (n1_ : Nat), .int .i64 (n4_ : Nat)]) 0 rfl rfl rfl (by kernel_rfl) (allc_cons rfl (allc_cons rfl allc_nil)) (Nat.le_of_ble_eq_true rfl) ?_
  refine l_nil (fun w' hw => ?_)
  have hS := hw.sel [1] rfl (by decide)
  refine ⟨hS, ?_⟩
  refine h_take 4 rfl (by kernel_rfl) (by kernel_rfl) (by kernel_rfl) (v_as) rfl hS ?_
  refine h_done (by kernel_rfl) ?_
  refine (?_ : C _ _ _ _ _ _ _ (Own w [] [Res.row b2 57 [.int .u64 (n1_ : Nat), .int .i64 (n4_ : Nat)], Res.row b5 57 [.int .u64 (n1_ : Nat), .int .i64 (n4_ : Nat)], Res.row b8 162 [v, .int .i64 (a'5_ : Nat), .bool bad'6_]])) _ hw
  exact c_ret (retc2 (cs := [.int .u64 (n1_ : Nat), .int .i64 (n4_ : Nat)]) (v := .bool (decide (bad'6_ = false ∧ a'5_ = b.length))) rfl rfl rfl (by kernel_rfl) (Own.rowCells (i := 0) rfl) (fun w' hw => ⟨n1_, ((n4_ : Nat) : Int), decide (bad'6_ = false ∧ a'5_ = b.length), rfl, RefPost.whole hR ⟨Int.natCast_nonneg _, Int.ofNat_le.2 hf4_1_1⟩, hf3_1_1, hw.drop⟩))

theorem entA_eq {x y : EntA} : x = y ↔ (((((x.index : Nat) : Int) = ((y.index : Nat) : Int) ∧ ((x.term : Nat) : Int) = ((y.term : Nat) : Int)) ∧ x.kind = y.kind) ∧ x.delta = y.delta) ∧ (⟨x.data.toArray⟩ : ByteArray) = ⟨y.data.toArray⟩ := by
  rw [str_eq]; cases x; cases y; simp only [EntA.mk.injEq, Int.ofNat_inj, and_assoc]
theorem shtA_eq {x y : ShtD} : x.a = y.a ↔ ((((x.index : Nat) : Int) = ((y.index : Nat) : Int) ∧ ((x.term : Nat) : Int) = ((y.term : Nat) : Int)) ∧ (x.conf.vs = y.conf.vs ∧ x.conf.ls = y.conf.ls)) ∧ (⟨x.data.toArray⟩ : ByteArray) = ⟨y.data.toArray⟩ := by
  rw [str_eq]; simp only [ShtD.a, ConfD.a, ShtA.mk.injEq, ConfA.mk.injEq, Int.ofNat_inj, and_assoc]
theorem reads_s (e : Int) (f : Bool) (w : World) (h1 : f = true → e = 0) (h2 : f = false → e = 4) : Rets Try.prog 47 #[.int .i64 e, .bool f] w fun u_ w' => u_ = .bool true ∧ Own w [] [] w' := by
  refine fn_enter (args := [.int .i64 e, .bool f]) Try.func47 rfl Try.ntmps47 rfl (Own.start w) ?_
  refine c_reg ?_
  refine l_as rfl ?_
  refine l_end ?_
  refine c_reg ?_
  refine l_mv rfl ?_
  refine l_mv rfl ?_
  refine l_band (q := f = true) 2 1 [8, 7] (e = 0) rfl rfl (bool_dec _) rfl rfl rfl trivial rfl (fun h1_1 => ?_) (fun g1_4 => ?_)
  ·
    refine l_on rfl (bT h1_1) ?_
    refine l_mv rfl ?_
    refine l_on rfl (bT h1_1) ?_
    refine l_eq rfl rfl rfl ?_
    exact l_nil (fun w' hw => ⟨(by repeat (first | exact Out.refl _ _ | refine Out.upd rfl ?_ | refine Out.msk rfl ?_)), rfl, hw⟩)
  refine l_mv rfl ?_
  refine l_bor (q := (f = true) ∧ (e = 0)) 6 5 [16, 15, 14, 13, 12, 11] (((!f) = true) ∧ (e = 4)) rfl rfl rfl rfl rfl rfl trivial rfl (fun h1_5 => ?_) (fun g1_12 => ?_)
  ·
    refine l_on rfl (gF h1_5) ?_
    refine l_mv rfl ?_
    refine l_on rfl (gF h1_5) ?_
    refine l_not (b := f) rfl rfl ?_
    refine l_on rfl (gF h1_5) ?_
    refine l_mv rfl ?_
    refine l_band (q := (!f) = true) 2 8 [15, 14] (e = 4) rfl rfl (bool_dec _) rfl rfl rfl ⟨_, rfl, rfl, gF h1_5⟩ rfl (fun h1_8 => ?_) (fun g1_11 => ?_)
    ·
      refine l_on rfl (bT h1_8) ?_
      refine l_mv rfl ?_
      refine l_on rfl (bT h1_8) ?_
      refine l_eq rfl rfl rfl ?_
      exact l_nil (fun w' hw => ⟨(by repeat (first | exact Out.refl _ _ | refine Out.upd rfl ?_ | refine Out.msk rfl ?_)), rfl, hw⟩)
    exact l_nil (fun w' hw => ⟨(by repeat (first | exact Out.refl _ _ | refine Out.upd rfl ?_ | refine Out.msk rfl ?_)), rfl, hw⟩)
  refine l_as rfl ?_
  refine l_end ?_
  exact c_ret (ret1 (v := .bool (decide (((f = true) ∧ (e = 0)) ∨ (((!f) = true) ∧ (e = 4))))) rfl rfl (fun w' hw => ⟨(by congr 1; rw [decide_eq_true_iff]; cases f; exact .inr ⟨rfl, h2 rfl⟩; exact .inl ⟨rfl, h1 rfl⟩), hw.drop⟩))
theorem sameEnt_s (x y : EntD) (w : World) (hx : x.data.length ≤ 1000000000) (hy : y.data.length ≤ 1000000000) (rd_x : EntD.rd x w []) (rd_y : EntD.rd y w []) : Rets Try.prog 48 #[.agg (EntD.cells x).toArray, .agg (EntD.cells y).toArray] w fun u_ w' => u_ = .bool (decide (x.toEntA = y.toEntA)) ∧ Own w [] [] w' := by
  refine fn_enter (args := [.agg (EntD.cells x).toArray, .agg (EntD.cells y).toArray]) Try.func48 rfl Try.ntmps48 rfl (Own.start w) ?_
  refine c_reg ?_
  refine l_box rfl rfl (fun b2 => ?_)
  refine l_box rfl rfl (fun b3 => ?_)
  refine l_as rfl ?_
  refine l_end ?_
  refine c_reg ?_
  refine l_fld (o := 0) rfl (by kernel_rfl) rfl ?_
  refine l_ldo 0 (v := .int .u64 (x.index : Nat)) rfl rfl rfl (by kernel_rfl) rfl ?_
  refine l_fld (o := 0) rfl (by kernel_rfl) rfl ?_
  refine l_ldo 1 (v := .int .u64 (y.index : Nat)) rfl rfl rfl (by kernel_rfl) rfl ?_
  refine l_eq rfl rfl rfl ?_
  refine l_mv rfl ?_
  refine l_band (q := ((x.index : Nat) : Int) = ((y.index : Nat) : Int)) 5 5 [15, 14, 13, 12, 11] (((x.term : Nat) : Int) = ((y.term : Nat) : Int)) rfl rfl rfl rfl rfl rfl trivial rfl (fun h1_5 => ?_) (fun g1_11 => ?_)
  ·
    refine l_on rfl (gT h1_5) ?_
    refine l_fld (o := 1) rfl (by kernel_rfl) rfl ?_
    refine l_on rfl (gT h1_5) ?_
    refine l_ldo 0 (v := .int .u64 (x.term : Nat)) rfl rfl rfl (by kernel_rfl) rfl ?_
    refine l_on rfl (gT h1_5) ?_
    refine l_fld (o := 1) rfl (by kernel_rfl) rfl ?_
    refine l_on rfl (gT h1_5) ?_
    refine l_ldo 1 (v := .int .u64 (y.term : Nat)) rfl rfl rfl (by kernel_rfl) rfl ?_
    refine l_on rfl (gT h1_5) ?_
    refine l_eq rfl rfl rfl ?_
    exact l_nil (fun w' hw => ⟨(by repeat (first | exact Out.refl _ _ | refine Out.upd rfl ?_ | refine Out.msk rfl ?_)), rfl, hw⟩)
  refine l_mv rfl ?_
  refine l_band (q := (((x.index : Nat) : Int) = ((y.index : Nat) : Int)) ∧ (((x.term : Nat) : Int) = ((y.term : Nat) : Int))) 5 12 [22, 21, 20, 19, 18] (x.kind = y.kind) rfl rfl rfl rfl rfl rfl trivial rfl (fun h1_12 => ?_) (fun g1_18 => ?_)
  ·
    refine l_on rfl (gT h1_12) ?_
    refine l_fld (o := 2) rfl (by kernel_rfl) rfl ?_
    refine l_on rfl (gT h1_12) ?_
    refine l_ldo 0 (v := .int .i64 x.kind) rfl rfl rfl (by kernel_rfl) rfl ?_
    refine l_on rfl (gT h1_12) ?_
    refine l_fld (o := 2) rfl (by kernel_rfl) rfl ?_
    refine l_on rfl (gT h1_12) ?_
    refine l_ldo 1 (v := .int .i64 y.kind) rfl rfl rfl (by kernel_rfl) rfl ?_
    refine l_on rfl (gT h1_12) ?_
    refine l_eq rfl rfl rfl ?_
    exact l_nil (fun w' hw => ⟨(by repeat (first | exact Out.refl _ _ | refine Out.upd rfl ?_ | refine Out.msk rfl ?_)), rfl, hw⟩)
  refine l_mv rfl ?_
  refine l_band (q := ((((x.index : Nat) : Int) = ((y.index : Nat) : Int)) ∧ (((x.term : Nat) : Int) = ((y.term : Nat) : Int))) ∧ (x.kind = y.kind)) 5 19 [29, 28, 27, 26, 25] (x.delta = y.delta) rfl rfl rfl rfl rfl rfl trivial rfl (fun h1_19 => ?_) (fun g1_25 => ?_)
  ·
    refine l_on rfl (gT h1_19) ?_
    refine l_fld (o := 3) rfl (by kernel_rfl) rfl ?_
    refine l_on rfl (gT h1_19) ?_
    refine l_ldo 0 (v := .int .i64 x.delta) rfl rfl rfl (by kernel_rfl) rfl ?_
    refine l_on rfl (gT h1_19) ?_
    refine l_fld (o := 3) rfl (by kernel_rfl) rfl ?_
    refine l_on rfl (gT h1_19) ?_
    refine l_ldo 1 (v := .int .i64 y.delta) rfl rfl rfl (by kernel_rfl) rfl ?_
    refine l_on rfl (gT h1_19) ?_
    refine l_eq rfl rfl rfl ?_
    exact l_nil (fun w' hw => ⟨(by repeat (first | exact Out.refl _ _ | refine Out.upd rfl ?_ | refine Out.msk rfl ?_)), rfl, hw⟩)
  refine l_mv rfl ?_
  refine l_band (q := (((((x.index : Nat) : Int) = ((y.index : Nat) : Int)) ∧ (((x.term : Nat) : Int) = ((y.term : Nat) : Int))) ∧ (x.kind = y.kind)) ∧ (x.delta = y.delta)) 7 26 [38, 37, 36, 35, 34, 33, 32] ((⟨x.data.toArray⟩ : ByteArray) = (⟨y.data.toArray⟩ : ByteArray)) rfl rfl rfl rfl rfl rfl trivial rfl (fun h1_26 => ?_) (fun g1_34 => ?_)
  ·
    refine l_on rfl (gT h1_26) ?_
    refine l_fld (o := 4) rfl (by kernel_rfl) rfl ?_
    refine l_on rfl (gT h1_26) ?_
    refine l_ldo 0 (v := x.dv) rfl rfl rfl (by kernel_rfl) rfl ?_
    refine l_on rfl (gT h1_26) ?_
    refine l_b2s (bs := x.data) (by kernel_rfl) (by kernel_rfl) rfl (fun w' hw' => Own.rd rd_x.dv hw') rfl ?_
    refine l_on rfl (gT h1_26) ?_
    refine l_fld (o := 4) rfl (by kernel_rfl) rfl ?_
    refine l_on rfl (gT h1_26) ?_
    refine l_ldo 1 (v := y.dv) rfl rfl rfl (by kernel_rfl) rfl ?_
    refine l_on rfl (gT h1_26) ?_
    refine l_b2s (bs := y.data) (by kernel_rfl) (by kernel_rfl) rfl (fun w' hw' => Own.rd rd_y.dv hw') rfl ?_
    refine l_on rfl (gT h1_26) ?_
    refine l_seq rfl rfl rfl ?_
    exact l_nil (fun w' hw => ⟨(by repeat (first | exact Out.refl _ _ | refine Out.upd rfl ?_ | refine Out.msk rfl ?_)), rfl, hw⟩)
  refine l_as rfl ?_
  refine l_end ?_
  exact c_ret (ret1 (v := .bool (decide (((((((x.index : Nat) : Int) = ((y.index : Nat) : Int)) ∧ (((x.term : Nat) : Int) = ((y.term : Nat) : Int))) ∧ (x.kind = y.kind)) ∧ (x.delta = y.delta)) ∧ ((⟨x.data.toArray⟩ : ByteArray) = (⟨y.data.toArray⟩ : ByteArray))))) rfl rfl (fun w' hw => ⟨(by congr 1; exact decide_eq_decide.2 (by exact entA_eq.symm)), hw.drop⟩))
theorem sameSht_s (x y : ShtD) (w : World) (hx : x.wf) (hy : y.wf) (rd_x : ShtD.rd x w []) (rd_y : ShtD.rd y w []) : Rets Try.prog 50 #[.agg (ShtD.cells x).toArray, .agg (ShtD.cells y).toArray] w fun u_ w' => u_ = .bool (decide (x.a = y.a)) ∧ Own w [] [] w' := by
  have h1 := hx.conf.vs
  have h2 := hx.conf.ls
  have h3 := hy.conf.vs
  have h4 := hy.conf.ls
  have h5 := hx.data
  have h6 := hy.data
  refine fn_enter (args := [.agg (ShtD.cells x).toArray, .agg (ShtD.cells y).toArray]) Try.func50 rfl Try.ntmps50 rfl (Own.start w) ?_
  refine c_reg ?_
  refine l_box rfl rfl (fun b2 => ?_)
  refine l_box rfl rfl (fun b3 => ?_)
  refine l_as rfl ?_
  refine l_end ?_
  refine c_reg ?_
  refine l_fld (o := 0) rfl (by kernel_rfl) rfl ?_
  refine l_ldo 0 (v := .int .u64 (x.index : Nat)) rfl rfl rfl (by kernel_rfl) rfl ?_
  refine l_fld (o := 0) rfl (by kernel_rfl) rfl ?_
  refine l_ldo 1 (v := .int .u64 (y.index : Nat)) rfl rfl rfl (by kernel_rfl) rfl ?_
  refine l_eq rfl rfl rfl ?_
  refine l_mv rfl ?_
  refine l_band (q := ((x.index : Nat) : Int) = ((y.index : Nat) : Int)) 5 5 [15, 14, 13, 12, 11] (((x.term : Nat) : Int) = ((y.term : Nat) : Int)) rfl rfl rfl rfl rfl rfl trivial rfl (fun h1_5 => ?_) (fun g1_11 => ?_)
  ·
    refine l_on rfl (gT h1_5) ?_
    refine l_fld (o := 1) rfl (by kernel_rfl) rfl ?_
    refine l_on rfl (gT h1_5) ?_
    refine l_ldo 0 (v := .int .u64 (x.term : Nat)) rfl rfl rfl (by kernel_rfl) rfl ?_
    refine l_on rfl (gT h1_5) ?_
    refine l_fld (o := 1) rfl (by kernel_rfl) rfl ?_
    refine l_on rfl (gT h1_5) ?_
    refine l_ldo 1 (v := .int .u64 (y.term : Nat)) rfl rfl rfl (by kernel_rfl) rfl ?_
    refine l_on rfl (gT h1_5) ?_
    refine l_eq rfl rfl rfl ?_
    exact l_nil (fun w' hw => ⟨(by repeat (first | exact Out.refl _ _ | refine Out.upd rfl ?_ | refine Out.msk rfl ?_)), rfl, hw⟩)
  refine l_mv rfl ?_
  refine l_band (q := (((x.index : Nat) : Int) = ((y.index : Nat) : Int)) ∧ (((x.term : Nat) : Int) = ((y.term : Nat) : Int))) 5 12 [22, 21, 20, 19, 18] (x.conf.vs = y.conf.vs ∧ x.conf.ls = y.conf.ls) rfl rfl rfl rfl rfl rfl trivial rfl (fun h1_12 => ?_) (fun g1_18 => ?_)
  ·
    refine l_on rfl (gT h1_12) ?_
    refine l_fld (o := 2) rfl (by kernel_rfl) rfl ?_
    refine l_on rfl (gT h1_12) ?_
    refine l_ldoN (cs := (ShtD.cells x)) 0 (ConfD.cells x.conf) rfl rfl (sub_at' 2 rfl) (by kernel_rfl) rfl ?_
    refine l_on rfl (gT h1_12) ?_
    refine l_fld (o := 2) rfl (by kernel_rfl) rfl ?_
    refine l_on rfl (gT h1_12) ?_
    refine l_ldoN (cs := (ShtD.cells y)) 1 (ConfD.cells y.conf) rfl rfl (sub_at' 2 rfl) (by kernel_rfl) rfl ?_
    refine l_on rfl (gT h1_12) ?_
    refine l_call (by kernel_rfl) rfl rfl (fun w' hw => ?_)
    refine (sameConf_spec x.conf y.conf w' (by first | assumption | omega | (simp <;> omega) | (constructor <;> (first | omega | (simp only [LenOk]; omega) | (simp <;> omega)))) (by first | assumption | omega | (simp <;> omega) | (constructor <;> (first | omega | (simp only [LenOk]; omega) | (simp <;> omega)))) (by first | assumption | omega | (simp <;> omega) | (constructor <;> (first | omega | (simp only [LenOk]; omega) | (simp <;> omega)))) (by first | assumption | omega | (simp <;> omega) | (constructor <;> (first | omega | (simp only [LenOk]; omega) | (simp <;> omega)))) (rd_x.conf.at0 hw) (rd_y.conf.at0 hw)).mono ?_
    rintro _ w1 ⟨rfl, hO⟩
    refine (?_ : CL _ _ _ _ _ _ (Own w [] [Res.row b2 55 (ShtD.cells x), Res.row b3 55 (ShtD.cells y)])) w1 (hw.frame0 hO)
    exact l_nil (fun w' hw => ⟨(by repeat (first | exact Out.refl _ _ | refine Out.upd rfl ?_ | refine Out.msk rfl ?_)), rfl, hw⟩)
  refine l_mv rfl ?_
  refine l_band (q := ((((x.index : Nat) : Int) = ((y.index : Nat) : Int)) ∧ (((x.term : Nat) : Int) = ((y.term : Nat) : Int))) ∧ (x.conf.vs = y.conf.vs ∧ x.conf.ls = y.conf.ls)) 7 19 [31, 30, 29, 28, 27, 26, 25] ((⟨x.data.toArray⟩ : ByteArray) = (⟨y.data.toArray⟩ : ByteArray)) rfl rfl rfl rfl rfl rfl trivial rfl (fun h1_19 => ?_) (fun g1_27 => ?_)
  ·
    refine l_on rfl (gT h1_19) ?_
    refine l_fld (o := 4) rfl (by kernel_rfl) rfl ?_
    refine l_on rfl (gT h1_19) ?_
    refine l_ldo 0 (v := x.dv) rfl rfl rfl (by kernel_rfl) rfl ?_
    refine l_on rfl (gT h1_19) ?_
    refine l_b2s (bs := x.data) (by kernel_rfl) (by kernel_rfl) rfl (fun w' hw' => Own.rd rd_x.dv hw') rfl ?_
    refine l_on rfl (gT h1_19) ?_
    refine l_fld (o := 4) rfl (by kernel_rfl) rfl ?_
    refine l_on rfl (gT h1_19) ?_
    refine l_ldo 1 (v := y.dv) rfl rfl rfl (by kernel_rfl) rfl ?_
    refine l_on rfl (gT h1_19) ?_
    refine l_b2s (bs := y.data) (by kernel_rfl) (by kernel_rfl) rfl (fun w' hw' => Own.rd rd_y.dv hw') rfl ?_
    refine l_on rfl (gT h1_19) ?_
    refine l_seq rfl rfl rfl ?_
    exact l_nil (fun w' hw => ⟨(by repeat (first | exact Out.refl _ _ | refine Out.upd rfl ?_ | refine Out.msk rfl ?_)), rfl, hw⟩)
  refine l_as rfl ?_
  refine l_end ?_
  exact c_ret (ret1 (v := .bool (decide ((((((x.index : Nat) : Int) = ((y.index : Nat) : Int)) ∧ (((x.term : Nat) : Int) = ((y.term : Nat) : Int))) ∧ (x.conf.vs = y.conf.vs ∧ x.conf.ls = y.conf.ls)) ∧ ((⟨x.data.toArray⟩ : ByteArray) = (⟨y.data.toArray⟩ : ByteArray))))) rfl rfl (fun w' hw => ⟨(by congr 1; exact decide_eq_decide.2 (by exact shtA_eq.symm)), hw.drop⟩))
end Go.Proofs.Ytlkoekhjegaimaa
