/-
  ENTRIES, SNAPSHOTS, TERMS AND VOTES OF BYTES: the program's and the reference's.
-/
import Derived.Test.YtlkoekhjegaimaaGreatEnc2
set_option linter.unusedVariables false
set_option maxRecDepth 10000
namespace Go.Proofs.YtlkoekhjegaimaaGreat
open Go Go.Sc Go.Proofs

/-- 64 bits as a whole number. -/
def toI (n : Nat) : Int := if n ≤ 9223372036854775807 then n else (n : Int) - 18446744073709551616
theorem wrap_toI {n : Nat} (h : n < 18446744073709551616) : IntKind.i64.wrap (n : Int) = toI n := by
  rw [wi64_u (by omega)]; unfold toI; split <;> split <;> omega
theorem toI_u64 {a : Int} (h : isI a) : toI (u64 a) = a := by unfold isI at h; unfold toI u64; split <;> omega
theorem u64_toI {n : Nat} (h : n < 18446744073709551616) : u64 (toI n) = n := by unfold toI u64; split <;> omega
def pEnt : List UInt8 → Nat → Option (EntA × Nat) := pBind pNum fun i => pBind pNum fun t => pBind (pInt 3) fun k => pBind pNum fun d => pBind pBytes fun b => pPure ⟨i, t, k, toI d, b⟩
instance : DecidablePred EntA.ok := fun x => inferInstance
def decEnt (b : List UInt8) : Option EntA := whole pEnt EntA.ok b
def pSht : List UInt8 → Nat → Option (ShtA × Nat) := pBind pNum fun i => pBind pNum fun t => pBind pConf fun c => pBind pBytes fun b => pPure ⟨i, t, c, b⟩
instance : DecidablePred ShtA.ok := fun x => inferInstance
def decSht (b : List UInt8) : Option ShtA := whole pSht ShtA.ok b
def pHrd : List UInt8 → Nat → Option (HrdD × Nat) := pBind pNum fun t => pBind (pInt 16) fun v => pPure ⟨t, v⟩
instance : DecidablePred HrdD.ok := fun x => inferInstance
def decHrd (b : List UInt8) : Option HrdD := whole pHrd HrdD.ok b
theorem RdS.int {most : Nat} {b : List UInt8} {a a1 n : Nat} {bad bad1 : Bool} (h : RdS (pUpto most) b a bad n a1 bad1) : RdS (pInt most) b a bad (n : Int) a1 bad1 := RdS.map (fun n : Nat => (n : Int)) h

theorem entRead_s (o : Nat) (v : Value) (b : List UInt8) (a : Nat) (bad : Bool) (w : World) (hl : LenOk b.length) (ha : a ≤ b.length) (hb : Rd w (fps [Res.row o 133 [v, .int .i64 (a : Nat), .bool bad]]) (Res.sl v b.length (b.map vb))) (hin : Own w (fps [Res.row o 133 [v, .int .i64 (a : Nat), .bool bad]]) [Res.row o 133 [v, .int .i64 (a : Nat), .bool bad]] w) : Rets Tryz.prog 92 #[.pointer (some ⟨o, 0, none⟩)] w fun u_ w' => ∃ (i : Nat) (t : Nat) (k : Nat) (d : Int) (dv : Value) (dl : List UInt8) (a' : Nat) (bad' : Bool), u_ = .agg #[.int .u64 (i : Nat), .int .u64 (t : Nat), .int .i64 (k : Nat), .int .i64 d, dv] ∧ RdS pEnt b a bad (⟨i, t, (k : Int), d, dl⟩ : EntA) a' bad' ∧ (i < 18446744073709551616 ∧ t < 18446744073709551616) ∧ dl.length ≤ b.length ∧ Own w (fps [Res.row o 133 [v, .int .i64 (a : Nat), .bool bad]]) [Res.row o 133 [v, .int .i64 (a' : Nat), .bool bad'], Res.vec 5 1 dv dl.length (dl.map vb)] w' := by
  refine fn_enter (args := [.pointer (some ⟨o, 0, none⟩)]) Tryz.func92 rfl Tryz.ntmps92 rfl (show Own w (fps [Res.row o 133 [v, .int .i64 (a : Nat), .bool bad]]) [Res.row o 133 [v, .int .i64 (a : Nat), .bool bad]] w from hin) ?_
  refine c_reg ?_
  refine l_new (v := .agg #[.int .u64 (0 : Nat), .int .u64 (0 : Nat), .int .i64 0, .int .i64 0, .slice none 0 0]) (by kernel_rfl) rfl (fun b2 => ?_)
  refine l_end ?_
  refine c_reg ?_
  refine l_mv rfl ?_
  refine l_call (by kernel_rfl) rfl rfl (fun w' hw => ?_)
  refine (inNum_s o v b a bad w' (by first | assumption | omega | (simp <;> omega) | (constructor <;> (first | omega | (simp only [LenOk]; omega) | (simp <;> omega)))) (by first | assumption | omega | (simp <;> omega) | (constructor <;> (first | omega | (simp only [LenOk]; omega) | (simp <;> omega)))) (hw.rdTo hb [0] rfl) (hw.give [0] rfl (by decide))).mono ?_
  rintro _ w1 ⟨n1_, a'2_, bad'3_, rfl, hf1_1, hf1_1_1, hO⟩
  have hq1 := hf1_1.le
  refine (?_ : CL _ _ _ _ _ _ (Own w (fps [Res.row o 133 [v, .int .i64 (a : Nat), .bool bad]]) [Res.row b2 75 [.int .u64 (0 : Nat), .int .u64 (0 : Nat), .int .i64 0, .int .i64 0, .slice none 0 0], Res.row o 133 [v, .int .i64 (a'2_ : Nat), .bool bad'3_]])) w1 (hw.frameL [0] rfl hO)
  refine l_mv rfl ?_
  refine l_call (by kernel_rfl) rfl rfl (fun w' hw => ?_)
  refine (inNum_s o v b a'2_ bad'3_ w' (by first | assumption | omega | (simp <;> omega) | (constructor <;> (first | omega | (simp only [LenOk]; omega) | (simp <;> omega)))) (by first | assumption | omega | (simp <;> omega) | (constructor <;> (first | omega | (simp only [LenOk]; omega) | (simp <;> omega)))) (hw.rdTo hb [1] rfl) (hw.give [1] rfl (by decide))).mono ?_
  rintro _ w1 ⟨n4_, a'5_, bad'6_, rfl, hf1_3, hf1_3_1, hO⟩
  have hq2 := hf1_3.le
  refine (?_ : CL _ _ _ _ _ _ (Own w (fps [Res.row o 133 [v, .int .i64 (a : Nat), .bool bad]]) [Res.row b2 75 [.int .u64 (0 : Nat), .int .u64 (0 : Nat), .int .i64 0, .int .i64 0, .slice none 0 0], Res.row o 133 [v, .int .i64 (a'5_ : Nat), .bool bad'6_]])) w1 (hw.frameL [1] rfl hO)
  refine l_mv rfl ?_
  refine l_call (by kernel_rfl) rfl rfl (fun w' hw => ?_)
  refine (inUpto_s o v b a'5_ bad'6_ 3 w' (by first | assumption | omega | (simp <;> omega) | (constructor <;> (first | omega | (simp only [LenOk]; omega) | (simp <;> omega)))) (by first | assumption | omega | (simp <;> omega) | (constructor <;> (first | omega | (simp only [LenOk]; omega) | (simp <;> omega)))) (by first | assumption | omega | (simp <;> omega) | (constructor <;> (first | omega | (simp only [LenOk]; omega) | (simp <;> omega)))) (hw.rdTo hb [1] rfl) (hw.give [1] rfl (by decide))).mono ?_
  rintro _ w1 ⟨n7_, a'8_, bad'9_, rfl, hf1_5, hf1_5_1, hO⟩
  have hq3 := hf1_5.le
  refine (?_ : CL _ _ _ _ _ _ (Own w (fps [Res.row o 133 [v, .int .i64 (a : Nat), .bool bad]]) [Res.row b2 75 [.int .u64 (0 : Nat), .int .u64 (0 : Nat), .int .i64 0, .int .i64 0, .slice none 0 0], Res.row o 133 [v, .int .i64 (a'8_ : Nat), .bool bad'9_]])) w1 (hw.frameL [1] rfl hO)
  refine l_mv rfl ?_
  refine l_call (by kernel_rfl) rfl rfl (fun w' hw => ?_)
  refine (inNum_s o v b a'8_ bad'9_ w' (by first | assumption | omega | (simp <;> omega) | (constructor <;> (first | omega | (simp only [LenOk]; omega) | (simp <;> omega)))) (by first | assumption | omega | (simp <;> omega) | (constructor <;> (first | omega | (simp only [LenOk]; omega) | (simp <;> omega)))) (hw.rdTo hb [1] rfl) (hw.give [1] rfl (by decide))).mono ?_
  rintro _ w1 ⟨n10_, a'11_, bad'12_, rfl, hf1_7, hf1_7_1, hO⟩
  have hq4 := hf1_7.le
  refine (?_ : CL _ _ _ _ _ _ (Own w (fps [Res.row o 133 [v, .int .i64 (a : Nat), .bool bad]]) [Res.row b2 75 [.int .u64 (0 : Nat), .int .u64 (0 : Nat), .int .i64 0, .int .i64 0, .slice none 0 0], Res.row o 133 [v, .int .i64 (a'11_ : Nat), .bool bad'12_]])) w1 (hw.frameL [1] rfl hO)
  refine l_cvt (c := toI n10_) (by kernel_rfl) rfl (wrap_toI hf1_7_1) rfl ?_ (by kernel_rfl)
  refine l_mv rfl ?_
  refine l_call (by kernel_rfl) rfl rfl (fun w' hw => ?_)
  refine (inData_s o v b a'11_ bad'12_ w' (by first | assumption | omega | (simp <;> omega) | (constructor <;> (first | omega | (simp only [LenOk]; omega) | (simp <;> omega)))) (by first | assumption | omega | (simp <;> omega) | (constructor <;> (first | omega | (simp only [LenOk]; omega) | (simp <;> omega)))) (hw.rdTo hb [1] rfl) (hw.give [1] rfl (by decide))).mono ?_
  rintro r13_ w1 ⟨_, d14_, a'15_, bad'16_, rfl, hf1_10, hf1_10_1, hO⟩
  refine (?_ : CL _ _ _ _ _ _ (Own w (fps [Res.row o 133 [v, .int .i64 (a : Nat), .bool bad]]) [Res.row b2 75 [.int .u64 (0 : Nat), .int .u64 (0 : Nat), .int .i64 0, .int .i64 0, .slice none 0 0], Res.row o 133 [v, .int .i64 (a'15_ : Nat), .bool bad'16_], Res.vec 5 1 r13_ d14_.length (d14_.map vb)])) w1 (hw.frameL [1] rfl hO)
  refine l_haveO (fun w' hw => Own.cell1Vec (i := 2) rfl hw) (fun hc1_ => ?_)
  refine l_bldc (cs := [.int .u64 (n1_ : Nat), .int .u64 (n4_ : Nat), .int .i64 (n7_ : Nat), .int .i64 (toI n10_), r13_]) (z := [.int .u64 (0 : Nat), .int .u64 (0 : Nat), .int .i64 0, .int .i64 0, .slice none 0 0]) (pl := [(0, 1), (1, 1), (2, 1), (3, 1), (4, 1)]) (by kernel_rfl) ⟨rfl, rfl, rfl, rfl, hc1_, trivial⟩ (by kernel_rfl) rfl ?_
  refine l_stN (cs := [.int .u64 (0 : Nat), .int .u64 (0 : Nat), .int .i64 0, .int .i64 0, .slice none 0 0]) (vs := [.int .u64 (n1_ : Nat), .int .u64 (n4_ : Nat), .int .i64 (n7_ : Nat), .int .i64 (toI n10_), r13_]) 0 rfl rfl rfl (by kernel_rfl) (allc_cons rfl (allc_cons rfl (allc_cons rfl (allc_cons rfl (allc_cons hc1_ allc_nil))))) (Nat.le_of_ble_eq_true rfl) ?_
  refine l_end ?_
  exact c_ret (retc (cs := [.int .u64 (n1_ : Nat), .int .u64 (n4_ : Nat), .int .i64 (n7_ : Nat), .int .i64 (toI n10_), r13_]) rfl rfl (by kernel_rfl) (Own.rowCells (i := 0) rfl) (fun w' hw => ⟨n1_, n4_, n7_, toI n10_, r13_, d14_, a'15_, bad'16_, rfl, hf1_1.bind (hf1_3.bind (RdS.bind hf1_5.int (hf1_7.bind (hf1_10.bind (RdS.pure _ hf1_10.le))))), ⟨hf1_1_1, hf1_3_1⟩, hf1_10_1, hw.sel [1, 2] rfl (by decide)⟩))
-- no function (scupper/msg.kind[scupper/api.Entry]).value
-- no function scupper/msg.ToEntry
theorem rentRead_s (o : Nat) (v : Value) (b : List UInt8) (a : Nat) (bad : Bool) (w : World) (hl : LenOk b.length) (ha : a ≤ b.length) (hb : Rd w (fps [Res.row o 71 [v, .int .i64 (a : Nat), .bool bad]]) (Res.sl v b.length (b.map vb))) (hin : Own w (fps [Res.row o 71 [v, .int .i64 (a : Nat), .bool bad]]) [Res.row o 71 [v, .int .i64 (a : Nat), .bool bad]] w) : Rets Tryz.prog 21 #[.pointer (some ⟨o, 0, none⟩)] w fun u_ w' => ∃ (i : Nat) (t : Nat) (k : Nat) (d : Int) (dv : Value) (dl : List UInt8) (a' : Nat) (bad' : Bool), u_ = .agg #[.int .u64 (i : Nat), .int .u64 (t : Nat), .int .i64 (k : Nat), .int .i64 d, dv] ∧ RdS pEnt b a bad (⟨i, t, (k : Int), d, dl⟩ : EntA) a' bad' ∧ (i < 18446744073709551616 ∧ t < 18446744073709551616) ∧ dl.length ≤ b.length ∧ Own w (fps [Res.row o 71 [v, .int .i64 (a : Nat), .bool bad]]) [Res.row o 71 [v, .int .i64 (a' : Nat), .bool bad'], Res.vec 5 1 dv dl.length (dl.map vb)] w' := by
  refine fn_enter (args := [.pointer (some ⟨o, 0, none⟩)]) Tryz.func21 rfl Tryz.ntmps21 rfl (show Own w (fps [Res.row o 71 [v, .int .i64 (a : Nat), .bool bad]]) [Res.row o 71 [v, .int .i64 (a : Nat), .bool bad]] w from hin) ?_
  refine c_reg ?_
  refine l_new (v := .agg #[.int .u64 (0 : Nat), .int .u64 (0 : Nat), .int .i64 0, .int .i64 0, .slice none 0 0]) (by kernel_rfl) rfl (fun b2 => ?_)
  refine l_end ?_
  refine c_reg ?_
  refine l_bld (cs := [.int .u64 (0 : Nat), .int .u64 (0 : Nat), .int .i64 0, .int .i64 0, .slice none 0 0]) (z := [.int .u64 (0 : Nat), .int .u64 (0 : Nat), .int .i64 0, .int .i64 0, .slice none 0 0]) (pl := [(0, 1), (1, 1), (2, 1), (3, 1), (4, 1)]) (by kernel_rfl) (by kernel_rfl) rfl ?_
  refine l_new (v := .agg #[.int .u64 (0 : Nat), .int .u64 (0 : Nat), .int .i64 0, .int .i64 0, .slice none 0 0]) (by kernel_rfl) rfl (fun b3 => ?_)
  refine l_stN (cs := [.int .u64 (0 : Nat), .int .u64 (0 : Nat), .int .i64 0, .int .i64 0, .slice none 0 0]) (vs := [.int .u64 (0 : Nat), .int .u64 (0 : Nat), .int .i64 0, .int .i64 0, .slice none 0 0]) 2 rfl rfl rfl (by kernel_rfl) (allc_cons rfl (allc_cons rfl (allc_cons rfl (allc_cons rfl (allc_cons rfl allc_nil))))) (Nat.le_of_ble_eq_true rfl) ?_
  refine l_end ?_
  refine c_reg ?_
  refine l_mv rfl ?_
  refine l_call (by kernel_rfl) rfl rfl (fun w' hw => ?_)
  refine (rinNum_s o v b a bad w' (by first | assumption | omega | (simp <;> omega) | (constructor <;> (first | omega | (simp only [LenOk]; omega) | (simp <;> omega)))) (by first | assumption | omega | (simp <;> omega) | (constructor <;> (first | omega | (simp only [LenOk]; omega) | (simp <;> omega)))) (hw.rdTo hb [0] rfl) (hw.give [0] rfl (by decide))).mono ?_
  rintro _ w1 ⟨n1_, a'2_, bad'3_, rfl, hf2_1, hf2_1_1, hO⟩
  have hq1 := hf2_1.le
  refine (?_ : CL _ _ _ _ _ _ (Own w (fps [Res.row o 71 [v, .int .i64 (a : Nat), .bool bad]]) [Res.row b2 75 [.int .u64 (0 : Nat), .int .u64 (0 : Nat), .int .i64 0, .int .i64 0, .slice none 0 0], Res.row b3 75 [.int .u64 (0 : Nat), .int .u64 (0 : Nat), .int .i64 0, .int .i64 0, .slice none 0 0], Res.row o 71 [v, .int .i64 (a'2_ : Nat), .bool bad'3_]])) w1 (hw.frameL [0] rfl hO)
  refine l_fld (o := 0) rfl (by kernel_rfl) rfl ?_
  refine l_st (cs := [.int .u64 (0 : Nat), .int .u64 (0 : Nat), .int .i64 0, .int .i64 0, .slice none 0 0]) 1 rfl rfl rfl (by kernel_rfl) rfl (Nat.le_of_ble_eq_true rfl) ?_
  refine l_end ?_
  refine c_reg ?_
  refine l_mv rfl ?_
  refine l_call (by kernel_rfl) rfl rfl (fun w' hw => ?_)
  refine (rinNum_s o v b a'2_ bad'3_ w' (by first | assumption | omega | (simp <;> omega) | (constructor <;> (first | omega | (simp only [LenOk]; omega) | (simp <;> omega)))) (by first | assumption | omega | (simp <;> omega) | (constructor <;> (first | omega | (simp only [LenOk]; omega) | (simp <;> omega)))) (hw.rdTo hb [2] rfl) (hw.give [2] rfl (by decide))).mono ?_
  rintro _ w1 ⟨n4_, a'5_, bad'6_, rfl, hf3_1, hf3_1_1, hO⟩
  have hq2 := hf3_1.le
  refine (?_ : CL _ _ _ _ _ _ (Own w (fps [Res.row o 71 [v, .int .i64 (a : Nat), .bool bad]]) [Res.row b2 75 [.int .u64 (0 : Nat), .int .u64 (0 : Nat), .int .i64 0, .int .i64 0, .slice none 0 0], Res.row b3 75 [.int .u64 (n1_ : Nat), .int .u64 (0 : Nat), .int .i64 0, .int .i64 0, .slice none 0 0], Res.row o 71 [v, .int .i64 (a'5_ : Nat), .bool bad'6_]])) w1 (hw.frameL [2] rfl hO)
  refine l_fld (o := 1) rfl (by kernel_rfl) rfl ?_
  refine l_st (cs := [.int .u64 (n1_ : Nat), .int .u64 (0 : Nat), .int .i64 0, .int .i64 0, .slice none 0 0]) 1 rfl rfl rfl (by kernel_rfl) rfl (Nat.le_of_ble_eq_true rfl) ?_
  refine l_end ?_
  refine c_reg ?_
  refine l_mv rfl ?_
  refine l_call (by kernel_rfl) rfl rfl (fun w' hw => ?_)
  refine (rinInt_s o v b a'5_ bad'6_ 3 w' (by first | assumption | omega | (simp <;> omega) | (constructor <;> (first | omega | (simp only [LenOk]; omega) | (simp <;> omega)))) (by first | assumption | omega | (simp <;> omega) | (constructor <;> (first | omega | (simp only [LenOk]; omega) | (simp <;> omega)))) (by first | assumption | omega | (simp <;> omega) | (constructor <;> (first | omega | (simp only [LenOk]; omega) | (simp <;> omega)))) (hw.rdTo hb [2] rfl) (hw.give [2] rfl (by decide))).mono ?_
  rintro _ w1 ⟨n7_, a'8_, bad'9_, rfl, hf4_1, hf4_1_1, hO⟩
  have hq3 := hf4_1.le
  refine (?_ : CL _ _ _ _ _ _ (Own w (fps [Res.row o 71 [v, .int .i64 (a : Nat), .bool bad]]) [Res.row b2 75 [.int .u64 (0 : Nat), .int .u64 (0 : Nat), .int .i64 0, .int .i64 0, .slice none 0 0], Res.row b3 75 [.int .u64 (n1_ : Nat), .int .u64 (n4_ : Nat), .int .i64 0, .int .i64 0, .slice none 0 0], Res.row o 71 [v, .int .i64 (a'8_ : Nat), .bool bad'9_]])) w1 (hw.frameL [2] rfl hO)
  refine l_fld (o := 2) rfl (by kernel_rfl) rfl ?_
  refine l_st (cs := [.int .u64 (n1_ : Nat), .int .u64 (n4_ : Nat), .int .i64 0, .int .i64 0, .slice none 0 0]) 1 rfl rfl rfl (by kernel_rfl) rfl (Nat.le_of_ble_eq_true rfl) ?_
  refine l_end ?_
  refine c_reg ?_
  refine l_mv rfl ?_
  refine l_call (by kernel_rfl) rfl rfl (fun w' hw => ?_)
  refine (rinNum_s o v b a'8_ bad'9_ w' (by first | assumption | omega | (simp <;> omega) | (constructor <;> (first | omega | (simp only [LenOk]; omega) | (simp <;> omega)))) (by first | assumption | omega | (simp <;> omega) | (constructor <;> (first | omega | (simp only [LenOk]; omega) | (simp <;> omega)))) (hw.rdTo hb [2] rfl) (hw.give [2] rfl (by decide))).mono ?_
  rintro _ w1 ⟨n10_, a'11_, bad'12_, rfl, hf5_1, hf5_1_1, hO⟩
  have hq4 := hf5_1.le
  refine (?_ : CL _ _ _ _ _ _ (Own w (fps [Res.row o 71 [v, .int .i64 (a : Nat), .bool bad]]) [Res.row b2 75 [.int .u64 (0 : Nat), .int .u64 (0 : Nat), .int .i64 0, .int .i64 0, .slice none 0 0], Res.row b3 75 [.int .u64 (n1_ : Nat), .int .u64 (n4_ : Nat), .int .i64 (n7_ : Nat), .int .i64 0, .slice none 0 0], Res.row o 71 [v, .int .i64 (a'11_ : Nat), .bool bad'12_]])) w1 (hw.frameL [2] rfl hO)
  refine l_cvt (c := toI n10_) (by kernel_rfl) rfl (wrap_toI hf5_1_1) rfl ?_ (by kernel_rfl)
  refine l_fld (o := 3) rfl (by kernel_rfl) rfl ?_
  refine l_st (cs := [.int .u64 (n1_ : Nat), .int .u64 (n4_ : Nat), .int .i64 (n7_ : Nat), .int .i64 0, .slice none 0 0]) 1 rfl rfl rfl (by kernel_rfl) rfl (Nat.le_of_ble_eq_true rfl) ?_
  refine l_end ?_
  refine c_reg ?_
  refine l_mv rfl ?_
  refine l_call (by kernel_rfl) rfl rfl (fun w' hw => ?_)
  refine (rinData_s o v b a'11_ bad'12_ w' (by first | assumption | omega | (simp <;> omega) | (constructor <;> (first | omega | (simp only [LenOk]; omega) | (simp <;> omega)))) (by first | assumption | omega | (simp <;> omega) | (constructor <;> (first | omega | (simp only [LenOk]; omega) | (simp <;> omega)))) (hw.rdTo hb [2] rfl) (hw.give [2] rfl (by decide))).mono ?_
  rintro r13_ w1 ⟨_, d14_, a'15_, bad'16_, rfl, hf6_1, hf6_1_1, hO⟩
  refine (?_ : CL _ _ _ _ _ _ (Own w (fps [Res.row o 71 [v, .int .i64 (a : Nat), .bool bad]]) [Res.row b2 75 [.int .u64 (0 : Nat), .int .u64 (0 : Nat), .int .i64 0, .int .i64 0, .slice none 0 0], Res.row b3 75 [.int .u64 (n1_ : Nat), .int .u64 (n4_ : Nat), .int .i64 (n7_ : Nat), .int .i64 (toI n10_), .slice none 0 0], Res.row o 71 [v, .int .i64 (a'15_ : Nat), .bool bad'16_], Res.vec 5 1 r13_ d14_.length (d14_.map vb)])) w1 (hw.frameL [2] rfl hO)
  refine l_fld (o := 4) rfl (by kernel_rfl) rfl ?_
  refine l_haveO (fun w' hw => Own.cell1Vec (i := 3) rfl hw) (fun hc1_ => ?_)
  refine l_st (cs := [.int .u64 (n1_ : Nat), .int .u64 (n4_ : Nat), .int .i64 (n7_ : Nat), .int .i64 (toI n10_), .slice none 0 0]) 1 rfl rfl rfl (by kernel_rfl) hc1_ (Nat.le_of_ble_eq_true rfl) ?_
  refine l_end ?_
  refine c_reg ?_
  refine l_ldr (cs := [.int .u64 (n1_ : Nat), .int .u64 (n4_ : Nat), .int .i64 (n7_ : Nat), .int .i64 (toI n10_), r13_]) 1 rfl rfl (by kernel_rfl) rfl ?_
  refine l_stN (cs := [.int .u64 (0 : Nat), .int .u64 (0 : Nat), .int .i64 0, .int .i64 0, .slice none 0 0]) (vs := [.int .u64 (n1_ : Nat), .int .u64 (n4_ : Nat), .int .i64 (n7_ : Nat), .int .i64 (toI n10_), r13_]) 0 rfl rfl rfl (by kernel_rfl) (allc_cons rfl (allc_cons rfl (allc_cons rfl (allc_cons rfl (allc_cons hc1_ allc_nil))))) (Nat.le_of_ble_eq_true rfl) ?_
  refine l_end ?_
  exact c_ret (retc (cs := [.int .u64 (n1_ : Nat), .int .u64 (n4_ : Nat), .int .i64 (n7_ : Nat), .int .i64 (toI n10_), r13_]) rfl rfl (by kernel_rfl) (Own.rowCells (i := 0) rfl) (fun w' hw => ⟨n1_, n4_, n7_, toI n10_, r13_, d14_, a'15_, bad'16_, rfl, hf2_1.bind (hf3_1.bind (RdS.bind hf4_1.int (hf5_1.bind (hf6_1.bind (RdS.pure _ hf6_1.le))))), ⟨hf2_1_1, hf3_1_1⟩, hf6_1_1, hw.sel [2, 3] rfl (by decide)⟩))
-- no function scupper/scupperref03.ToEntry

-- no function scupper/msg.shots$3
-- no function (scupper/msg.kind[scupper/api.Shot]).value
-- no function scupper/msg.ToShot
-- no function scupper/scupperref03.ToShot

theorem hrdRead_s (o : Nat) (v : Value) (b : List UInt8) (a : Nat) (bad : Bool) (w : World) (hl : LenOk b.length) (ha : a ≤ b.length) (hb : Rd w (fps [Res.row o 133 [v, .int .i64 (a : Nat), .bool bad]]) (Res.sl v b.length (b.map vb))) (hin : Own w (fps [Res.row o 133 [v, .int .i64 (a : Nat), .bool bad]]) [Res.row o 133 [v, .int .i64 (a : Nat), .bool bad]] w) : Rets Tryz.prog 103 #[.pointer (some ⟨o, 0, none⟩)] w fun u_ w' => ∃ (t : Nat) (k : Nat) (a' : Nat) (bad' : Bool), u_ = .agg #[.int .u64 (t : Nat), .int .i64 (k : Nat)] ∧ RdS pHrd b a bad (⟨t, (k : Int)⟩ : HrdD) a' bad' ∧ t < 18446744073709551616 ∧ k ≤ 16 ∧ Own w (fps [Res.row o 133 [v, .int .i64 (a : Nat), .bool bad]]) [Res.row o 133 [v, .int .i64 (a' : Nat), .bool bad']] w' := by
  refine fn_enter (args := [.pointer (some ⟨o, 0, none⟩)]) Tryz.func103 rfl Tryz.ntmps103 rfl (show Own w (fps [Res.row o 133 [v, .int .i64 (a : Nat), .bool bad]]) [Res.row o 133 [v, .int .i64 (a : Nat), .bool bad]] w from hin) ?_
  refine c_reg ?_
  refine l_new (v := .agg #[.int .u64 (0 : Nat), .int .i64 0]) (by kernel_rfl) rfl (fun b2 => ?_)
  refine l_end ?_
  refine c_reg ?_
  refine l_mv rfl ?_
  refine l_call (by kernel_rfl) rfl rfl (fun w' hw => ?_)
  refine (inNum_s o v b a bad w' (by first | assumption | omega | (simp <;> omega) | (constructor <;> (first | omega | (simp only [LenOk]; omega) | (simp <;> omega)))) (by first | assumption | omega | (simp <;> omega) | (constructor <;> (first | omega | (simp only [LenOk]; omega) | (simp <;> omega)))) (hw.rdTo hb [0] rfl) (hw.give [0] rfl (by decide))).mono ?_
  rintro _ w1 ⟨n1_, a'2_, bad'3_, rfl, hf1_1, hf1_1_1, hO⟩
  have hq1 := hf1_1.le
  refine (?_ : CL _ _ _ _ _ _ (Own w (fps [Res.row o 133 [v, .int .i64 (a : Nat), .bool bad]]) [Res.row b2 108 [.int .u64 (0 : Nat), .int .i64 0], Res.row o 133 [v, .int .i64 (a'2_ : Nat), .bool bad'3_]])) w1 (hw.frameL [0] rfl hO)
  refine l_mv rfl ?_
  refine l_call (by kernel_rfl) rfl rfl (fun w' hw => ?_)
  refine (inUpto_s o v b a'2_ bad'3_ 16 w' (by first | assumption | omega | (simp <;> omega) | (constructor <;> (first | omega | (simp only [LenOk]; omega) | (simp <;> omega)))) (by first | assumption | omega | (simp <;> omega) | (constructor <;> (first | omega | (simp only [LenOk]; omega) | (simp <;> omega)))) (by first | assumption | omega | (simp <;> omega) | (constructor <;> (first | omega | (simp only [LenOk]; omega) | (simp <;> omega)))) (hw.rdTo hb [1] rfl) (hw.give [1] rfl (by decide))).mono ?_
  rintro _ w1 ⟨n4_, a'5_, bad'6_, rfl, hf1_3, hf1_3_1, hO⟩
  refine (?_ : CL _ _ _ _ _ _ (Own w (fps [Res.row o 133 [v, .int .i64 (a : Nat), .bool bad]]) [Res.row b2 108 [.int .u64 (0 : Nat), .int .i64 0], Res.row o 133 [v, .int .i64 (a'5_ : Nat), .bool bad'6_]])) w1 (hw.frameL [1] rfl hO)
  refine l_bld (cs := [.int .u64 (n1_ : Nat), .int .i64 (n4_ : Nat)]) (z := [.int .u64 (0 : Nat), .int .i64 0]) (pl := [(0, 1), (1, 1)]) (by kernel_rfl) (by kernel_rfl) rfl ?_
  refine l_stN (cs := [.int .u64 (0 : Nat), .int .i64 0]) (vs := [.int .u64 (n1_ : Nat), .int .i64 (n4_ : Nat)]) 0 rfl rfl rfl (by kernel_rfl) (allc_cons rfl (allc_cons rfl allc_nil)) (Nat.le_of_ble_eq_true rfl) ?_
  refine l_end ?_
  exact c_ret (retc (cs := [.int .u64 (n1_ : Nat), .int .i64 (n4_ : Nat)]) rfl rfl (by kernel_rfl) (Own.rowCells (i := 0) rfl) (fun w' hw => ⟨n1_, n4_, a'5_, bad'6_, rfl, hf1_1.bind (RdS.bind hf1_3.int (RdS.pure _ hf1_3.le)), hf1_1_1, hf1_3_1, hw.sel [1] rfl (by decide)⟩))
-- no function (scupper/msg.kind[scupper/api.Hard]).value
-- no function scupper/msg.ToHard
theorem RefPost.whole {α : Type} {p : List UInt8 → Nat → Option (α × Nat)} {ok : α → Prop} [DecidablePred ok] {b : List UInt8} {x : α} {a : Nat} {bad : Bool} (h : RdS p b 0 false x a bad) (hok : ok x) : RefPost (whole p ok b) x (decide (bad = false ∧ a = b.length)) :=
  ⟨fun q => (by have := of_decide_eq_true q; exact whole_yes h this.1 this.2 hok), fun q => whole_no h fun h1 h2 _ => of_decide_eq_false q ⟨h1, h2⟩⟩
-- no function scupper/scupperref03.ToHard

theorem entA_eq {x y : EntA} : x = y ↔ (((((x.index : Nat) : Int) = ((y.index : Nat) : Int) ∧ ((x.term : Nat) : Int) = ((y.term : Nat) : Int)) ∧ x.kind = y.kind) ∧ x.delta = y.delta) ∧ (⟨x.data.toArray⟩ : ByteArray) = ⟨y.data.toArray⟩ := by
  rw [str_eq]; cases x; cases y; simp only [EntA.mk.injEq, Int.ofNat_inj, and_assoc]
theorem shtA_eq {x y : ShtD} : x.a = y.a ↔ ((((x.index : Nat) : Int) = ((y.index : Nat) : Int) ∧ ((x.term : Nat) : Int) = ((y.term : Nat) : Int)) ∧ (x.conf.vs = y.conf.vs ∧ x.conf.ls = y.conf.ls)) ∧ (⟨x.data.toArray⟩ : ByteArray) = ⟨y.data.toArray⟩ := by
  rw [str_eq]; simp only [ShtD.a, ConfD.a, ShtA.mk.injEq, ConfA.mk.injEq, Int.ofNat_inj, and_assoc]
theorem reads_s (e : Int) (f : Bool) (w : World) (h1 : f = true → e = 0) (h2 : f = false → e = 4) : Rets Tryz.prog 15 #[.int .i64 e, .bool f] w fun u_ w' => u_ = .bool true ∧ Own w [] [] w' := by
  refine fn_enter (args := [.int .i64 e, .bool f]) Tryz.func15 rfl Tryz.ntmps15 rfl (Own.start w) ?_
  refine c_reg ?_
  refine l_as rfl ?_
  refine l_end ?_
  refine c_reg ?_
  refine l_mv rfl ?_
  refine l_mv rfl ?_
  refine l_band (q := f = true) 2 1 [8, 7] (e = 0) rfl rfl (bool_dec _) rfl rfl rfl trivial rfl (fun h1_1 => ?_) (fun g1_4 => ?_)
  ·
    refine l_on rfl (bT h1_1) ?_
    refine l_mv rfl ?_
    refine l_on rfl (bT h1_1) ?_
    refine l_eq rfl rfl rfl ?_
    exact l_nil (fun w' hw => ⟨(by repeat (first | exact Out.refl _ _ | refine Out.upd rfl ?_ | refine Out.msk rfl ?_)), rfl, hw⟩)
  refine l_mv rfl ?_
  refine l_bor (q := (f = true) ∧ (e = 0)) 6 5 [16, 15, 14, 13, 12, 11] (((!f) = true) ∧ (e = 4)) rfl rfl rfl rfl rfl rfl trivial rfl (fun h1_5 => ?_) (fun g1_12 => ?_)
  ·
    refine l_on rfl (gF h1_5) ?_
    refine l_mv rfl ?_
    refine l_on rfl (gF h1_5) ?_
    refine l_not (b := f) rfl rfl ?_
    refine l_on rfl (gF h1_5) ?_
    refine l_mv rfl ?_
    refine l_band (q := (!f) = true) 2 8 [15, 14] (e = 4) rfl rfl (bool_dec _) rfl rfl rfl ⟨_, rfl, rfl, gF h1_5⟩ rfl (fun h1_8 => ?_) (fun g1_11 => ?_)
    ·
      refine l_on rfl (bT h1_8) ?_
      refine l_mv rfl ?_
      refine l_on rfl (bT h1_8) ?_
      refine l_eq rfl rfl rfl ?_
      exact l_nil (fun w' hw => ⟨(by repeat (first | exact Out.refl _ _ | refine Out.upd rfl ?_ | refine Out.msk rfl ?_)), rfl, hw⟩)
    exact l_nil (fun w' hw => ⟨(by repeat (first | exact Out.refl _ _ | refine Out.upd rfl ?_ | refine Out.msk rfl ?_)), rfl, hw⟩)
  refine l_as rfl ?_
  refine l_end ?_
  exact c_ret (ret1 (v := .bool (decide (((f = true) ∧ (e = 0)) ∨ (((!f) = true) ∧ (e = 4))))) rfl rfl (fun w' hw => ⟨(by congr 1; rw [decide_eq_true_iff]; cases f; exact .inr ⟨rfl, h2 rfl⟩; exact .inl ⟨rfl, h1 rfl⟩), hw.drop⟩))
theorem sameEnt_s (x y : EntD) (w : World) (hx : x.data.length ≤ 1000000000) (hy : y.data.length ≤ 1000000000) (rd_x : EntD.rd x w []) (rd_y : EntD.rd y w []) : Rets Tryz.prog 78 #[.agg (EntD.cells x).toArray, .agg (EntD.cells y).toArray] w fun u_ w' => u_ = .bool (decide (x.toEntA = y.toEntA)) ∧ Own w [] [] w' := by
  refine fn_enter (args := [.agg (EntD.cells x).toArray, .agg (EntD.cells y).toArray]) Tryz.func78 rfl Tryz.ntmps78 rfl (Own.start w) ?_
  refine c_reg ?_
  refine l_box rfl rfl (fun b2 => ?_)
  refine l_box rfl rfl (fun b3 => ?_)
  refine l_as rfl ?_
  refine l_end ?_
  refine c_reg ?_
  refine l_fld (o := 0) rfl (by kernel_rfl) rfl ?_
  refine l_ldo 0 (v := .int .u64 (x.index : Nat)) rfl rfl rfl (by kernel_rfl) rfl ?_
  refine l_fld (o := 0) rfl (by kernel_rfl) rfl ?_
  refine l_ldo 1 (v := .int .u64 (y.index : Nat)) rfl rfl rfl (by kernel_rfl) rfl ?_
  refine l_eq rfl rfl rfl ?_
  refine l_mv rfl ?_
  refine l_band (q := ((x.index : Nat) : Int) = ((y.index : Nat) : Int)) 5 5 [15, 14, 13, 12, 11] (((x.term : Nat) : Int) = ((y.term : Nat) : Int)) rfl rfl rfl rfl rfl rfl trivial rfl (fun h1_5 => ?_) (fun g1_11 => ?_)
  ·
    refine l_on rfl (gT h1_5) ?_
    refine l_fld (o := 1) rfl (by kernel_rfl) rfl ?_
    refine l_on rfl (gT h1_5) ?_
    refine l_ldo 0 (v := .int .u64 (x.term : Nat)) rfl rfl rfl (by kernel_rfl) rfl ?_
    refine l_on rfl (gT h1_5) ?_
    refine l_fld (o := 1) rfl (by kernel_rfl) rfl ?_
    refine l_on rfl (gT h1_5) ?_
    refine l_ldo 1 (v := .int .u64 (y.term : Nat)) rfl rfl rfl (by kernel_rfl) rfl ?_
    refine l_on rfl (gT h1_5) ?_
    refine l_eq rfl rfl rfl ?_
    exact l_nil (fun w' hw => ⟨(by repeat (first | exact Out.refl _ _ | refine Out.upd rfl ?_ | refine Out.msk rfl ?_)), rfl, hw⟩)
  refine l_mv rfl ?_
  refine l_band (q := (((x.index : Nat) : Int) = ((y.index : Nat) : Int)) ∧ (((x.term : Nat) : Int) = ((y.term : Nat) : Int))) 5 12 [22, 21, 20, 19, 18] (x.kind = y.kind) rfl rfl rfl rfl rfl rfl trivial rfl (fun h1_12 => ?_) (fun g1_18 => ?_)
  ·
    refine l_on rfl (gT h1_12) ?_
    refine l_fld (o := 2) rfl (by kernel_rfl) rfl ?_
    refine l_on rfl (gT h1_12) ?_
    refine l_ldo 0 (v := .int .i64 x.kind) rfl rfl rfl (by kernel_rfl) rfl ?_
    refine l_on rfl (gT h1_12) ?_
    refine l_fld (o := 2) rfl (by kernel_rfl) rfl ?_
    refine l_on rfl (gT h1_12) ?_
    refine l_ldo 1 (v := .int .i64 y.kind) rfl rfl rfl (by kernel_rfl) rfl ?_
    refine l_on rfl (gT h1_12) ?_
    refine l_eq rfl rfl rfl ?_
    exact l_nil (fun w' hw => ⟨(by repeat (first | exact Out.refl _ _ | refine Out.upd rfl ?_ | refine Out.msk rfl ?_)), rfl, hw⟩)
  refine l_mv rfl ?_
  refine l_band (q := ((((x.index : Nat) : Int) = ((y.index : Nat) : Int)) ∧ (((x.term : Nat) : Int) = ((y.term : Nat) : Int))) ∧ (x.kind = y.kind)) 5 19 [29, 28, 27, 26, 25] (x.delta = y.delta) rfl rfl rfl rfl rfl rfl trivial rfl (fun h1_19 => ?_) (fun g1_25 => ?_)
  ·
    refine l_on rfl (gT h1_19) ?_
    refine l_fld (o := 3) rfl (by kernel_rfl) rfl ?_
    refine l_on rfl (gT h1_19) ?_
    refine l_ldo 0 (v := .int .i64 x.delta) rfl rfl rfl (by kernel_rfl) rfl ?_
    refine l_on rfl (gT h1_19) ?_
    refine l_fld (o := 3) rfl (by kernel_rfl) rfl ?_
    refine l_on rfl (gT h1_19) ?_
    refine l_ldo 1 (v := .int .i64 y.delta) rfl rfl rfl (by kernel_rfl) rfl ?_
    refine l_on rfl (gT h1_19) ?_
    refine l_eq rfl rfl rfl ?_
    exact l_nil (fun w' hw => ⟨(by repeat (first | exact Out.refl _ _ | refine Out.upd rfl ?_ | refine Out.msk rfl ?_)), rfl, hw⟩)
  refine l_mv rfl ?_
  refine l_band (q := (((((x.index : Nat) : Int) = ((y.index : Nat) : Int)) ∧ (((x.term : Nat) : Int) = ((y.term : Nat) : Int))) ∧ (x.kind = y.kind)) ∧ (x.delta = y.delta)) 7 26 [38, 37, 36, 35, 34, 33, 32] ((⟨x.data.toArray⟩ : ByteArray) = (⟨y.data.toArray⟩ : ByteArray)) rfl rfl rfl rfl rfl rfl trivial rfl (fun h1_26 => ?_) (fun g1_34 => ?_)
  ·
    refine l_on rfl (gT h1_26) ?_
    refine l_fld (o := 4) rfl (by kernel_rfl) rfl ?_
    refine l_on rfl (gT h1_26) ?_
    refine l_ldo 0 (v := x.dv) rfl rfl rfl (by kernel_rfl) rfl ?_
    refine l_on rfl (gT h1_26) ?_
    refine l_b2s (bs := x.data) (by kernel_rfl) (by kernel_rfl) rfl (fun w' hw' => Own.rd rd_x.dv hw') rfl ?_
    refine l_on rfl (gT h1_26) ?_
    refine l_fld (o := 4) rfl (by kernel_rfl) rfl ?_
    refine l_on rfl (gT h1_26) ?_
    refine l_ldo 1 (v := y.dv) rfl rfl rfl (by kernel_rfl) rfl ?_
    refine l_on rfl (gT h1_26) ?_
    refine l_b2s (bs := y.data) (by kernel_rfl) (by kernel_rfl) rfl (fun w' hw' => Own.rd rd_y.dv hw') rfl ?_
    refine l_on rfl (gT h1_26) ?_
    refine l_seq rfl rfl rfl ?_
    exact l_nil (fun w' hw => ⟨(by repeat (first | exact Out.refl _ _ | refine Out.upd rfl ?_ | refine Out.msk rfl ?_)), rfl, hw⟩)
  refine l_as rfl ?_
  refine l_end ?_
  exact c_ret (ret1 (v := .bool (decide (((((((x.index : Nat) : Int) = ((y.index : Nat) : Int)) ∧ (((x.term : Nat) : Int) = ((y.term : Nat) : Int))) ∧ (x.kind = y.kind)) ∧ (x.delta = y.delta)) ∧ ((⟨x.data.toArray⟩ : ByteArray) = (⟨y.data.toArray⟩ : ByteArray))))) rfl rfl (fun w' hw => ⟨(by congr 1; exact decide_eq_decide.2 (by exact entA_eq.symm)), hw.drop⟩))
-- no function scupper/scupperref03.SameShot
end Go.Proofs.YtlkoekhjegaimaaGreat
