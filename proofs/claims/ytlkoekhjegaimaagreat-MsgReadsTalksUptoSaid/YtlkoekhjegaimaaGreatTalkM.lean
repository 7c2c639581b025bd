/-
  MESSAGES OF BYTES: the reference's reader.
-/
import Derived.Test.YtlkoekhjegaimaaGreatMsgDec
set_option linter.unusedVariables false
set_option maxRecDepth 10000
namespace Go.Proofs.YtlkoekhjegaimaaGreat
open Go Go.Sc Go.Proofs

theorem RdS.flag' {b : List UInt8} {a a1 n : Nat} {bad bad1 : Bool} (h : RdS (pUpto 1) b a bad n a1 bad1) : RdS pFlag b a bad (decide ((n : Int) = 1)) a1 bad1 := by
  have e : (n == 1) = decide ((n : Int) = 1) := by rw [Bool.eq_iff_iff]; simp; omega
  have := RdS.map (fun n : Nat => n == 1) h
  rw [e] at this
  exact this
theorem ents_end2 {b : List UInt8} {a a1 a2 n k : Nat} {bad bad1 bad2 : Bool} {l : List EntA} (h1 : RdS (pUpto 8) b a bad n a1 bad1) (h2 : RdS (pRep pEnt k) b a1 bad1 l a2 bad2) (c : ¬ ((k : Int) < n ∧ (!bad2) = true)) (hk : k ≤ n) : RdS pEnts b a bad l a2 bad2 := by
  by_cases e : k = n
  · exact ents_end h1 h2 e
  · have hb : bad2 = true := by cases bad2; exact absurd ⟨by omega, rfl⟩ c; rfl
    subst hb
    exact h1.bind (h2.stop hk)
set_option maxHeartbeats 2000000 in
theorem rtoMsg_s (v : Value) (b : List UInt8) (w : World) (hl : b.length ≤ 1048576) (hb : Rd w [] (Res.sl v b.length (b.map vb))) : Rets Tryz.prog 5 #[v] w fun u_ w' => ∃ (kd : Int) (sr : Int) (ds : Int) (tm : Nat) (ix : Nat) (lt : Nat) (cm : Nat) (rn : Nat) (f : Bool) (ev : Value) (es : List EntD) (r1 : Value) (l1 : List Int) (r2 : Value) (l2 : List Int) (of : Int) (dv : Value) (dl : List UInt8) (g : Bool), u_ = .tuple #[.agg #[.int .i64 kd, .int .i64 sr, .int .i64 ds, .int .u64 (tm : Nat), .int .u64 (ix : Nat), .int .u64 (lt : Nat), .int .u64 (cm : Nat), .int .u64 (rn : Nat), .bool f, ev, r1, r2, .int .i64 of, dv], .bool g] ∧ RefPost (decMsg b) (⟨kd, sr, ds, tm, ix, lt, cm, rn, f, es.map EntD.toEntA, ⟨l1, l2⟩, of, dl⟩ : MsgA) g ∧ (⟨kd, sr, ds, tm, ix, lt, cm, rn, f, ev, es, ⟨r1, l1, r2, l2⟩, of, dv, dl⟩ : MsgD).nums ∧ (⟨kd, sr, ds, tm, ix, lt, cm, rn, f, ev, es, ⟨r1, l1, r2, l2⟩, of, dv, dl⟩ : MsgD).small b.length ∧ Own w [] [Res.vec 75 5 ev es.length (es.flatMap EntD.cells), Res.star (es.map EntD.dres), Res.vec 3 1 r1 l1.length (l1.flatMap I1), Res.vec 3 1 r2 l2.length (l2.flatMap I1), Res.vec 5 1 dv dl.length (dl.map vb)] w' := by
  refine fn_enter (args := [v]) Tryz.func5 rfl Tryz.ntmps5 rfl (Own.start w) ?_
  refine c_reg ?_
  refine l_new (v := .agg #[.int .i64 0, .int .i64 0, .int .i64 0, .int .u64 (0 : Nat), .int .u64 (0 : Nat), .int .u64 (0 : Nat), .int .u64 (0 : Nat), .int .u64 (0 : Nat), .bool false, .slice none 0 0, .slice none 0 0, .slice none 0 0, .int .i64 0, .slice none 0 0]) (by kernel_rfl) rfl (fun b2 => ?_)
  refine l_as rfl ?_
  refine l_end ?_
  refine c_reg ?_
  refine l_mv rfl ?_
  refine l_bldc (cs := [v, .int .i64 0, .bool false]) (z := [.slice none 0 0, .int .i64 0, .bool false]) (pl := [(0, 1), (1, 1), (2, 1)]) (by kernel_rfl) ⟨(Sl.cell1 (Rd.φ hb)), trivial⟩ (by kernel_rfl) rfl ?_
  refine l_box rfl rfl (fun b11 => ?_)
  refine l_as rfl ?_
  refine l_end ?_
  refine c_reg ?_
  refine l_bld (cs := [.int .i64 0, .int .i64 0, .int .i64 0, .int .u64 (0 : Nat), .int .u64 (0 : Nat), .int .u64 (0 : Nat), .int .u64 (0 : Nat), .int .u64 (0 : Nat), .bool false, .slice none 0 0, .slice none 0 0, .slice none 0 0, .int .i64 0, .slice none 0 0]) (z := [.int .i64 0, .int .i64 0, .int .i64 0, .int .u64 (0 : Nat), .int .u64 (0 : Nat), .int .u64 (0 : Nat), .int .u64 (0 : Nat), .int .u64 (0 : Nat), .bool false, .slice none 0 0, .slice none 0 0, .slice none 0 0, .int .i64 0, .slice none 0 0]) (pl := [(0, 1), (1, 1), (2, 1), (3, 1), (4, 1), (5, 1), (6, 1), (7, 1), (8, 1), (9, 1), (10, 2), (12, 1), (13, 1)]) (by kernel_rfl) (by kernel_rfl) rfl ?_
  refine l_new (v := .agg #[.int .i64 0, .int .i64 0, .int .i64 0, .int .u64 (0 : Nat), .int .u64 (0 : Nat), .int .u64 (0 : Nat), .int .u64 (0 : Nat), .int .u64 (0 : Nat), .bool false, .slice none 0 0, .slice none 0 0, .slice none 0 0, .int .i64 0, .slice none 0 0]) (by kernel_rfl) rfl (fun b5 => ?_)
  refine l_stN (cs := [.int .i64 0, .int .i64 0, .int .i64 0, .int .u64 (0 : Nat), .int .u64 (0 : Nat), .int .u64 (0 : Nat), .int .u64 (0 : Nat), .int .u64 (0 : Nat), .bool false, .slice none 0 0, .slice none 0 0, .slice none 0 0, .int .i64 0, .slice none 0 0]) (vs := [.int .i64 0, .int .i64 0, .int .i64 0, .int .u64 (0 : Nat), .int .u64 (0 : Nat), .int .u64 (0 : Nat), .int .u64 (0 : Nat), .int .u64 (0 : Nat), .bool false, .slice none 0 0, .slice none 0 0, .slice none 0 0, .int .i64 0, .slice none 0 0]) 2 rfl rfl rfl (by kernel_rfl) (allc_cons rfl (allc_cons rfl (allc_cons rfl (allc_cons rfl (allc_cons rfl (allc_cons rfl (allc_cons rfl (allc_cons rfl (allc_cons rfl (allc_cons rfl (allc_cons rfl (allc_cons rfl (allc_cons rfl (allc_cons rfl allc_nil)))))))))))))) (Nat.le_of_ble_eq_true rfl) ?_
  refine l_end ?_
  refine c_reg ?_
  refine l_mv rfl ?_
  refine l_call (by kernel_rfl) rfl rfl (fun w' hw => ?_)
  refine (rinInt_s b11 v b 0 false 9 w' (by first | assumption | omega | (simp <;> omega) | (constructor <;> (first | omega | (simp only [LenOk]; omega) | (simp <;> omega)))) (by first | assumption | omega | (simp <;> omega) | (constructor <;> (first | omega | (simp only [LenOk]; omega) | (simp <;> omega)))) (by first | assumption | omega | (simp <;> omega) | (constructor <;> (first | omega | (simp only [LenOk]; omega) | (simp <;> omega)))) (hw.rdTo hb [1] rfl) (hw.give [1] rfl (by decide))).mono ?_
  rintro _ w1 ⟨n1_, a'2_, bad'3_, rfl, hf3_1, hf3_1_1, hO⟩
  have hq1 := hf3_1.le
  refine (?_ : CL _ _ _ _ _ _ (Own w [] [Res.row b2 29 [.int .i64 0, .int .i64 0, .int .i64 0, .int .u64 (0 : Nat), .int .u64 (0 : Nat), .int .u64 (0 : Nat), .int .u64 (0 : Nat), .int .u64 (0 : Nat), .bool false, .slice none 0 0, .slice none 0 0, .slice none 0 0, .int .i64 0, .slice none 0 0], Res.row b5 29 [.int .i64 0, .int .i64 0, .int .i64 0, .int .u64 (0 : Nat), .int .u64 (0 : Nat), .int .u64 (0 : Nat), .int .u64 (0 : Nat), .int .u64 (0 : Nat), .bool false, .slice none 0 0, .slice none 0 0, .slice none 0 0, .int .i64 0, .slice none 0 0], Res.row b11 71 [v, .int .i64 (a'2_ : Nat), .bool bad'3_]])) w1 (hw.frameL [1] rfl hO)
  refine l_fld (o := 0) rfl (by kernel_rfl) rfl ?_
  refine l_st (cs := [.int .i64 0, .int .i64 0, .int .i64 0, .int .u64 (0 : Nat), .int .u64 (0 : Nat), .int .u64 (0 : Nat), .int .u64 (0 : Nat), .int .u64 (0 : Nat), .bool false, .slice none 0 0, .slice none 0 0, .slice none 0 0, .int .i64 0, .slice none 0 0]) 1 rfl rfl rfl (by kernel_rfl) rfl (Nat.le_of_ble_eq_true rfl) ?_
  refine l_end ?_
  refine c_reg ?_
  refine l_mv rfl ?_
  refine l_call (by kernel_rfl) rfl rfl (fun w' hw => ?_)
  refine (rinInt_s b11 v b a'2_ bad'3_ 16 w' (by first | assumption | omega | (simp <;> omega) | (constructor <;> (first | omega | (simp only [LenOk]; omega) | (simp <;> omega)))) (by first | assumption | omega | (simp <;> omega) | (constructor <;> (first | omega | (simp only [LenOk]; omega) | (simp <;> omega)))) (by first | assumption | omega | (simp <;> omega) | (constructor <;> (first | omega | (simp only [LenOk]; omega) | (simp <;> omega)))) (hw.rdTo hb [2] rfl) (hw.give [2] rfl (by decide))).mono ?_
  rintro _ w1 ⟨n4_, a'5_, bad'6_, rfl, hf4_1, hf4_1_1, hO⟩
  have hq2 := hf4_1.le
  refine (?_ : CL _ _ _ _ _ _ (Own w [] [Res.row b2 29 [.int .i64 0, .int .i64 0, .int .i64 0, .int .u64 (0 : Nat), .int .u64 (0 : Nat), .int .u64 (0 : Nat), .int .u64 (0 : Nat), .int .u64 (0 : Nat), .bool false, .slice none 0 0, .slice none 0 0, .slice none 0 0, .int .i64 0, .slice none 0 0], Res.row b5 29 [.int .i64 (n1_ : Nat), .int .i64 0, .int .i64 0, .int .u64 (0 : Nat), .int .u64 (0 : Nat), .int .u64 (0 : Nat), .int .u64 (0 : Nat), .int .u64 (0 : Nat), .bool false, .slice none 0 0, .slice none 0 0, .slice none 0 0, .int .i64 0, .slice none 0 0], Res.row b11 71 [v, .int .i64 (a'5_ : Nat), .bool bad'6_]])) w1 (hw.frameL [2] rfl hO)
  refine l_fld (o := 1) rfl (by kernel_rfl) rfl ?_
  refine l_st (cs := [.int .i64 (n1_ : Nat), .int .i64 0, .int .i64 0, .int .u64 (0 : Nat), .int .u64 (0 : Nat), .int .u64 (0 : Nat), .int .u64 (0 : Nat), .int .u64 (0 : Nat), .bool false, .slice none 0 0, .slice none 0 0, .slice none 0 0, .int .i64 0, .slice none 0 0]) 1 rfl rfl rfl (by kernel_rfl) rfl (Nat.le_of_ble_eq_true rfl) ?_
  refine l_end ?_
  refine c_reg ?_
  refine l_mv rfl ?_
  refine l_call (by kernel_rfl) rfl rfl (fun w' hw => ?_)
  refine (rinInt_s b11 v b a'5_ bad'6_ 16 w' (by first | assumption | omega | (simp <;> omega) | (constructor <;> (first | omega | (simp only [LenOk]; omega) | (simp <;> omega)))) (by first | assumption | omega | (simp <;> omega) | (constructor <;> (first | omega | (simp only [LenOk]; omega) | (simp <;> omega)))) (by first | assumption | omega | (simp <;> omega) | (constructor <;> (first | omega | (simp only [LenOk]; omega) | (simp <;> omega)))) (hw.rdTo hb [2] rfl) (hw.give [2] rfl (by decide))).mono ?_
  rintro _ w1 ⟨n7_, a'8_, bad'9_, rfl, hf5_1, hf5_1_1, hO⟩
  have hq3 := hf5_1.le
  refine (?_ : CL _ _ _ _ _ _ (Own w [] [Res.row b2 29 [.int .i64 0, .int .i64 0, .int .i64 0, .int .u64 (0 : Nat), .int .u64 (0 : Nat), .int .u64 (0 : Nat), .int .u64 (0 : Nat), .int .u64 (0 : Nat), .bool false, .slice none 0 0, .slice none 0 0, .slice none 0 0, .int .i64 0, .slice none 0 0], Res.row b5 29 [.int .i64 (n1_ : Nat), .int .i64 (n4_ : Nat), .int .i64 0, .int .u64 (0 : Nat), .int .u64 (0 : Nat), .int .u64 (0 : Nat), .int .u64 (0 : Nat), .int .u64 (0 : Nat), .bool false, .slice none 0 0, .slice none 0 0, .slice none 0 0, .int .i64 0, .slice none 0 0], Res.row b11 71 [v, .int .i64 (a'8_ : Nat), .bool bad'9_]])) w1 (hw.frameL [2] rfl hO)
  refine l_fld (o := 2) rfl (by kernel_rfl) rfl ?_
  refine l_st (cs := [.int .i64 (n1_ : Nat), .int .i64 (n4_ : Nat), .int .i64 0, .int .u64 (0 : Nat), .int .u64 (0 : Nat), .int .u64 (0 : Nat), .int .u64 (0 : Nat), .int .u64 (0 : Nat), .bool false, .slice none 0 0, .slice none 0 0, .slice none 0 0, .int .i64 0, .slice none 0 0]) 1 rfl rfl rfl (by kernel_rfl) rfl (Nat.le_of_ble_eq_true rfl) ?_
  refine l_end ?_
  refine c_reg ?_
  refine l_mv rfl ?_
  refine l_call (by kernel_rfl) rfl rfl (fun w' hw => ?_)
  refine (rinNum_s b11 v b a'8_ bad'9_ w' (by first | assumption | omega | (simp <;> omega) | (constructor <;> (first | omega | (simp only [LenOk]; omega) | (simp <;> omega)))) (by first | assumption | omega | (simp <;> omega) | (constructor <;> (first | omega | (simp only [LenOk]; omega) | (simp <;> omega)))) (hw.rdTo hb [2] rfl) (hw.give [2] rfl (by decide))).mono ?_
  rintro _ w1 ⟨n10_, a'11_, bad'12_, rfl, hf6_1, hf6_1_1, hO⟩
  have hq4 := hf6_1.le
  refine (?_ : CL _ _ _ _ _ _ (Own w [] [Res.row b2 29 [.int .i64 0, .int .i64 0, .int .i64 0, .int .u64 (0 : Nat), .int .u64 (0 : Nat), .int .u64 (0 : Nat), .int .u64 (0 : Nat), .int .u64 (0 : Nat), .bool false, .slice none 0 0, .slice none 0 0, .slice none 0 0, .int .i64 0, .slice none 0 0], Res.row b5 29 [.int .i64 (n1_ : Nat), .int .i64 (n4_ : Nat), .int .i64 (n7_ : Nat), .int .u64 (0 : Nat), .int .u64 (0 : Nat), .int .u64 (0 : Nat), .int .u64 (0 : Nat), .int .u64 (0 : Nat), .bool false, .slice none 0 0, .slice none 0 0, .slice none 0 0, .int .i64 0, .slice none 0 0], Res.row b11 71 [v, .int .i64 (a'11_ : Nat), .bool bad'12_]])) w1 (hw.frameL [2] rfl hO)
  refine l_fld (o := 3) rfl (by kernel_rfl) rfl ?_
  refine l_st (cs := [.int .i64 (n1_ : Nat), .int .i64 (n4_ : Nat), .int .i64 (n7_ : Nat), .int .u64 (0 : Nat), .int .u64 (0 : Nat), .int .u64 (0 : Nat), .int .u64 (0 : Nat), .int .u64 (0 : Nat), .bool false, .slice none 0 0, .slice none 0 0, .slice none 0 0, .int .i64 0, .slice none 0 0]) 1 rfl rfl rfl (by kernel_rfl) rfl (Nat.le_of_ble_eq_true rfl) ?_
  refine l_end ?_
  refine c_reg ?_
  refine l_mv rfl ?_
  refine l_call (by kernel_rfl) rfl rfl (fun w' hw => ?_)
  refine (rinNum_s b11 v b a'11_ bad'12_ w' (by first | assumption | omega | (simp <;> omega) | (constructor <;> (first | omega | (simp only [LenOk]; omega) | (simp <;> omega)))) (by first | assumption | omega | (simp <;> omega) | (constructor <;> (first | omega | (simp only [LenOk]; omega) | (simp <;> omega)))) (hw.rdTo hb [2] rfl) (hw.give [2] rfl (by decide))).mono ?_
  rintro _ w1 ⟨n13_, a'14_, bad'15_, rfl, hf7_1, hf7_1_1, hO⟩
  have hq5 := hf7_1.le
  refine (?_ : CL _ _ _ _ _ _ (Own w [] [Res.row b2 29 [.int .i64 0, .int .i64 0, .int .i64 0, .int .u64 (0 : Nat), .int .u64 (0 : Nat), .int .u64 (0 : Nat), .int .u64 (0 : Nat), .int .u64 (0 : Nat), .bool false, .slice none 0 0, .slice none 0 0, .slice none 0 0, .int .i64 0, .slice none 0 0], Res.row b5 29 [.int .i64 (n1_ : Nat), .int .i64 (n4_ : Nat), .int .i64 (n7_ : Nat), .int .u64 (n10_ : Nat), .int .u64 (0 : Nat), .int .u64 (0 : Nat), .int .u64 (0 : Nat), .int .u64 (0 : Nat), .bool false, .slice none 0 0, .slice none 0 0, .slice none 0 0, .int .i64 0, .slice none 0 0], Res.row b11 71 [v, .int .i64 (a'14_ : Nat), .bool bad'15_]])) w1 (hw.frameL [2] rfl hO)
  refine l_fld (o := 4) rfl (by kernel_rfl) rfl ?_
  refine l_st (cs := [.int .i64 (n1_ : Nat), .int .i64 (n4_ : Nat), .int .i64 (n7_ : Nat), .int .u64 (n10_ : Nat), .int .u64 (0 : Nat), .int .u64 (0 : Nat), .int .u64 (0 : Nat), .int .u64 (0 : Nat), .bool false, .slice none 0 0, .slice none 0 0, .slice none 0 0, .int .i64 0, .slice none 0 0]) 1 rfl rfl rfl (by kernel_rfl) rfl (Nat.le_of_ble_eq_true rfl) ?_
  refine l_end ?_
  refine c_reg ?_
  refine l_mv rfl ?_
  refine l_call (by kernel_rfl) rfl rfl (fun w' hw => ?_)
  refine (rinNum_s b11 v b a'14_ bad'15_ w' (by first | assumption | omega | (simp <;> omega) | (constructor <;> (first | omega | (simp only [LenOk]; omega) | (simp <;> omega)))) (by first | assumption | omega | (simp <;> omega) | (constructor <;> (first | omega | (simp only [LenOk]; omega) | (simp <;> omega)))) (hw.rdTo hb [2] rfl) (hw.give [2] rfl (by decide))).mono ?_
  rintro _ w1 ⟨n16_, a'17_, bad'18_, rfl, hf8_1, hf8_1_1, hO⟩
  have hq6 := hf8_1.le
  refine (?_ : CL _ _ _ _ _ _ (Own w [] [Res.row b2 29 [.int .i64 0, .int .i64 0, .int .i64 0, .int .u64 (0 : Nat), .int .u64 (0 : Nat), .int .u64 (0 : Nat), .int .u64 (0 : Nat), .int .u64 (0 : Nat), .bool false, .slice none 0 0, .slice none 0 0, .slice none 0 0, .int .i64 0, .slice none 0 0], Res.row b5 29 [.int .i64 (n1_ : Nat), .int .i64 (n4_ : Nat), .int .i64 (n7_ : Nat), .int .u64 (n10_ : Nat), .int .u64 (n13_ : Nat), .int .u64 (0 : Nat), .int .u64 (0 : Nat), .int .u64 (0 : Nat), .bool false, .slice none 0 0, .slice none 0 0, .slice none 0 0, .int .i64 0, .slice none 0 0], Res.row b11 71 [v, .int .i64 (a'17_ : Nat), .bool bad'18_]])) w1 (hw.frameL [2] rfl hO)
  refine l_fld (o := 5) rfl (by kernel_rfl) rfl ?_
  refine l_st (cs := [.int .i64 (n1_ : Nat), .int .i64 (n4_ : Nat), .int .i64 (n7_ : Nat), .int .u64 (n10_ : Nat), .int .u64 (n13_ : Nat), .int .u64 (0 : Nat), .int .u64 (0 : Nat), .int .u64 (0 : Nat), .bool false, .slice none 0 0, .slice none 0 0, .slice none 0 0, .int .i64 0, .slice none 0 0]) 1 rfl rfl rfl (by kernel_rfl) rfl (Nat.le_of_ble_eq_true rfl) ?_
  refine l_end ?_
  refine c_reg ?_
  refine l_mv rfl ?_
  refine l_call (by kernel_rfl) rfl rfl (fun w' hw => ?_)
  refine (rinNum_s b11 v b a'17_ bad'18_ w' (by first | assumption | omega | (simp <;> omega) | (constructor <;> (first | omega | (simp only [LenOk]; omega) | (simp <;> omega)))) (by first | assumption | omega | (simp <;> omega) | (constructor <;> (first | omega | (simp only [LenOk]; omega) | (simp <;> omega)))) (hw.rdTo hb [2] rfl) (hw.give [2] rfl (by decide))).mono ?_
  rintro _ w1 ⟨n19_, a'20_, bad'21_, rfl, hf9_1, hf9_1_1, hO⟩
  have hq7 := hf9_1.le
  refine (?_ : CL _ _ _ _ _ _ (Own w [] [Res.row b2 29 [.int .i64 0, .int .i64 0, .int .i64 0, .int .u64 (0 : Nat), .int .u64 (0 : Nat), .int .u64 (0 : Nat), .int .u64 (0 : Nat), .int .u64 (0 : Nat), .bool false, .slice none 0 0, .slice none 0 0, .slice none 0 0, .int .i64 0, .slice none 0 0], Res.row b5 29 [.int .i64 (n1_ : Nat), .int .i64 (n4_ : Nat), .int .i64 (n7_ : Nat), .int .u64 (n10_ : Nat), .int .u64 (n13_ : Nat), .int .u64 (n16_ : Nat), .int .u64 (0 : Nat), .int .u64 (0 : Nat), .bool false, .slice none 0 0, .slice none 0 0, .slice none 0 0, .int .i64 0, .slice none 0 0], Res.row b11 71 [v, .int .i64 (a'20_ : Nat), .bool bad'21_]])) w1 (hw.frameL [2] rfl hO)
  refine l_fld (o := 6) rfl (by kernel_rfl) rfl ?_
  refine l_st (cs := [.int .i64 (n1_ : Nat), .int .i64 (n4_ : Nat), .int .i64 (n7_ : Nat), .int .u64 (n10_ : Nat), .int .u64 (n13_ : Nat), .int .u64 (n16_ : Nat), .int .u64 (0 : Nat), .int .u64 (0 : Nat), .bool false, .slice none 0 0, .slice none 0 0, .slice none 0 0, .int .i64 0, .slice none 0 0]) 1 rfl rfl rfl (by kernel_rfl) rfl (Nat.le_of_ble_eq_true rfl) ?_
  refine l_end ?_
  refine c_reg ?_
  refine l_mv rfl ?_
  refine l_call (by kernel_rfl) rfl rfl (fun w' hw => ?_)
  refine (rinNum_s b11 v b a'20_ bad'21_ w' (by first | assumption | omega | (simp <;> omega) | (constructor <;> (first | omega | (simp only [LenOk]; omega) | (simp <;> omega)))) (by first | assumption | omega | (simp <;> omega) | (constructor <;> (first | omega | (simp only [LenOk]; omega) | (simp <;> omega)))) (hw.rdTo hb [2] rfl) (hw.give [2] rfl (by decide))).mono ?_
  rintro _ w1 ⟨n22_, a'23_, bad'24_, rfl, hf10_1, hf10_1_1, hO⟩
  have hq8 := hf10_1.le
  refine (?_ : CL _ _ _ _ _ _ (Own w [] [Res.row b2 29 [.int .i64 0, .int .i64 0, .int .i64 0, .int .u64 (0 : Nat), .int .u64 (0 : Nat), .int .u64 (0 : Nat), .int .u64 (0 : Nat), .int .u64 (0 : Nat), .bool false, .slice none 0 0, .slice none 0 0, .slice none 0 0, .int .i64 0, .slice none 0 0], Res.row b5 29 [.int .i64 (n1_ : Nat), .int .i64 (n4_ : Nat), .int .i64 (n7_ : Nat), .int .u64 (n10_ : Nat), .int .u64 (n13_ : Nat), .int .u64 (n16_ : Nat), .int .u64 (n19_ : Nat), .int .u64 (0 : Nat), .bool false, .slice none 0 0, .slice none 0 0, .slice none 0 0, .int .i64 0, .slice none 0 0], Res.row b11 71 [v, .int .i64 (a'23_ : Nat), .bool bad'24_]])) w1 (hw.frameL [2] rfl hO)
  refine l_fld (o := 7) rfl (by kernel_rfl) rfl ?_
  refine l_st (cs := [.int .i64 (n1_ : Nat), .int .i64 (n4_ : Nat), .int .i64 (n7_ : Nat), .int .u64 (n10_ : Nat), .int .u64 (n13_ : Nat), .int .u64 (n16_ : Nat), .int .u64 (n19_ : Nat), .int .u64 (0 : Nat), .bool false, .slice none 0 0, .slice none 0 0, .slice none 0 0, .int .i64 0, .slice none 0 0]) 1 rfl rfl rfl (by kernel_rfl) rfl (Nat.le_of_ble_eq_true rfl) ?_
  refine l_end ?_
  refine c_reg ?_
  refine l_mv rfl ?_
  refine l_call (by kernel_rfl) rfl rfl (fun w' hw => ?_)
  refine (rinInt_s b11 v b a'23_ bad'24_ 1 w' (by first | assumption | omega | (simp <;> omega) | (constructor <;> (first | omega | (simp only [LenOk]; omega) | (simp <;> omega)))) (by first | assumption | omega | (simp <;> omega) | (constructor <;> (first | omega | (simp only [LenOk]; omega) | (simp <;> omega)))) (by first | assumption | omega | (simp <;> omega) | (constructor <;> (first | omega | (simp only [LenOk]; omega) | (simp <;> omega)))) (hw.rdTo hb [2] rfl) (hw.give [2] rfl (by decide))).mono ?_
  rintro _ w1 ⟨n25_, a'26_, bad'27_, rfl, hf11_1, hf11_1_1, hO⟩
  have hq9 := hf11_1.le
  refine (?_ : CL _ _ _ _ _ _ (Own w [] [Res.row b2 29 [.int .i64 0, .int .i64 0, .int .i64 0, .int .u64 (0 : Nat), .int .u64 (0 : Nat), .int .u64 (0 : Nat), .int .u64 (0 : Nat), .int .u64 (0 : Nat), .bool false, .slice none 0 0, .slice none 0 0, .slice none 0 0, .int .i64 0, .slice none 0 0], Res.row b5 29 [.int .i64 (n1_ : Nat), .int .i64 (n4_ : Nat), .int .i64 (n7_ : Nat), .int .u64 (n10_ : Nat), .int .u64 (n13_ : Nat), .int .u64 (n16_ : Nat), .int .u64 (n19_ : Nat), .int .u64 (n22_ : Nat), .bool false, .slice none 0 0, .slice none 0 0, .slice none 0 0, .int .i64 0, .slice none 0 0], Res.row b11 71 [v, .int .i64 (a'26_ : Nat), .bool bad'27_]])) w1 (hw.frameL [2] rfl hO)
  refine l_eq rfl rfl rfl ?_
  refine l_fld (o := 8) rfl (by kernel_rfl) rfl ?_
  refine l_st (cs := [.int .i64 (n1_ : Nat), .int .i64 (n4_ : Nat), .int .i64 (n7_ : Nat), .int .u64 (n10_ : Nat), .int .u64 (n13_ : Nat), .int .u64 (n16_ : Nat), .int .u64 (n19_ : Nat), .int .u64 (n22_ : Nat), .bool false, .slice none 0 0, .slice none 0 0, .slice none 0 0, .int .i64 0, .slice none 0 0]) 1 rfl rfl rfl (by kernel_rfl) rfl (Nat.le_of_ble_eq_true rfl) ?_
  refine l_end ?_
  refine c_reg ?_
  refine l_mv rfl ?_
  refine l_call (by kernel_rfl) rfl rfl (fun w' hw => ?_)
  refine (rinInt_s b11 v b a'26_ bad'27_ 8 w' (by first | assumption | omega | (simp <;> omega) | (constructor <;> (first | omega | (simp only [LenOk]; omega) | (simp <;> omega)))) (by first | assumption | omega | (simp <;> omega) | (constructor <;> (first | omega | (simp only [LenOk]; omega) | (simp <;> omega)))) (by first | assumption | omega | (simp <;> omega) | (constructor <;> (first | omega | (simp only [LenOk]; omega) | (simp <;> omega)))) (hw.rdTo hb [2] rfl) (hw.give [2] rfl (by decide))).mono ?_
  rintro _ w1 ⟨n28_, a'29_, bad'30_, rfl, hf12_1, hf12_1_1, hO⟩
  have hq10 := hf12_1.le
  refine (?_ : CL _ _ _ _ _ _ (Own w [] [Res.row b2 29 [.int .i64 0, .int .i64 0, .int .i64 0, .int .u64 (0 : Nat), .int .u64 (0 : Nat), .int .u64 (0 : Nat), .int .u64 (0 : Nat), .int .u64 (0 : Nat), .bool false, .slice none 0 0, .slice none 0 0, .slice none 0 0, .int .i64 0, .slice none 0 0], Res.row b5 29 [.int .i64 (n1_ : Nat), .int .i64 (n4_ : Nat), .int .i64 (n7_ : Nat), .int .u64 (n10_ : Nat), .int .u64 (n13_ : Nat), .int .u64 (n16_ : Nat), .int .u64 (n19_ : Nat), .int .u64 (n22_ : Nat), .bool (decide (((n25_ : Nat) : Int) = 1)), .slice none 0 0, .slice none 0 0, .slice none 0 0, .int .i64 0, .slice none 0 0], Res.row b11 71 [v, .int .i64 (a'29_ : Nat), .bool bad'30_]])) w1 (hw.frameL [2] rfl hO)
  refine l_as rfl ?_
  refine l_end ?_
  refine c_seq ?_
  refine c_reg ?_
  refine l_as rfl ?_
  refine l_end ?_
  refine c_block ?_
  refine c_loop5 (fun (k : Nat) (ev : Value) (es : List EntD) (a2 : Nat) (bad2 : Bool) => [(2, .pointer (some ⟨b2, 0, none⟩)), (4, .pointer (some ⟨b11, 0, none⟩)), (5, .pointer (some ⟨b5, 0, none⟩)), (6, .int .i64 (n28_ : Nat)), (7, .int .i64 (k : Nat))]) (fun (k : Nat) (ev : Value) (es : List EntD) (a2 : Nat) (bad2 : Bool) => (k ≤ n28_ ∧ es.length = k) ∧ RdS (pRep pEnt k) b a'29_ bad'30_ (es.map EntD.toEntA) a2 bad2 ∧ ∀ e ∈ es, (e.index < 18446744073709551616 ∧ e.term < 18446744073709551616) ∧ e.data.length ≤ b.length) (fun (k : Nat) (ev : Value) (es : List EntD) (a2 : Nat) (bad2 : Bool) => [Res.row b2 29 [.int .i64 0, .int .i64 0, .int .i64 0, .int .u64 (0 : Nat), .int .u64 (0 : Nat), .int .u64 (0 : Nat), .int .u64 (0 : Nat), .int .u64 (0 : Nat), .bool false, .slice none 0 0, .slice none 0 0, .slice none 0 0, .int .i64 0, .slice none 0 0], Res.row b5 29 [.int .i64 (n1_ : Nat), .int .i64 (n4_ : Nat), .int .i64 (n7_ : Nat), .int .u64 (n10_ : Nat), .int .u64 (n13_ : Nat), .int .u64 (n16_ : Nat), .int .u64 (n19_ : Nat), .int .u64 (n22_ : Nat), .bool (decide (((n25_ : Nat) : Int) = 1)), ev, .slice none 0 0, .slice none 0 0, .int .i64 0, .slice none 0 0], Res.row b11 71 [v, .int .i64 (a2 : Nat), .bool bad2], Res.vec 75 5 ev es.length (es.flatMap EntD.cells), Res.star (es.map EntD.dres)]) (fun (k : Nat) (ev : Value) (es : List EntD) (a2 : Nat) (bad2 : Bool) => n28_ - k) (fun w' hw => ⟨0, .slice none 0 0, [], a'29_, bad'30_, ⟨rfl, rfl, rfl, rfl, rfl, trivial⟩, ⟨⟨Nat.zero_le _, rfl⟩, RdS.pure _ hf12_1.le, by simp⟩, (own_nil hw 75 5).starNil⟩) (fun k ev es a2 bad2 g hΦ => ?_)
  have ha2 := hΦ.2.1.le
  have hlk := hΦ.1.2
  refine c_seq ?_
  refine c_reg ?_
  refine l_mv rfl ?_
  refine l_mv rfl ?_
  refine l_lss rfl rfl rfl ?_
  refine l_mv rfl ?_
  refine l_band (q := ((k : Nat) : Int) < ((n28_ : Nat) : Int)) 5 3 [51, 50, 49, 48, 47] ((!bad2) = true) rfl rfl rfl rfl rfl rfl trivial rfl (fun h14_3 => ?_) (fun g14_9 => ?_)
  ·
    refine l_on rfl (gT h14_3) ?_
    refine l_mv rfl ?_
    refine l_on rfl (gT h14_3) ?_
    refine l_nck rfl rfl ?_
    refine l_on rfl (gT h14_3) ?_
    refine l_fld (o := 2) rfl (by kernel_rfl) rfl ?_
    refine l_on rfl (gT h14_3) ?_
    refine l_ldo 2 (v := .bool bad2) rfl rfl rfl (by kernel_rfl) rfl ?_
    refine l_on rfl (gT h14_3) ?_
    refine l_not (b := bad2) rfl rfl ?_
    exact l_nil (fun w' hw => ⟨(by repeat (first | exact Out.refl _ _ | refine Out.upd rfl ?_ | refine Out.msk rfl ?_)), (bool_dec _), hw⟩)
  refine l_end ?_
  refine c_dec rfl (fun c1 => ?_) (fun c1 => ?_)
  ·
    refine c_skipC ?_
    refine c_seq ?_
    refine c_block ?_
    refine c_reg ?_
    refine l_mv rfl ?_
    refine l_call (by kernel_rfl) rfl rfl (fun w' hw => ?_)
    refine (rentRead_s b11 v b a2 bad2 w' (by first | assumption | omega | (simp <;> omega) | (constructor <;> (first | omega | (simp only [LenOk]; omega) | (simp <;> omega)))) (by first | assumption | omega | (simp <;> omega) | (constructor <;> (first | omega | (simp only [LenOk]; omega) | (simp <;> omega)))) (hw.rdTo hb [2] rfl) (hw.give [2] rfl (by decide))).mono ?_
    rintro _ w1 ⟨i31_, t32_, k33_, d34_, dv35_, dl36_, a'37_, bad'38_, rfl, hf16_1, hf16_1_1, hf16_1_2, hO⟩
    refine (?_ : CL _ _ _ _ _ _ (Own w [] [Res.row b2 29 [.int .i64 0, .int .i64 0, .int .i64 0, .int .u64 (0 : Nat), .int .u64 (0 : Nat), .int .u64 (0 : Nat), .int .u64 (0 : Nat), .int .u64 (0 : Nat), .bool false, .slice none 0 0, .slice none 0 0, .slice none 0 0, .int .i64 0, .slice none 0 0], Res.row b5 29 [.int .i64 (n1_ : Nat), .int .i64 (n4_ : Nat), .int .i64 (n7_ : Nat), .int .u64 (n10_ : Nat), .int .u64 (n13_ : Nat), .int .u64 (n16_ : Nat), .int .u64 (n19_ : Nat), .int .u64 (n22_ : Nat), .bool (decide (((n25_ : Nat) : Int) = 1)), ev, .slice none 0 0, .slice none 0 0, .int .i64 0, .slice none 0 0], Res.vec 75 5 ev es.length (es.flatMap EntD.cells), Res.star (es.map EntD.dres), Res.row b11 71 [v, .int .i64 (a'37_ : Nat), .bool bad'38_], Res.vec 5 1 dv35_ dl36_.length (dl36_.map vb)])) w1 (hw.frameL [2] rfl hO)
    refine l_new (v := .agg #[.int .u64 (0 : Nat), .int .u64 (0 : Nat), .int .i64 0, .int .i64 0, .slice none 0 0]) (by kernel_rfl) rfl (fun b8 => ?_)
    refine l_haveO (fun w' hw => Own.cell1Vec (i := 5) rfl hw) (fun hc1_ => ?_)
    refine l_stN (cs := [.int .u64 (0 : Nat), .int .u64 (0 : Nat), .int .i64 0, .int .i64 0, .slice none 0 0]) (vs := [.int .u64 (i31_ : Nat), .int .u64 (t32_ : Nat), .int .i64 (k33_ : Nat), .int .i64 d34_, dv35_]) 6 rfl rfl rfl (by kernel_rfl) (allc_cons rfl (allc_cons rfl (allc_cons rfl (allc_cons rfl (allc_cons hc1_ allc_nil))))) (Nat.le_of_ble_eq_true rfl) ?_
    refine l_end ?_
    refine c_last ?_
    refine l_fld (o := 9) rfl (by kernel_rfl) rfl ?_
    refine l_ldo 1 (v := ev) rfl rfl rfl (by kernel_rfl) rfl ?_
    refine l_ldr (cs := [.int .u64 (i31_ : Nat), .int .u64 (t32_ : Nat), .int .i64 (k33_ : Nat), .int .i64 d34_, dv35_]) 6 rfl rfl (by kernel_rfl) rfl ?_
    refine l_bsl (e := 75) (sz := 5) (vs := [.agg #[.int .u64 (i31_ : Nat), .int .u64 (t32_ : Nat), .int .i64 (k33_ : Nat), .int .i64 d34_, dv35_]]) (by kernel_rfl) rfl rfl (by simp [Value.cells, EntD.cells]) (by decide) rfl (fun b60 => ?_)
    refine l_appF (g := EntD.cells) (sz := 5) (by' := 56) (fun _ => rfl) (l := es) (l' := [({ index := i31_, term := t32_, kind := ((k33_ : Nat) : Int), delta := d34_, dv := dv35_, data := dl36_ } : EntD)]) (all_cons ((allc_cons rfl (allc_cons rfl (allc_cons rfl (allc_cons rfl (allc_cons hc1_ allc_nil)))))) (by simp)) 2 (by kernel_rfl) rfl rfl rfl (fun w' hw' => Vec.sl (Own.holds hw' 7 _ rfl)) (by first | omega | (simp; omega)) (by decide) rfl (fun v61 => ?_)
    refine l_fld (o := 9) rfl (by kernel_rfl) rfl ?_
    refine l_haveO (fun w' hw => Own.cell1Vec (i := 2) rfl hw) (fun hc2_ => ?_)
    refine l_st (cs := [.int .i64 (n1_ : Nat), .int .i64 (n4_ : Nat), .int .i64 (n7_ : Nat), .int .u64 (n10_ : Nat), .int .u64 (n13_ : Nat), .int .u64 (n16_ : Nat), .int .u64 (n19_ : Nat), .int .u64 (n22_ : Nat), .bool (decide (((n25_ : Nat) : Int) = 1)), ev, .slice none 0 0, .slice none 0 0, .int .i64 0, .slice none 0 0]) 1 rfl rfl rfl (by kernel_rfl) hc2_ (Nat.le_of_ble_eq_true rfl) ?_
    refine l_end ?_
    refine c_last ?_
    refine l_mv rfl ?_
    refine l_add rfl rfl (wi64 (by omega)) rfl ?_
    refine l_as rfl ?_
    exact l_nil (fun w' hw => ⟨k + 1, v61, es ++ [({ index := i31_, term := t32_, kind := ((k33_ : Nat) : Int), delta := d34_, dv := dv35_, data := dl36_ } : EntD)], a'37_, bad'38_, ⟨rfl, rfl, rfl, rfl, rfl, trivial⟩, ⟨⟨by omega, by simp [hlk]⟩, by rw [List.map_append]; exact hΦ.2.1.snoc hf16_1, fun e he => by rcases List.mem_append.1 he with h | h; exact hΦ.2.2 e h; simp at h; rw [h]; exact ⟨hf16_1_1, hf16_1_2⟩⟩, ((hw.starMap (x := ({ index := i31_, term := t32_, kind := ((k33_ : Nat) : Int), delta := d34_, dv := dv35_, data := dl36_ } : EntD)) 3 5 (by decide) rfl rfl).sel [0, 1, 4, 2, 3] rfl (by decide)), (by omega)⟩)
  ·
    refine c_exitC rfl ?_
    refine c_reg ?_
    refine l_mv rfl ?_
    refine l_call (by kernel_rfl) rfl rfl (fun w' hw => ?_)
    refine (rconfRead_s b11 v b a2 bad2 w' (by first | assumption | omega | (simp <;> omega) | (constructor <;> (first | omega | (simp only [LenOk]; omega) | (simp <;> omega)))) (by first | assumption | omega | (simp <;> omega) | (constructor <;> (first | omega | (simp only [LenOk]; omega) | (simp <;> omega)))) (hw.rdTo hb [2] rfl) (hw.give [2] rfl (by decide))).mono ?_
    rintro _ w1 ⟨r139_, l140_, r241_, l242_, a'43_, bad'44_, rfl, hf18_1, hf18_1_1, hf18_1_2, hO⟩
    have hq11 := hf18_1.le
    refine (?_ : CL _ _ _ _ _ _ (Own w [] [Res.row b2 29 [.int .i64 0, .int .i64 0, .int .i64 0, .int .u64 (0 : Nat), .int .u64 (0 : Nat), .int .u64 (0 : Nat), .int .u64 (0 : Nat), .int .u64 (0 : Nat), .bool false, .slice none 0 0, .slice none 0 0, .slice none 0 0, .int .i64 0, .slice none 0 0], Res.row b5 29 [.int .i64 (n1_ : Nat), .int .i64 (n4_ : Nat), .int .i64 (n7_ : Nat), .int .u64 (n10_ : Nat), .int .u64 (n13_ : Nat), .int .u64 (n16_ : Nat), .int .u64 (n19_ : Nat), .int .u64 (n22_ : Nat), .bool (decide (((n25_ : Nat) : Int) = 1)), ev, .slice none 0 0, .slice none 0 0, .int .i64 0, .slice none 0 0], Res.vec 75 5 ev es.length (es.flatMap EntD.cells), Res.star (es.map EntD.dres), Res.row b11 71 [v, .int .i64 (a'43_ : Nat), .bool bad'44_], Res.vec 3 1 r139_ l140_.length (l140_.flatMap I1), Res.vec 3 1 r241_ l242_.length (l242_.flatMap I1)])) w1 (hw.frameL [2] rfl hO)
    refine l_fld (o := 10) rfl (by kernel_rfl) rfl ?_
    refine l_haveO (fun w' hw => Own.cell1Vec (i := 5) rfl hw) (fun hc3_ => ?_)
    refine l_haveO (fun w' hw => Own.cell1Vec (i := 6) rfl hw) (fun hc4_ => ?_)
    refine l_stN (cs := [.int .i64 (n1_ : Nat), .int .i64 (n4_ : Nat), .int .i64 (n7_ : Nat), .int .u64 (n10_ : Nat), .int .u64 (n13_ : Nat), .int .u64 (n16_ : Nat), .int .u64 (n19_ : Nat), .int .u64 (n22_ : Nat), .bool (decide (((n25_ : Nat) : Int) = 1)), ev, .slice none 0 0, .slice none 0 0, .int .i64 0, .slice none 0 0]) (vs := [r139_, r241_]) 1 rfl rfl rfl (by kernel_rfl) (allc_cons hc3_ (allc_cons hc4_ allc_nil)) (Nat.le_of_ble_eq_true rfl) ?_
    refine l_end ?_
    refine c_reg ?_
    refine l_mv rfl ?_
    refine l_call (by kernel_rfl) rfl rfl (fun w' hw => ?_)
    refine (rinInt_s b11 v b a'43_ bad'44_ 65536 w' (by first | assumption | omega | (simp <;> omega) | (constructor <;> (first | omega | (simp only [LenOk]; omega) | (simp <;> omega)))) (by first | assumption | omega | (simp <;> omega) | (constructor <;> (first | omega | (simp only [LenOk]; omega) | (simp <;> omega)))) (by first | assumption | omega | (simp <;> omega) | (constructor <;> (first | omega | (simp only [LenOk]; omega) | (simp <;> omega)))) (hw.rdTo hb [4] rfl) (hw.give [4] rfl (by decide))).mono ?_
    rintro _ w1 ⟨n45_, a'46_, bad'47_, rfl, hf19_1, hf19_1_1, hO⟩
    have hq12 := hf19_1.le
    refine (?_ : CL _ _ _ _ _ _ (Own w [] [Res.row b2 29 [.int .i64 0, .int .i64 0, .int .i64 0, .int .u64 (0 : Nat), .int .u64 (0 : Nat), .int .u64 (0 : Nat), .int .u64 (0 : Nat), .int .u64 (0 : Nat), .bool false, .slice none 0 0, .slice none 0 0, .slice none 0 0, .int .i64 0, .slice none 0 0], Res.row b5 29 [.int .i64 (n1_ : Nat), .int .i64 (n4_ : Nat), .int .i64 (n7_ : Nat), .int .u64 (n10_ : Nat), .int .u64 (n13_ : Nat), .int .u64 (n16_ : Nat), .int .u64 (n19_ : Nat), .int .u64 (n22_ : Nat), .bool (decide (((n25_ : Nat) : Int) = 1)), ev, r139_, r241_, .int .i64 0, .slice none 0 0], Res.vec 75 5 ev es.length (es.flatMap EntD.cells), Res.star (es.map EntD.dres), Res.vec 3 1 r139_ l140_.length (l140_.flatMap I1), Res.vec 3 1 r241_ l242_.length (l242_.flatMap I1), Res.row b11 71 [v, .int .i64 (a'46_ : Nat), .bool bad'47_]])) w1 (hw.frameL [4] rfl hO)
    refine l_fld (o := 12) rfl (by kernel_rfl) rfl ?_
    refine l_st (cs := [.int .i64 (n1_ : Nat), .int .i64 (n4_ : Nat), .int .i64 (n7_ : Nat), .int .u64 (n10_ : Nat), .int .u64 (n13_ : Nat), .int .u64 (n16_ : Nat), .int .u64 (n19_ : Nat), .int .u64 (n22_ : Nat), .bool (decide (((n25_ : Nat) : Int) = 1)), ev, r139_, r241_, .int .i64 0, .slice none 0 0]) 1 rfl rfl rfl (by kernel_rfl) rfl (Nat.le_of_ble_eq_true rfl) ?_
    refine l_end ?_
    refine c_reg ?_
    refine l_mv rfl ?_
    refine l_call (by kernel_rfl) rfl rfl (fun w' hw => ?_)
    refine (rinData_s b11 v b a'46_ bad'47_ w' (by first | assumption | omega | (simp <;> omega) | (constructor <;> (first | omega | (simp only [LenOk]; omega) | (simp <;> omega)))) (by first | assumption | omega | (simp <;> omega) | (constructor <;> (first | omega | (simp only [LenOk]; omega) | (simp <;> omega)))) (hw.rdTo hb [6] rfl) (hw.give [6] rfl (by decide))).mono ?_
    rintro r48_ w1 ⟨_, d49_, a'50_, bad'51_, rfl, hf20_1, hf20_1_1, hO⟩
    have hR : RdS pMsg b 0 false (⟨((n1_ : Nat) : Int), ((n4_ : Nat) : Int), ((n7_ : Nat) : Int), n10_, n13_, n16_, n19_, n22_, decide (((n25_ : Nat) : Int) = 1), es.map EntD.toEntA, ⟨l140_, l242_⟩, ((n45_ : Nat) : Int), d49_⟩ : MsgA) a'50_ bad'51_ := RdS.bind (RdS.int hf3_1) (RdS.bind (RdS.int hf4_1) (RdS.bind (RdS.int hf5_1) (RdS.bind hf6_1 (RdS.bind hf7_1 (RdS.bind hf8_1 (RdS.bind hf9_1 (RdS.bind hf10_1 (RdS.bind (RdS.flag' hf11_1) (RdS.bind (ents_end2 hf12_1 hΦ.2.1 c1 (by omega)) (RdS.bind hf18_1 (RdS.bind (RdS.int hf19_1) (RdS.bind hf20_1 (RdS.pure _ hf20_1.le)))))))))))))
    have hN : MsgD.nums ⟨((n1_ : Nat) : Int), ((n4_ : Nat) : Int), ((n7_ : Nat) : Int), n10_, n13_, n16_, n19_, n22_, decide (((n25_ : Nat) : Int) = 1), ev, es, ⟨r139_, l140_, r241_, l242_⟩, ((n45_ : Nat) : Int), r48_, d49_⟩ := ⟨hf6_1_1, hf7_1_1, hf8_1_1, hf9_1_1, hf10_1_1⟩
    have hSm : MsgD.small ⟨((n1_ : Nat) : Int), ((n4_ : Nat) : Int), ((n7_ : Nat) : Int), n10_, n13_, n16_, n19_, n22_, decide (((n25_ : Nat) : Int) = 1), ev, es, ⟨r139_, l140_, r241_, l242_⟩, ((n45_ : Nat) : Int), r48_, d49_⟩ b.length := ⟨⟨(by have := hf12_1_1; show es.length ≤ 8; omega), hΦ.2.2⟩, ⟨hf18_1_1, hf18_1_2⟩, hf20_1_1⟩
    refine (?_ : CL _ _ _ _ _ _ (Own w [] [Res.row b2 29 [.int .i64 0, .int .i64 0, .int .i64 0, .int .u64 (0 : Nat), .int .u64 (0 : Nat), .int .u64 (0 : Nat), .int .u64 (0 : Nat), .int .u64 (0 : Nat), .bool false, .slice none 0 0, .slice none 0 0, .slice none 0 0, .int .i64 0, .slice none 0 0], Res.row b5 29 [.int .i64 (n1_ : Nat), .int .i64 (n4_ : Nat), .int .i64 (n7_ : Nat), .int .u64 (n10_ : Nat), .int .u64 (n13_ : Nat), .int .u64 (n16_ : Nat), .int .u64 (n19_ : Nat), .int .u64 (n22_ : Nat), .bool (decide (((n25_ : Nat) : Int) = 1)), ev, r139_, r241_, .int .i64 (n45_ : Nat), .slice none 0 0], Res.vec 75 5 ev es.length (es.flatMap EntD.cells), Res.star (es.map EntD.dres), Res.vec 3 1 r139_ l140_.length (l140_.flatMap I1), Res.vec 3 1 r241_ l242_.length (l242_.flatMap I1), Res.row b11 71 [v, .int .i64 (a'50_ : Nat), .bool bad'51_], Res.vec 5 1 r48_ d49_.length (d49_.map vb)])) w1 (hw.frameL [6] rfl hO)
    refine l_fld (o := 13) rfl (by kernel_rfl) rfl ?_
    refine l_haveO (fun w' hw => Own.cell1Vec (i := 7) rfl hw) (fun hc5_ => ?_)
    refine l_st (cs := [.int .i64 (n1_ : Nat), .int .i64 (n4_ : Nat), .int .i64 (n7_ : Nat), .int .u64 (n10_ : Nat), .int .u64 (n13_ : Nat), .int .u64 (n16_ : Nat), .int .u64 (n19_ : Nat), .int .u64 (n22_ : Nat), .bool (decide (((n25_ : Nat) : Int) = 1)), ev, r139_, r241_, .int .i64 (n45_ : Nat), .slice none 0 0]) 1 rfl rfl rfl (by kernel_rfl) hc5_ (Nat.le_of_ble_eq_true rfl) ?_
    refine l_end ?_
    refine c_seq ?_
    refine c_heldo [1, 2, 4, 5, 7] rfl (by decide) (by kernel_rfl) (fun w' hw hS => ?_)
    refine h_take 0 rfl (by kernel_rfl) (by kernel_rfl) (by kernel_rfl) (v_ldr (cs := [.int .i64 (n1_ : Nat), .int .i64 (n4_ : Nat), .int .i64 (n7_ : Nat), .int .u64 (n10_ : Nat), .int .u64 (n13_ : Nat), .int .u64 (n16_ : Nat), .int .u64 (n19_ : Nat), .int .u64 (n22_ : Nat), .bool (decide (((n25_ : Nat) : Int) = 1)), ev, r139_, r241_, .int .i64 (n45_ : Nat), r48_]) 0 rfl rfl (by kernel_rfl)) rfl hS ?_
    refine h_take 1 rfl (by kernel_rfl) (by kernel_rfl) (by kernel_rfl) (v_mv) rfl hS ?_
    refine h_one 2 (by kernel_rfl) rfl hw ?_
    refine l_call (by kernel_rfl) rfl rfl (fun w' hw => ?_)
    refine (whole_s b11 v b a'50_ bad'51_ w' (by first | assumption | omega | (simp <;> omega) | (constructor <;> (first | omega | (simp only [LenOk]; omega) | (simp <;> omega)))) (hw.rdTo hb [6] rfl) (hw.give [6] rfl (by decide))).mono ?_
    rintro _ w1 ⟨rfl, hO⟩
    refine (?_ : CL _ _ _ _ _ _ (Own w [] [Res.row b2 29 [.int .i64 0, .int .i64 0, .int .i64 0, .int .u64 (0 : Nat), .int .u64 (0 : Nat), .int .u64 (0 : Nat), .int .u64 (0 : Nat), .int .u64 (0 : Nat), .bool false, .slice none 0 0, .slice none 0 0, .slice none 0 0, .int .i64 0, .slice none 0 0], Res.row b5 29 [.int .i64 (n1_ : Nat), .int .i64 (n4_ : Nat), .int .i64 (n7_ : Nat), .int .u64 (n10_ : Nat), .int .u64 (n13_ : Nat), .int .u64 (n16_ : Nat), .int .u64 (n19_ : Nat), .int .u64 (n22_ : Nat), .bool (decide (((n25_ : Nat) : Int) = 1)), ev, r139_, r241_, .int .i64 (n45_ : Nat), r48_], Res.vec 75 5 ev es.length (es.flatMap EntD.cells), Res.star (es.map EntD.dres), Res.vec 3 1 r139_ l140_.length (l140_.flatMap I1), Res.vec 3 1 r241_ l242_.length (l242_.flatMap I1), Res.vec 5 1 r48_ d49_.length (d49_.map vb), Res.row b11 71 [v, .int .i64 (a'50_ : Nat), .bool bad'51_]])) w1 (hw.frameL [6] rfl hO)
    refine l_nil (fun w' hw => ?_)
    have hS := hw.sel [1, 2, 4, 5, 6] rfl (by decide)
    refine ⟨hS, ?_⟩
    refine h_take 3 rfl (by kernel_rfl) (by kernel_rfl) (by kernel_rfl) (v_mv) rfl hS ?_
    by_cases g21_3 : bad'51_ = false ∧ a'50_ = b.length
    ·
      refine h_takeg 4 rfl rfl (gT g21_3) (by kernel_rfl) (by kernel_rfl) (by kernel_rfl) (v_ldr (cs := [.int .i64 (n1_ : Nat), .int .i64 (n4_ : Nat), .int .i64 (n7_ : Nat), .int .u64 (n10_ : Nat), .int .u64 (n13_ : Nat), .int .u64 (n16_ : Nat), .int .u64 (n19_ : Nat), .int .u64 (n22_ : Nat), .bool (decide (((n25_ : Nat) : Int) = 1)), ev, r139_, r241_, .int .i64 (n45_ : Nat), r48_]) 0 rfl rfl (by kernel_rfl)) rfl hS ?_
      refine h_one 5 (by kernel_rfl) rfl hw ?_
      refine l_on rfl (gT g21_3) ?_
      refine l_call (by kernel_rfl) rfl rfl (fun w' hw => ?_)
      refine (rmsgOK_s ({ kind := ((n1_ : Nat) : Int), src := ((n4_ : Nat) : Int), dst := ((n7_ : Nat) : Int), term := n10_, index := n13_, logTerm := n16_, commit := n19_, round := n22_, flag := decide (((n25_ : Nat) : Int) = 1), ev := ev, ents := es, conf := ({ vv := r139_, vs := l140_, lv := r241_, ls := l242_ } : ConfD), off := ((n45_ : Nat) : Int), dv := r48_, data := d49_ } : MsgD) w' (hSm.wf hN (by omega)) ⟨(hw.rdVec0 2 rfl), (EntD.rd.star0 3 rfl hw), ⟨(hw.rdVec0 4 rfl), (hw.rdVec0 5 rfl)⟩, (hw.rdVec0 6 rfl)⟩).mono ?_
      rintro _ w1 ⟨rfl, hO⟩
      refine (?_ : CL _ _ _ _ _ _ (Own w [] [Res.row b2 29 [.int .i64 0, .int .i64 0, .int .i64 0, .int .u64 (0 : Nat), .int .u64 (0 : Nat), .int .u64 (0 : Nat), .int .u64 (0 : Nat), .int .u64 (0 : Nat), .bool false, .slice none 0 0, .slice none 0 0, .slice none 0 0, .int .i64 0, .slice none 0 0], Res.row b5 29 [.int .i64 (n1_ : Nat), .int .i64 (n4_ : Nat), .int .i64 (n7_ : Nat), .int .u64 (n10_ : Nat), .int .u64 (n13_ : Nat), .int .u64 (n16_ : Nat), .int .u64 (n19_ : Nat), .int .u64 (n22_ : Nat), .bool (decide (((n25_ : Nat) : Int) = 1)), ev, r139_, r241_, .int .i64 (n45_ : Nat), r48_], Res.vec 75 5 ev es.length (es.flatMap EntD.cells), Res.star (es.map EntD.dres), Res.vec 3 1 r139_ l140_.length (l140_.flatMap I1), Res.vec 3 1 r241_ l242_.length (l242_.flatMap I1), Res.vec 5 1 r48_ d49_.length (d49_.map vb), Res.row b11 71 [v, .int .i64 (a'50_ : Nat), .bool bad'51_]])) w1 (hw.frame0 hO)
      refine l_nil (fun w' hw => ?_)
      have hS := hw.sel [1, 2, 4, 5, 6] rfl (by decide)
      refine ⟨hS, ?_⟩
      refine h_take 6 rfl (by kernel_rfl) (by kernel_rfl) (by kernel_rfl) (v_pickT (gT g21_3)) rfl hS ?_
      refine h_one 7 (by kernel_rfl) rfl hw ?_
      refine l_haveO (fun w' hw => Own.cell1Vec (i := 2) rfl hw) (fun hc7_ => ?_)
      refine l_stN (cs := [.int .i64 0, .int .i64 0, .int .i64 0, .int .u64 (0 : Nat), .int .u64 (0 : Nat), .int .u64 (0 : Nat), .int .u64 (0 : Nat), .int .u64 (0 : Nat), .bool false, .slice none 0 0, .slice none 0 0, .slice none 0 0, .int .i64 0, .slice none 0 0]) (vs := [.int .i64 (n1_ : Nat), .int .i64 (n4_ : Nat), .int .i64 (n7_ : Nat), .int .u64 (n10_ : Nat), .int .u64 (n13_ : Nat), .int .u64 (n16_ : Nat), .int .u64 (n19_ : Nat), .int .u64 (n22_ : Nat), .bool (decide (((n25_ : Nat) : Int) = 1)), ev, r139_, r241_, .int .i64 (n45_ : Nat), r48_]) 0 rfl rfl rfl (by kernel_rfl) (allc_cons rfl (allc_cons rfl (allc_cons rfl (allc_cons rfl (allc_cons rfl (allc_cons rfl (allc_cons rfl (allc_cons rfl (allc_cons rfl (allc_cons hc7_ (allc_cons hc3_ (allc_cons hc4_ (allc_cons rfl (allc_cons hc5_ allc_nil)))))))))))))) (Nat.le_of_ble_eq_true rfl) ?_
      refine l_nil (fun w' hw => ?_)
      have hS := hw.sel [1, 2, 4, 5, 6] rfl (by decide)
      refine ⟨hS, ?_⟩
      refine h_take 8 rfl (by kernel_rfl) (by kernel_rfl) (by kernel_rfl) (v_as) rfl hS ?_
      refine h_done (by kernel_rfl) ?_
      refine (?_ : C _ _ _ _ _ _ _ (Own w [] [Res.row b2 29 [.int .i64 (n1_ : Nat), .int .i64 (n4_ : Nat), .int .i64 (n7_ : Nat), .int .u64 (n10_ : Nat), .int .u64 (n13_ : Nat), .int .u64 (n16_ : Nat), .int .u64 (n19_ : Nat), .int .u64 (n22_ : Nat), .bool (decide (((n25_ : Nat) : Int) = 1)), ev, r139_, r241_, .int .i64 (n45_ : Nat), r48_], Res.row b5 29 [.int .i64 (n1_ : Nat), .int .i64 (n4_ : Nat), .int .i64 (n7_ : Nat), .int .u64 (n10_ : Nat), .int .u64 (n13_ : Nat), .int .u64 (n16_ : Nat), .int .u64 (n19_ : Nat), .int .u64 (n22_ : Nat), .bool (decide (((n25_ : Nat) : Int) = 1)), ev, r139_, r241_, .int .i64 (n45_ : Nat), r48_], Res.vec 75 5 ev es.length (es.flatMap EntD.cells), Res.star (es.map EntD.dres), Res.vec 3 1 r139_ l140_.length (l140_.flatMap I1), Res.vec 3 1 r241_ l242_.length (l242_.flatMap I1), Res.vec 5 1 r48_ d49_.length (d49_.map vb), Res.row b11 71 [v, .int .i64 (a'50_ : Nat), .bool bad'51_]])) _ hw
      exact c_ret (retc2 (cs := [.int .i64 (n1_ : Nat), .int .i64 (n4_ : Nat), .int .i64 (n7_ : Nat), .int .u64 (n10_ : Nat), .int .u64 (n13_ : Nat), .int .u64 (n16_ : Nat), .int .u64 (n19_ : Nat), .int .u64 (n22_ : Nat), .bool (decide (((n25_ : Nat) : Int) = 1)), ev, r139_, r241_, .int .i64 (n45_ : Nat), r48_]) (v := .bool (decide (({ kind := ((n1_ : Nat) : Int), src := ((n4_ : Nat) : Int), dst := ((n7_ : Nat) : Int), term := n10_, index := n13_, logTerm := n16_, commit := n19_, round := n22_, flag := decide (((n25_ : Nat) : Int) = 1), ev := ev, ents := es, conf := ({ vv := r139_, vs := l140_, lv := r241_, ls := l242_ } : ConfD), off := ((n45_ : Nat) : Int), dv := r48_, data := d49_ } : MsgD).a.ok))) rfl rfl rfl (by kernel_rfl) (Own.rowCells (i := 0) rfl) (fun w' hw => ⟨((n1_ : Nat) : Int), ((n4_ : Nat) : Int), ((n7_ : Nat) : Int), n10_, n13_, n16_, n19_, n22_, (decide (((n25_ : Nat) : Int) = 1)), ev, es, r139_, l140_, r241_, l242_, ((n45_ : Nat) : Int), r48_, d49_, (decide (({ kind := ((n1_ : Nat) : Int), src := ((n4_ : Nat) : Int), dst := ((n7_ : Nat) : Int), term := n10_, index := n13_, logTerm := n16_, commit := n19_, round := n22_, flag := decide (((n25_ : Nat) : Int) = 1), ev := ev, ents := es, conf := ({ vv := r139_, vs := l140_, lv := r241_, ls := l242_ } : ConfD), off := ((n45_ : Nat) : Int), dv := r48_, data := d49_ } : MsgD).a.ok)), rfl, RefPost.on hR g21_3 decide_eq_true_iff, hN, hSm, hw.sel [2, 3, 4, 5, 6] rfl (by decide)⟩))
    ·
      refine h_offg 4 rfl rfl (gF g21_3) rfl (by kernel_rfl) (by kernel_rfl) (by kernel_rfl) rfl hS ?_
      refine h_offg 5 rfl rfl (gF g21_3) rfl (by kernel_rfl) (by kernel_rfl) (by kernel_rfl) rfl hS ?_
      refine h_take 6 rfl (by kernel_rfl) (by kernel_rfl) (by kernel_rfl) (v_pickF (gF g21_3)) rfl hS ?_
      refine h_one 7 (by kernel_rfl) rfl hw ?_
      refine l_haveO (fun w' hw => Own.cell1Vec (i := 2) rfl hw) (fun hc8_ => ?_)
      refine l_stN (cs := [.int .i64 0, .int .i64 0, .int .i64 0, .int .u64 (0 : Nat), .int .u64 (0 : Nat), .int .u64 (0 : Nat), .int .u64 (0 : Nat), .int .u64 (0 : Nat), .bool false, .slice none 0 0, .slice none 0 0, .slice none 0 0, .int .i64 0, .slice none 0 0]) (vs := [.int .i64 (n1_ : Nat), .int .i64 (n4_ : Nat), .int .i64 (n7_ : Nat), .int .u64 (n10_ : Nat), .int .u64 (n13_ : Nat), .int .u64 (n16_ : Nat), .int .u64 (n19_ : Nat), .int .u64 (n22_ : Nat), .bool (decide (((n25_ : Nat) : Int) = 1)), ev, r139_, r241_, .int .i64 (n45_ : Nat), r48_]) 0 rfl rfl rfl (by kernel_rfl) (allc_cons rfl (allc_cons rfl (allc_cons rfl (allc_cons rfl (allc_cons rfl (allc_cons rfl (allc_cons rfl (allc_cons rfl (allc_cons rfl (allc_cons hc8_ (allc_cons hc3_ (allc_cons hc4_ (allc_cons rfl (allc_cons hc5_ allc_nil)))))))))))))) (Nat.le_of_ble_eq_true rfl) ?_
      refine l_nil (fun w' hw => ?_)
      have hS := hw.sel [1, 2, 4, 5, 6] rfl (by decide)
      refine ⟨hS, ?_⟩
      refine h_take 8 rfl (by kernel_rfl) (by kernel_rfl) (by kernel_rfl) (v_as) rfl hS ?_
      refine h_done (by kernel_rfl) ?_
      refine (?_ : C _ _ _ _ _ _ _ (Own w [] [Res.row b2 29 [.int .i64 (n1_ : Nat), .int .i64 (n4_ : Nat), .int .i64 (n7_ : Nat), .int .u64 (n10_ : Nat), .int .u64 (n13_ : Nat), .int .u64 (n16_ : Nat), .int .u64 (n19_ : Nat), .int .u64 (n22_ : Nat), .bool (decide (((n25_ : Nat) : Int) = 1)), ev, r139_, r241_, .int .i64 (n45_ : Nat), r48_], Res.row b5 29 [.int .i64 (n1_ : Nat), .int .i64 (n4_ : Nat), .int .i64 (n7_ : Nat), .int .u64 (n10_ : Nat), .int .u64 (n13_ : Nat), .int .u64 (n16_ : Nat), .int .u64 (n19_ : Nat), .int .u64 (n22_ : Nat), .bool (decide (((n25_ : Nat) : Int) = 1)), ev, r139_, r241_, .int .i64 (n45_ : Nat), r48_], Res.vec 75 5 ev es.length (es.flatMap EntD.cells), Res.star (es.map EntD.dres), Res.vec 3 1 r139_ l140_.length (l140_.flatMap I1), Res.vec 3 1 r241_ l242_.length (l242_.flatMap I1), Res.vec 5 1 r48_ d49_.length (d49_.map vb), Res.row b11 71 [v, .int .i64 (a'50_ : Nat), .bool bad'51_]])) _ hw
      exact c_ret (retc2 (cs := [.int .i64 (n1_ : Nat), .int .i64 (n4_ : Nat), .int .i64 (n7_ : Nat), .int .u64 (n10_ : Nat), .int .u64 (n13_ : Nat), .int .u64 (n16_ : Nat), .int .u64 (n19_ : Nat), .int .u64 (n22_ : Nat), .bool (decide (((n25_ : Nat) : Int) = 1)), ev, r139_, r241_, .int .i64 (n45_ : Nat), r48_]) (v := .bool false) rfl rfl rfl (by kernel_rfl) (Own.rowCells (i := 0) rfl) (fun w' hw => ⟨((n1_ : Nat) : Int), ((n4_ : Nat) : Int), ((n7_ : Nat) : Int), n10_, n13_, n16_, n19_, n22_, (decide (((n25_ : Nat) : Int) = 1)), ev, es, r139_, l140_, r241_, l242_, ((n45_ : Nat) : Int), r48_, d49_, false, rfl, RefPost.off hR g21_3, hN, hSm, hw.sel [2, 3, 4, 5, 6] rfl (by decide)⟩))
end Go.Proofs.YtlkoekhjegaimaaGreat
