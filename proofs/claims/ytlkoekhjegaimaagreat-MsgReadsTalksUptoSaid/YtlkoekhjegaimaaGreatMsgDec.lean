/-
  MESSAGES OF BYTES: the program's readers; and when two messages are the same.
-/
import Derived.Test.YtlkoekhjegaimaaGreatDec
import Derived.Test.YtlkoekhjegaimaaGreatMsgD
set_option linter.unusedVariables false
set_option maxRecDepth 10000
namespace Go.Proofs.YtlkoekhjegaimaaGreat
open Go Go.Sc Go.Proofs

def pFlag : List UInt8 → Nat → Option (Bool × Nat) := pBind (pUpto 1) fun n => pPure (n == 1)
def pEnts : List UInt8 → Nat → Option (List EntA × Nat) := pBind (pUpto 8) fun n => pRep pEnt n
def pMsg : List UInt8 → Nat → Option (MsgA × Nat) :=
  pBind (pInt 9) fun k => pBind (pInt 16) fun s => pBind (pInt 16) fun d => pBind pNum fun t => pBind pNum fun i => pBind pNum fun lt => pBind pNum fun c => pBind pNum fun r => pBind pFlag fun f =>
    pBind pEnts fun es => pBind pConf fun cf => pBind (pInt 65536) fun o => pBind pBytes fun b => pPure ⟨k, s, d, t, i, lt, c, r, f, es, cf, o, b⟩
theorem ents_end {b : List UInt8} {a a1 a2 n k : Nat} {bad bad1 bad2 : Bool} {l : List EntA} (h1 : RdS (pUpto 8) b a bad n a1 bad1) (h2 : RdS (pRep pEnt k) b a1 bad1 l a2 bad2) (e : k = n) : RdS pEnts b a bad l a2 bad2 := by
  subst e; exact h1.bind h2
def msgZ : MsgA := ⟨0, 0, 0, 0, 0, 0, 0, 0, false, [], ⟨[], []⟩, 0, []⟩
instance : DecidablePred MsgA.ok := fun x => inferInstance
def decMsg (b : List UInt8) : Option MsgA := whole pMsg MsgA.ok b
def MsgD.small (x : MsgD) (n : Nat) : Prop := (x.ents.length ≤ 8 ∧ ∀ e ∈ x.ents, (e.index < 18446744073709551616 ∧ e.term < 18446744073709551616) ∧ e.data.length ≤ n) ∧ (x.conf.vs.length ≤ 16 ∧ x.conf.ls.length ≤ 16) ∧ x.data.length ≤ n
structure MsgD.nums (x : MsgD) : Prop where
  term : x.term < 18446744073709551616
  index : x.index < 18446744073709551616
  logTerm : x.logTerm < 18446744073709551616
  commit : x.commit < 18446744073709551616
  round : x.round < 18446744073709551616
theorem sum_le {l : List EntD} {n : Nat} (h : ∀ e ∈ l, e.data.length ≤ n) : (l.map fun e => e.data.length).sum ≤ l.length * n := by
  induction l with
  | nil => simp
  | cons a l ih =>
    have h1 := h a (by simp)
    have h2 := ih fun e he => h e (by simp [he])
    simp only [List.map_cons, List.sum_cons, List.length_cons, Nat.succ_mul]; omega
theorem MsgD.small.wf {x : MsgD} {n : Nat} (h : x.small n) (hn : x.nums) (hb : n ≤ 10000000) : x.wf := by
  have h1 := sum_le fun e he => (h.1.2 e he).2
  have h2 : x.ents.length * n ≤ 8 * n := Nat.mul_le_mul_right _ h.1.1
  exact ⟨hn.term, hn.index, hn.logTerm, hn.commit, hn.round, by have := h.1.1; omega, fun e he => ⟨(h.1.2 e he).1.1, (h.1.2 e he).1.2, by have := (h.1.2 e he).2; omega⟩, ⟨by have := h.2.1.1; omega, by have := h.2.1.2; omega⟩, ⟨by have := h.2.1.1; omega, by have := h.2.1.2; omega⟩, by have := h.2.2; omega, by omega⟩

set_option maxHeartbeats 2000000 in
theorem msgRead_s (o : Nat) (v : Value) (b : List UInt8) (a : Nat) (bad : Bool) (eb : Nat) (cb : Nat) (w : World) (hl : LenOk b.length) (ha : a ≤ b.length) (heb : Rd w (fps [Res.row o 133 [v, .int .i64 (a : Nat), .bool bad]]) (Res.row eb 121 [.func (.func 89) #[] #[], .func (.func 91) #[] #[], .func (.func 92) #[] #[]])) (hcb : Rd w (fps [Res.row o 133 [v, .int .i64 (a : Nat), .bool bad]]) (Res.row cb 115 [.func (.func 80) #[] #[], .func (.func 85) #[] #[], .func (.func 87) #[] #[]])) (hb : Rd w (fps [Res.row o 133 [v, .int .i64 (a : Nat), .bool bad]]) (Res.sl v b.length (b.map vb))) (hin : Own w (fps [Res.row o 133 [v, .int .i64 (a : Nat), .bool bad]]) [Res.row o 133 [v, .int .i64 (a : Nat), .bool bad]] w) : Rets Tryz.prog 54 #[.pointer (some ⟨o, 0, none⟩), .pointer (some ⟨eb, 0, none⟩), .pointer (some ⟨cb, 0, none⟩)] w fun u_ w' => ∃ (kd : Nat) (sr : Nat) (ds : Nat) (tm : Nat) (ix : Nat) (lt : Nat) (cm : Nat) (rn : Nat) (f : Bool) (ev : Value) (es : List EntD) (r1 : Value) (l1 : List Int) (r2 : Value) (l2 : List Int) (of : Nat) (dv : Value) (dl : List UInt8) (a' : Nat) (bad' : Bool), u_ = .agg #[.int .i64 (kd : Nat), .int .i64 (sr : Nat), .int .i64 (ds : Nat), .int .u64 (tm : Nat), .int .u64 (ix : Nat), .int .u64 (lt : Nat), .int .u64 (cm : Nat), .int .u64 (rn : Nat), .bool f, ev, r1, r2, .int .i64 (of : Nat), dv] ∧ RdS pMsg b a bad (⟨kd, sr, ds, tm, ix, lt, cm, rn, f, es.map EntD.toEntA, ⟨l1, l2⟩, of, dl⟩ : MsgA) a' bad' ∧ (⟨kd, sr, ds, tm, ix, lt, cm, rn, f, ev, es, ⟨r1, l1, r2, l2⟩, of, dv, dl⟩ : MsgD).nums ∧ (⟨kd, sr, ds, tm, ix, lt, cm, rn, f, ev, es, ⟨r1, l1, r2, l2⟩, of, dv, dl⟩ : MsgD).small b.length ∧ Own w (fps [Res.row o 133 [v, .int .i64 (a : Nat), .bool bad]]) [Res.row o 133 [v, .int .i64 (a' : Nat), .bool bad'], Res.vec 75 5 ev es.length (es.flatMap EntD.cells), Res.star (es.map EntD.dres), Res.vec 3 1 r1 l1.length (l1.flatMap I1), Res.vec 3 1 r2 l2.length (l2.flatMap I1), Res.vec 5 1 dv dl.length (dl.map vb)] w' := by
  refine fn_enter (args := [.pointer (some ⟨o, 0, none⟩), .pointer (some ⟨eb, 0, none⟩), .pointer (some ⟨cb, 0, none⟩)]) Tryz.func54 rfl Tryz.ntmps54 rfl (show Own w (fps [Res.row o 133 [v, .int .i64 (a : Nat), .bool bad]]) [Res.row o 133 [v, .int .i64 (a : Nat), .bool bad]] w from hin) ?_
  refine c_reg ?_
  refine l_new (v := .agg #[.int .i64 0, .int .i64 0, .int .i64 0, .int .u64 (0 : Nat), .int .u64 (0 : Nat), .int .u64 (0 : Nat), .int .u64 (0 : Nat), .int .u64 (0 : Nat), .bool false, .slice none 0 0, .slice none 0 0, .slice none 0 0, .int .i64 0, .slice none 0 0]) (by kernel_rfl) rfl (fun b4 => ?_)
  refine l_end ?_
  refine c_reg ?_
  refine l_mv rfl ?_
  refine l_call (by kernel_rfl) rfl rfl (fun w' hw => ?_)
  refine (inUpto_s o v b a bad 9 w' (by first | assumption | omega | (simp <;> omega) | (constructor <;> (first | omega | (simp only [LenOk]; omega) | (simp <;> omega)))) (by first | assumption | omega | (simp <;> omega) | (constructor <;> (first | omega | (simp only [LenOk]; omega) | (simp <;> omega)))) (by first | assumption | omega | (simp <;> omega) | (constructor <;> (first | omega | (simp only [LenOk]; omega) | (simp <;> omega)))) (hw.rdTo hb [0] rfl) (hw.give [0] rfl (by decide))).mono ?_
  rintro _ w1 ⟨n1_, a'2_, bad'3_, rfl, hf1_1, hf1_1_1, hO⟩
  have hq1 := hf1_1.le
  refine (?_ : CL _ _ _ _ _ _ (Own w (fps [Res.row o 133 [v, .int .i64 (a : Nat), .bool bad]]) [Res.row b4 29 [.int .i64 0, .int .i64 0, .int .i64 0, .int .u64 (0 : Nat), .int .u64 (0 : Nat), .int .u64 (0 : Nat), .int .u64 (0 : Nat), .int .u64 (0 : Nat), .bool false, .slice none 0 0, .slice none 0 0, .slice none 0 0, .int .i64 0, .slice none 0 0], Res.row o 133 [v, .int .i64 (a'2_ : Nat), .bool bad'3_]])) w1 (hw.frameL [0] rfl hO)
  refine l_mv rfl ?_
  refine l_call (by kernel_rfl) rfl rfl (fun w' hw => ?_)
  refine (inUpto_s o v b a'2_ bad'3_ 16 w' (by first | assumption | omega | (simp <;> omega) | (constructor <;> (first | omega | (simp only [LenOk]; omega) | (simp <;> omega)))) (by first | assumption | omega | (simp <;> omega) | (constructor <;> (first | omega | (simp only [LenOk]; omega) | (simp <;> omega)))) (by first | assumption | omega | (simp <;> omega) | (constructor <;> (first | omega | (simp only [LenOk]; omega) | (simp <;> omega)))) (hw.rdTo hb [1] rfl) (hw.give [1] rfl (by decide))).mono ?_
  rintro _ w1 ⟨n4_, a'5_, bad'6_, rfl, hf1_3, hf1_3_1, hO⟩
  have hq2 := hf1_3.le
  refine (?_ : CL _ _ _ _ _ _ (Own w (fps [Res.row o 133 [v, .int .i64 (a : Nat), .bool bad]]) [Res.row b4 29 [.int .i64 0, .int .i64 0, .int .i64 0, .int .u64 (0 : Nat), .int .u64 (0 : Nat), .int .u64 (0 : Nat), .int .u64 (0 : Nat), .int .u64 (0 : Nat), .bool false, .slice none 0 0, .slice none 0 0, .slice none 0 0, .int .i64 0, .slice none 0 0], Res.row o 133 [v, .int .i64 (a'5_ : Nat), .bool bad'6_]])) w1 (hw.frameL [1] rfl hO)
  refine l_mv rfl ?_
  refine l_call (by kernel_rfl) rfl rfl (fun w' hw => ?_)
  refine (inUpto_s o v b a'5_ bad'6_ 16 w' (by first | assumption | omega | (simp <;> omega) | (constructor <;> (first | omega | (simp only [LenOk]; omega) | (simp <;> omega)))) (by first | assumption | omega | (simp <;> omega) | (constructor <;> (first | omega | (simp only [LenOk]; omega) | (simp <;> omega)))) (by first | assumption | omega | (simp <;> omega) | (constructor <;> (first | omega | (simp only [LenOk]; omega) | (simp <;> omega)))) (hw.rdTo hb [1] rfl) (hw.give [1] rfl (by decide))).mono ?_
  rintro _ w1 ⟨n7_, a'8_, bad'9_, rfl, hf1_5, hf1_5_1, hO⟩
  have hq3 := hf1_5.le
  refine (?_ : CL _ _ _ _ _ _ (Own w (fps [Res.row o 133 [v, .int .i64 (a : Nat), .bool bad]]) [Res.row b4 29 [.int .i64 0, .int .i64 0, .int .i64 0, .int .u64 (0 : Nat), .int .u64 (0 : Nat), .int .u64 (0 : Nat), .int .u64 (0 : Nat), .int .u64 (0 : Nat), .bool false, .slice none 0 0, .slice none 0 0, .slice none 0 0, .int .i64 0, .slice none 0 0], Res.row o 133 [v, .int .i64 (a'8_ : Nat), .bool bad'9_]])) w1 (hw.frameL [1] rfl hO)
  refine l_mv rfl ?_
  refine l_call (by kernel_rfl) rfl rfl (fun w' hw => ?_)
  refine (inNum_s o v b a'8_ bad'9_ w' (by first | assumption | omega | (simp <;> omega) | (constructor <;> (first | omega | (simp only [LenOk]; omega) | (simp <;> omega)))) (by first | assumption | omega | (simp <;> omega) | (constructor <;> (first | omega | (simp only [LenOk]; omega) | (simp <;> omega)))) (hw.rdTo hb [1] rfl) (hw.give [1] rfl (by decide))).mono ?_
  rintro _ w1 ⟨n10_, a'11_, bad'12_, rfl, hf1_7, hf1_7_1, hO⟩
  have hq4 := hf1_7.le
  refine (?_ : CL _ _ _ _ _ _ (Own w (fps [Res.row o 133 [v, .int .i64 (a : Nat), .bool bad]]) [Res.row b4 29 [.int .i64 0, .int .i64 0, .int .i64 0, .int .u64 (0 : Nat), .int .u64 (0 : Nat), .int .u64 (0 : Nat), .int .u64 (0 : Nat), .int .u64 (0 : Nat), .bool false, .slice none 0 0, .slice none 0 0, .slice none 0 0, .int .i64 0, .slice none 0 0], Res.row o 133 [v, .int .i64 (a'11_ : Nat), .bool bad'12_]])) w1 (hw.frameL [1] rfl hO)
  refine l_mv rfl ?_
  refine l_call (by kernel_rfl) rfl rfl (fun w' hw => ?_)
  refine (inNum_s o v b a'11_ bad'12_ w' (by first | assumption | omega | (simp <;> omega) | (constructor <;> (first | omega | (simp only [LenOk]; omega) | (simp <;> omega)))) (by first | assumption | omega | (simp <;> omega) | (constructor <;> (first | omega | (simp only [LenOk]; omega) | (simp <;> omega)))) (hw.rdTo hb [1] rfl) (hw.give [1] rfl (by decide))).mono ?_
  rintro _ w1 ⟨n13_, a'14_, bad'15_, rfl, hf1_9, hf1_9_1, hO⟩
  have hq5 := hf1_9.le
  refine (?_ : CL _ _ _ _ _ _ (Own w (fps [Res.row o 133 [v, .int .i64 (a : Nat), .bool bad]]) [Res.row b4 29 [.int .i64 0, .int .i64 0, .int .i64 0, .int .u64 (0 : Nat), .int .u64 (0 : Nat), .int .u64 (0 : Nat), .int .u64 (0 : Nat), .int .u64 (0 : Nat), .bool false, .slice none 0 0, .slice none 0 0, .slice none 0 0, .int .i64 0, .slice none 0 0], Res.row o 133 [v, .int .i64 (a'14_ : Nat), .bool bad'15_]])) w1 (hw.frameL [1] rfl hO)
  refine l_mv rfl ?_
  refine l_call (by kernel_rfl) rfl rfl (fun w' hw => ?_)
  refine (inNum_s o v b a'14_ bad'15_ w' (by first | assumption | omega | (simp <;> omega) | (constructor <;> (first | omega | (simp only [LenOk]; omega) | (simp <;> omega)))) (by first | assumption | omega | (simp <;> omega) | (constructor <;> (first | omega | (simp only [LenOk]; omega) | (simp <;> omega)))) (hw.rdTo hb [1] rfl) (hw.give [1] rfl (by decide))).mono ?_
  rintro _ w1 ⟨n16_, a'17_, bad'18_, rfl, hf1_11, hf1_11_1, hO⟩
  have hq6 := hf1_11.le
  refine (?_ : CL _ _ _ _ _ _ (Own w (fps [Res.row o 133 [v, .int .i64 (a : Nat), .bool bad]]) [Res.row b4 29 [.int .i64 0, .int .i64 0, .int .i64 0, .int .u64 (0 : Nat), .int .u64 (0 : Nat), .int .u64 (0 : Nat), .int .u64 (0 : Nat), .int .u64 (0 : Nat), .bool false, .slice none 0 0, .slice none 0 0, .slice none 0 0, .int .i64 0, .slice none 0 0], Res.row o 133 [v, .int .i64 (a'17_ : Nat), .bool bad'18_]])) w1 (hw.frameL [1] rfl hO)
  refine l_mv rfl ?_
  refine l_call (by kernel_rfl) rfl rfl (fun w' hw => ?_)
  refine (inNum_s o v b a'17_ bad'18_ w' (by first | assumption | omega | (simp <;> omega) | (constructor <;> (first | omega | (simp only [LenOk]; omega) | (simp <;> omega)))) (by first | assumption | omega | (simp <;> omega) | (constructor <;> (first | omega | (simp only [LenOk]; omega) | (simp <;> omega)))) (hw.rdTo hb [1] rfl) (hw.give [1] rfl (by decide))).mono ?_
  rintro _ w1 ⟨n19_, a'20_, bad'21_, rfl, hf1_13, hf1_13_1, hO⟩
  have hq7 := hf1_13.le
  refine (?_ : CL _ _ _ _ _ _ (Own w (fps [Res.row o 133 [v, .int .i64 (a : Nat), .bool bad]]) [Res.row b4 29 [.int .i64 0, .int .i64 0, .int .i64 0, .int .u64 (0 : Nat), .int .u64 (0 : Nat), .int .u64 (0 : Nat), .int .u64 (0 : Nat), .int .u64 (0 : Nat), .bool false, .slice none 0 0, .slice none 0 0, .slice none 0 0, .int .i64 0, .slice none 0 0], Res.row o 133 [v, .int .i64 (a'20_ : Nat), .bool bad'21_]])) w1 (hw.frameL [1] rfl hO)
  refine l_mv rfl ?_
  refine l_call (by kernel_rfl) rfl rfl (fun w' hw => ?_)
  refine (inNum_s o v b a'20_ bad'21_ w' (by first | assumption | omega | (simp <;> omega) | (constructor <;> (first | omega | (simp only [LenOk]; omega) | (simp <;> omega)))) (by first | assumption | omega | (simp <;> omega) | (constructor <;> (first | omega | (simp only [LenOk]; omega) | (simp <;> omega)))) (hw.rdTo hb [1] rfl) (hw.give [1] rfl (by decide))).mono ?_
  rintro _ w1 ⟨n22_, a'23_, bad'24_, rfl, hf1_15, hf1_15_1, hO⟩
  have hq8 := hf1_15.le
  refine (?_ : CL _ _ _ _ _ _ (Own w (fps [Res.row o 133 [v, .int .i64 (a : Nat), .bool bad]]) [Res.row b4 29 [.int .i64 0, .int .i64 0, .int .i64 0, .int .u64 (0 : Nat), .int .u64 (0 : Nat), .int .u64 (0 : Nat), .int .u64 (0 : Nat), .int .u64 (0 : Nat), .bool false, .slice none 0 0, .slice none 0 0, .slice none 0 0, .int .i64 0, .slice none 0 0], Res.row o 133 [v, .int .i64 (a'23_ : Nat), .bool bad'24_]])) w1 (hw.frameL [1] rfl hO)
  refine l_mv rfl ?_
  refine l_call (by kernel_rfl) rfl rfl (fun w' hw => ?_)
  refine (inFlag_s o v b a'23_ bad'24_ w' (by first | assumption | omega | (simp <;> omega) | (constructor <;> (first | omega | (simp only [LenOk]; omega) | (simp <;> omega)))) (by first | assumption | omega | (simp <;> omega) | (constructor <;> (first | omega | (simp only [LenOk]; omega) | (simp <;> omega)))) (hw.rdTo hb [1] rfl) (hw.give [1] rfl (by decide))).mono ?_
  rintro _ w1 ⟨f25_, a'26_, bad'27_, rfl, hf1_17, hO⟩
  have hq9 := hf1_17.le
  refine (?_ : CL _ _ _ _ _ _ (Own w (fps [Res.row o 133 [v, .int .i64 (a : Nat), .bool bad]]) [Res.row b4 29 [.int .i64 0, .int .i64 0, .int .i64 0, .int .u64 (0 : Nat), .int .u64 (0 : Nat), .int .u64 (0 : Nat), .int .u64 (0 : Nat), .int .u64 (0 : Nat), .bool false, .slice none 0 0, .slice none 0 0, .slice none 0 0, .int .i64 0, .slice none 0 0], Res.row o 133 [v, .int .i64 (a'26_ : Nat), .bool bad'27_]])) w1 (hw.frameL [1] rfl hO)
  refine l_bld (cs := [.int .i64 (n1_ : Nat), .int .i64 (n4_ : Nat), .int .i64 (n7_ : Nat), .int .u64 (n10_ : Nat), .int .u64 (n13_ : Nat), .int .u64 (n16_ : Nat), .int .u64 (n19_ : Nat), .int .u64 (n22_ : Nat), .bool f25_, .slice none 0 0, .slice none 0 0, .slice none 0 0, .int .i64 0, .slice none 0 0]) (z := [.int .i64 0, .int .i64 0, .int .i64 0, .int .u64 (0 : Nat), .int .u64 (0 : Nat), .int .u64 (0 : Nat), .int .u64 (0 : Nat), .int .u64 (0 : Nat), .bool false, .slice none 0 0, .slice none 0 0, .slice none 0 0, .int .i64 0, .slice none 0 0]) (pl := [(0, 1), (1, 1), (2, 1), (3, 1), (4, 1), (5, 1), (6, 1), (7, 1), (8, 1), (9, 1), (10, 2), (12, 1), (13, 1)]) (by kernel_rfl) (by kernel_rfl) rfl ?_
  refine l_new (v := .agg #[.int .i64 0, .int .i64 0, .int .i64 0, .int .u64 (0 : Nat), .int .u64 (0 : Nat), .int .u64 (0 : Nat), .int .u64 (0 : Nat), .int .u64 (0 : Nat), .bool false, .slice none 0 0, .slice none 0 0, .slice none 0 0, .int .i64 0, .slice none 0 0]) (by kernel_rfl) rfl (fun b5 => ?_)
  refine l_stN (cs := [.int .i64 0, .int .i64 0, .int .i64 0, .int .u64 (0 : Nat), .int .u64 (0 : Nat), .int .u64 (0 : Nat), .int .u64 (0 : Nat), .int .u64 (0 : Nat), .bool false, .slice none 0 0, .slice none 0 0, .slice none 0 0, .int .i64 0, .slice none 0 0]) (vs := [.int .i64 (n1_ : Nat), .int .i64 (n4_ : Nat), .int .i64 (n7_ : Nat), .int .u64 (n10_ : Nat), .int .u64 (n13_ : Nat), .int .u64 (n16_ : Nat), .int .u64 (n19_ : Nat), .int .u64 (n22_ : Nat), .bool f25_, .slice none 0 0, .slice none 0 0, .slice none 0 0, .int .i64 0, .slice none 0 0]) 2 rfl rfl rfl (by kernel_rfl) (allc_cons rfl (allc_cons rfl (allc_cons rfl (allc_cons rfl (allc_cons rfl (allc_cons rfl (allc_cons rfl (allc_cons rfl (allc_cons rfl (allc_cons rfl (allc_cons rfl (allc_cons rfl (allc_cons rfl (allc_cons rfl allc_nil)))))))))))))) (Nat.le_of_ble_eq_true rfl) ?_
  refine l_end ?_
  refine c_seq ?_
  refine c_reg ?_
  refine l_mv rfl ?_
  refine l_call (by kernel_rfl) rfl rfl (fun w' hw => ?_)
  refine (inUpto_s o v b a'26_ bad'27_ 8 w' (by first | assumption | omega | (simp <;> omega) | (constructor <;> (first | omega | (simp only [LenOk]; omega) | (simp <;> omega)))) (by first | assumption | omega | (simp <;> omega) | (constructor <;> (first | omega | (simp only [LenOk]; omega) | (simp <;> omega)))) (by first | assumption | omega | (simp <;> omega) | (constructor <;> (first | omega | (simp only [LenOk]; omega) | (simp <;> omega)))) (hw.rdTo hb [1] rfl) (hw.give [1] rfl (by decide))).mono ?_
  rintro _ w1 ⟨n28_, a'29_, bad'30_, rfl, hf2_1, hf2_1_1, hO⟩
  have hq10 := hf2_1.le
  refine (?_ : CL _ _ _ _ _ _ (Own w (fps [Res.row o 133 [v, .int .i64 (a : Nat), .bool bad]]) [Res.row b4 29 [.int .i64 0, .int .i64 0, .int .i64 0, .int .u64 (0 : Nat), .int .u64 (0 : Nat), .int .u64 (0 : Nat), .int .u64 (0 : Nat), .int .u64 (0 : Nat), .bool false, .slice none 0 0, .slice none 0 0, .slice none 0 0, .int .i64 0, .slice none 0 0], Res.row b5 29 [.int .i64 (n1_ : Nat), .int .i64 (n4_ : Nat), .int .i64 (n7_ : Nat), .int .u64 (n10_ : Nat), .int .u64 (n13_ : Nat), .int .u64 (n16_ : Nat), .int .u64 (n19_ : Nat), .int .u64 (n22_ : Nat), .bool f25_, .slice none 0 0, .slice none 0 0, .slice none 0 0, .int .i64 0, .slice none 0 0], Res.row o 133 [v, .int .i64 (a'29_ : Nat), .bool bad'30_]])) w1 (hw.frameL [1] rfl hO)
  refine l_mv rfl ?_
  refine l_end ?_
  refine c_block ?_
  refine c_loop5 (fun (k : Nat) (ev : Value) (es : List EntD) (a2 : Nat) (bad2 : Bool) => [(0, .pointer (some ⟨o, 0, none⟩)), (1, .pointer (some ⟨eb, 0, none⟩)), (2, .pointer (some ⟨cb, 0, none⟩)), (4, .pointer (some ⟨b4, 0, none⟩)), (5, .pointer (some ⟨b5, 0, none⟩)), (26, .int .i64 (n28_ : Nat)), (27, .int .i64 (k : Nat))]) (fun (k : Nat) (ev : Value) (es : List EntD) (a2 : Nat) (bad2 : Bool) => (k ≤ n28_ ∧ es.length = k) ∧ RdS (pRep pEnt k) b a'29_ bad'30_ (es.map EntD.toEntA) a2 bad2 ∧ ∀ e ∈ es, (e.index < 18446744073709551616 ∧ e.term < 18446744073709551616) ∧ e.data.length ≤ b.length) (fun (k : Nat) (ev : Value) (es : List EntD) (a2 : Nat) (bad2 : Bool) => [Res.row b4 29 [.int .i64 0, .int .i64 0, .int .i64 0, .int .u64 (0 : Nat), .int .u64 (0 : Nat), .int .u64 (0 : Nat), .int .u64 (0 : Nat), .int .u64 (0 : Nat), .bool false, .slice none 0 0, .slice none 0 0, .slice none 0 0, .int .i64 0, .slice none 0 0], Res.row b5 29 [.int .i64 (n1_ : Nat), .int .i64 (n4_ : Nat), .int .i64 (n7_ : Nat), .int .u64 (n10_ : Nat), .int .u64 (n13_ : Nat), .int .u64 (n16_ : Nat), .int .u64 (n19_ : Nat), .int .u64 (n22_ : Nat), .bool f25_, ev, .slice none 0 0, .slice none 0 0, .int .i64 0, .slice none 0 0], Res.row o 133 [v, .int .i64 (a2 : Nat), .bool bad2], Res.vec 75 5 ev es.length (es.flatMap EntD.cells), Res.star (es.map EntD.dres)]) (fun (k : Nat) (ev : Value) (es : List EntD) (a2 : Nat) (bad2 : Bool) => n28_ - k) (fun w' hw => ⟨0, .slice none 0 0, [], a'29_, bad'30_, ⟨rfl, rfl, rfl, rfl, rfl, rfl, rfl, trivial⟩, ⟨⟨Nat.zero_le _, rfl⟩, RdS.pure _ hf2_1.le, by simp⟩, (own_nil hw 75 5).starNil⟩) (fun k ev es a2 bad2 g hΦ => ?_)
  have ha2 := hΦ.2.1.le
  have hlk := hΦ.1.2
  refine c_reg ?_
  refine l_lss rfl rfl rfl ?_
  refine l_end ?_
  refine c_seq ?_
  refine c_dec rfl (fun c1 => ?_) (fun c1 => ?_)
  ·
    refine c_skipC ?_
    refine c_seq ?_
    refine c_block ?_
    refine c_heldo [0] rfl (by decide) (by kernel_rfl) (fun w' hw hS => ?_)
    refine h_take 0 rfl (by kernel_rfl) (by kernel_rfl) (by kernel_rfl) (v_fld (o := 9) rfl (by kernel_rfl)) rfl hS ?_
    refine h_take 2 rfl (by kernel_rfl) (by kernel_rfl) (by kernel_rfl) (v_fld (o := 2) rfl (by kernel_rfl)) rfl hS ?_
    refine h_take 3 rfl (by kernel_rfl) (by kernel_rfl) (by kernel_rfl) (v_ldq (v := .func (.func 92) #[] #[]) rfl (heb.φ.cell rfl) (heb.far _ (by simp [Res.row])) (by kernel_rfl)) rfl hS ?_
    refine h_take 4 rfl (by kernel_rfl) (by kernel_rfl) (by kernel_rfl) (v_mv) rfl hS ?_
    refine h_pick2 (i := 1) (j := 5) (by kernel_rfl) ?_ ?_
    ·
      refine pk_of 1 rfl hw ?_
      refine l_ldo 1 (v := ev) rfl rfl rfl (by kernel_rfl) rfl ?_
      refine l_nil (fun w' hw => ?_)
      have hS := hw.sel [0] rfl (by decide)
      refine ⟨hS, ?_⟩
      refine h_one 5 (by kernel_rfl) rfl hw ?_
      refine l_callv (fst := []) (cap := []) rfl (by kernel_rfl) rfl rfl (fun w' hw => ?_)
      refine (entRead_s o v b a2 bad2 w' (by first | assumption | omega | (simp <;> omega) | (constructor <;> (first | omega | (simp only [LenOk]; omega) | (simp <;> omega)))) (by first | assumption | omega | (simp <;> omega) | (constructor <;> (first | omega | (simp only [LenOk]; omega) | (simp <;> omega)))) (hw.rdTo hb [2] rfl) (hw.give [2] rfl (by decide))).mono ?_
      rintro _ w1 ⟨i31_, t32_, k33_, d34_, dv35_, dl36_, a'37_, bad'38_, rfl, hf4_5, hf4_5_1, hf4_5_2, hO⟩
      refine (?_ : CL _ _ _ _ _ _ (Own w (fps [Res.row o 133 [v, .int .i64 (a : Nat), .bool bad]]) [Res.row b4 29 [.int .i64 0, .int .i64 0, .int .i64 0, .int .u64 (0 : Nat), .int .u64 (0 : Nat), .int .u64 (0 : Nat), .int .u64 (0 : Nat), .int .u64 (0 : Nat), .bool false, .slice none 0 0, .slice none 0 0, .slice none 0 0, .int .i64 0, .slice none 0 0], Res.row b5 29 [.int .i64 (n1_ : Nat), .int .i64 (n4_ : Nat), .int .i64 (n7_ : Nat), .int .u64 (n10_ : Nat), .int .u64 (n13_ : Nat), .int .u64 (n16_ : Nat), .int .u64 (n19_ : Nat), .int .u64 (n22_ : Nat), .bool f25_, ev, .slice none 0 0, .slice none 0 0, .int .i64 0, .slice none 0 0], Res.vec 75 5 ev es.length (es.flatMap EntD.cells), Res.star (es.map EntD.dres), Res.row o 133 [v, .int .i64 (a'37_ : Nat), .bool bad'38_], Res.vec 5 1 dv35_ dl36_.length (dl36_.map vb)])) w1 (hw.frameL [2] rfl hO)
      refine l_nil (fun w' hw => ?_)
      have hS := hw.sel [0] rfl (by decide)
      refine ⟨hS, ?_⟩
      refine h_one 6 (by kernel_rfl) rfl hw ?_
      refine l_bsl (e := 75) (sz := 5) (vs := [.agg #[.int .u64 (i31_ : Nat), .int .u64 (t32_ : Nat), .int .i64 (k33_ : Nat), .int .i64 d34_, dv35_]]) (by kernel_rfl) rfl rfl (by simp [Value.cells, EntD.cells]) (by decide) rfl (fun b35 => ?_)
      refine l_nil (fun w' hw => ?_)
      have hS := hw.sel [0] rfl (by decide)
      refine ⟨hS, ?_⟩
      refine h_one 7 (by kernel_rfl) rfl hw ?_
      refine l_haveO (fun w' hw => Own.cell1Vec (i := 5) rfl hw) (fun hc4_ => ?_)
      refine l_appF (g := EntD.cells) (sz := 5) (by' := 56) (fun _ => rfl) (l := es) (l' := [({ index := i31_, term := t32_, kind := ((k33_ : Nat) : Int), delta := d34_, dv := dv35_, data := dl36_ } : EntD)]) (all_cons ((allc_cons rfl (allc_cons rfl (allc_cons rfl (allc_cons rfl (allc_cons hc4_ allc_nil)))))) (by simp)) 2 (by kernel_rfl) rfl rfl rfl (fun w' hw' => Vec.sl (Own.holds hw' 6 _ rfl)) (by first | omega | (simp; omega)) (by decide) rfl (fun v36 => ?_)
      refine l_nil (fun w' hw => ?_)
      have hS := hw.sel [0] rfl (by decide)
      refine ⟨hS, ?_⟩
      refine h_take 8 rfl (by kernel_rfl) (by kernel_rfl) (by kernel_rfl) (v_fld (o := 9) rfl (by kernel_rfl)) rfl hS ?_
      refine h_one 9 (by kernel_rfl) rfl hw ?_
      refine l_haveO (fun w' hw => Own.cell1Vec (i := 2) rfl hw) (fun hc5_ => ?_)
      refine l_st (cs := [.int .i64 (n1_ : Nat), .int .i64 (n4_ : Nat), .int .i64 (n7_ : Nat), .int .u64 (n10_ : Nat), .int .u64 (n13_ : Nat), .int .u64 (n16_ : Nat), .int .u64 (n19_ : Nat), .int .u64 (n22_ : Nat), .bool f25_, ev, .slice none 0 0, .slice none 0 0, .int .i64 0, .slice none 0 0]) 1 rfl rfl rfl (by kernel_rfl) hc5_ (Nat.le_of_ble_eq_true rfl) ?_
      refine l_nil (fun w' hw => ?_)
      have hS := hw.sel [0] rfl (by decide)
      refine ⟨hS, ?_⟩
      refine h_done (by kernel_rfl) ?_
      refine (?_ : C _ _ _ _ _ _ _ (Own w (fps [Res.row o 133 [v, .int .i64 (a : Nat), .bool bad]]) [Res.row b4 29 [.int .i64 0, .int .i64 0, .int .i64 0, .int .u64 (0 : Nat), .int .u64 (0 : Nat), .int .u64 (0 : Nat), .int .u64 (0 : Nat), .int .u64 (0 : Nat), .bool false, .slice none 0 0, .slice none 0 0, .slice none 0 0, .int .i64 0, .slice none 0 0], Res.row b5 29 [.int .i64 (n1_ : Nat), .int .i64 (n4_ : Nat), .int .i64 (n7_ : Nat), .int .u64 (n10_ : Nat), .int .u64 (n13_ : Nat), .int .u64 (n16_ : Nat), .int .u64 (n19_ : Nat), .int .u64 (n22_ : Nat), .bool f25_, v36, .slice none 0 0, .slice none 0 0, .int .i64 0, .slice none 0 0], Res.vec 75 5 v36 (es ++ [({ index := i31_, term := t32_, kind := ((k33_ : Nat) : Int), delta := d34_, dv := dv35_, data := dl36_ } : EntD)]).length ((es ++ [({ index := i31_, term := t32_, kind := ((k33_ : Nat) : Int), delta := d34_, dv := dv35_, data := dl36_ } : EntD)]).flatMap EntD.cells), Res.star (es.map EntD.dres), Res.row o 133 [v, .int .i64 (a'37_ : Nat), .bool bad'38_], Res.vec 5 1 dv35_ dl36_.length (dl36_.map vb), Res.vec 75 5 (.slice (some ⟨b35, 0, none⟩) 1 1) [({ index := i31_, term := t32_, kind := ((k33_ : Nat) : Int), delta := d34_, dv := dv35_, data := dl36_ } : EntD)].length ([({ index := i31_, term := t32_, kind := ((k33_ : Nat) : Int), delta := d34_, dv := dv35_, data := dl36_ } : EntD)].flatMap EntD.cells)])) _ hw
      refine c_last ?_
      refine l_add rfl rfl (wi64 (by omega)) rfl ?_
      refine l_mv rfl ?_
      exact l_nil (fun w' hw => ⟨k + 1, v36, es ++ [({ index := i31_, term := t32_, kind := ((k33_ : Nat) : Int), delta := d34_, dv := dv35_, data := dl36_ } : EntD)], a'37_, bad'38_, ⟨rfl, rfl, rfl, rfl, rfl, rfl, rfl, trivial⟩, ⟨⟨by omega, by simp [hlk]⟩, by rw [List.map_append]; exact hΦ.2.1.snoc hf4_5, fun e he => by rcases List.mem_append.1 he with h | h; exact hΦ.2.2 e h; simp at h; rw [h]; exact ⟨hf4_5_1, hf4_5_2⟩⟩, ((hw.starMap (x := ({ index := i31_, term := t32_, kind := ((k33_ : Nat) : Int), delta := d34_, dv := dv35_, data := dl36_ } : EntD)) 3 5 (by decide) rfl rfl).sel [0, 1, 4, 2, 3] rfl (by decide)), (by omega)⟩)
    ·
      refine pk_of 5 rfl hw ?_
      refine l_callv (fst := []) (cap := []) rfl (by kernel_rfl) rfl rfl (fun w' hw => ?_)
      refine (entRead_s o v b a2 bad2 w' (by first | assumption | omega | (simp <;> omega) | (constructor <;> (first | omega | (simp only [LenOk]; omega) | (simp <;> omega)))) (by first | assumption | omega | (simp <;> omega) | (constructor <;> (first | omega | (simp only [LenOk]; omega) | (simp <;> omega)))) (hw.rdTo hb [2] rfl) (hw.give [2] rfl (by decide))).mono ?_
      rintro _ w1 ⟨i39_, t40_, k41_, d42_, dv43_, dl44_, a'45_, bad'46_, rfl, hf4_5, hf4_5_1, hf4_5_2, hO⟩
      refine (?_ : CL _ _ _ _ _ _ (Own w (fps [Res.row o 133 [v, .int .i64 (a : Nat), .bool bad]]) [Res.row b4 29 [.int .i64 0, .int .i64 0, .int .i64 0, .int .u64 (0 : Nat), .int .u64 (0 : Nat), .int .u64 (0 : Nat), .int .u64 (0 : Nat), .int .u64 (0 : Nat), .bool false, .slice none 0 0, .slice none 0 0, .slice none 0 0, .int .i64 0, .slice none 0 0], Res.row b5 29 [.int .i64 (n1_ : Nat), .int .i64 (n4_ : Nat), .int .i64 (n7_ : Nat), .int .u64 (n10_ : Nat), .int .u64 (n13_ : Nat), .int .u64 (n16_ : Nat), .int .u64 (n19_ : Nat), .int .u64 (n22_ : Nat), .bool f25_, ev, .slice none 0 0, .slice none 0 0, .int .i64 0, .slice none 0 0], Res.vec 75 5 ev es.length (es.flatMap EntD.cells), Res.star (es.map EntD.dres), Res.row o 133 [v, .int .i64 (a'45_ : Nat), .bool bad'46_], Res.vec 5 1 dv43_ dl44_.length (dl44_.map vb)])) w1 (hw.frameL [2] rfl hO)
      refine l_nil (fun w' hw => ?_)
      have hS := hw.sel [0] rfl (by decide)
      refine ⟨hS, ?_⟩
      refine h_pick2 (i := 1) (j := 6) (by kernel_rfl) ?_ ?_
      ·
        refine pk_of 1 rfl hw ?_
        refine l_ldo 1 (v := ev) rfl rfl rfl (by kernel_rfl) rfl ?_
        refine l_nil (fun w' hw => ?_)
        have hS := hw.sel [0] rfl (by decide)
        refine ⟨hS, ?_⟩
        refine h_one 6 (by kernel_rfl) rfl hw ?_
        refine l_bsl (e := 75) (sz := 5) (vs := [.agg #[.int .u64 (i39_ : Nat), .int .u64 (t40_ : Nat), .int .i64 (k41_ : Nat), .int .i64 d42_, dv43_]]) (by kernel_rfl) rfl rfl (by simp [Value.cells, EntD.cells]) (by decide) rfl (fun b35 => ?_)
        refine l_nil (fun w' hw => ?_)
        have hS := hw.sel [0] rfl (by decide)
        refine ⟨hS, ?_⟩
        refine h_one 7 (by kernel_rfl) rfl hw ?_
        refine l_haveO (fun w' hw => Own.cell1Vec (i := 5) rfl hw) (fun hc6_ => ?_)
        refine l_appF (g := EntD.cells) (sz := 5) (by' := 56) (fun _ => rfl) (l := es) (l' := [({ index := i39_, term := t40_, kind := ((k41_ : Nat) : Int), delta := d42_, dv := dv43_, data := dl44_ } : EntD)]) (all_cons ((allc_cons rfl (allc_cons rfl (allc_cons rfl (allc_cons rfl (allc_cons hc6_ allc_nil)))))) (by simp)) 2 (by kernel_rfl) rfl rfl rfl (fun w' hw' => Vec.sl (Own.holds hw' 6 _ rfl)) (by first | omega | (simp; omega)) (by decide) rfl (fun v36 => ?_)
        refine l_nil (fun w' hw => ?_)
        have hS := hw.sel [0] rfl (by decide)
        refine ⟨hS, ?_⟩
        refine h_take 8 rfl (by kernel_rfl) (by kernel_rfl) (by kernel_rfl) (v_fld (o := 9) rfl (by kernel_rfl)) rfl hS ?_
        refine h_one 9 (by kernel_rfl) rfl hw ?_
        refine l_haveO (fun w' hw => Own.cell1Vec (i := 2) rfl hw) (fun hc7_ => ?_)
        refine l_st (cs := [.int .i64 (n1_ : Nat), .int .i64 (n4_ : Nat), .int .i64 (n7_ : Nat), .int .u64 (n10_ : Nat), .int .u64 (n13_ : Nat), .int .u64 (n16_ : Nat), .int .u64 (n19_ : Nat), .int .u64 (n22_ : Nat), .bool f25_, ev, .slice none 0 0, .slice none 0 0, .int .i64 0, .slice none 0 0]) 1 rfl rfl rfl (by kernel_rfl) hc7_ (Nat.le_of_ble_eq_true rfl) ?_
        refine l_nil (fun w' hw => ?_)
        have hS := hw.sel [0] rfl (by decide)
        refine ⟨hS, ?_⟩
        refine h_done (by kernel_rfl) ?_
        refine (?_ : C _ _ _ _ _ _ _ (Own w (fps [Res.row o 133 [v, .int .i64 (a : Nat), .bool bad]]) [Res.row b4 29 [.int .i64 0, .int .i64 0, .int .i64 0, .int .u64 (0 : Nat), .int .u64 (0 : Nat), .int .u64 (0 : Nat), .int .u64 (0 : Nat), .int .u64 (0 : Nat), .bool false, .slice none 0 0, .slice none 0 0, .slice none 0 0, .int .i64 0, .slice none 0 0], Res.row b5 29 [.int .i64 (n1_ : Nat), .int .i64 (n4_ : Nat), .int .i64 (n7_ : Nat), .int .u64 (n10_ : Nat), .int .u64 (n13_ : Nat), .int .u64 (n16_ : Nat), .int .u64 (n19_ : Nat), .int .u64 (n22_ : Nat), .bool f25_, v36, .slice none 0 0, .slice none 0 0, .int .i64 0, .slice none 0 0], Res.vec 75 5 v36 (es ++ [({ index := i39_, term := t40_, kind := ((k41_ : Nat) : Int), delta := d42_, dv := dv43_, data := dl44_ } : EntD)]).length ((es ++ [({ index := i39_, term := t40_, kind := ((k41_ : Nat) : Int), delta := d42_, dv := dv43_, data := dl44_ } : EntD)]).flatMap EntD.cells), Res.star (es.map EntD.dres), Res.row o 133 [v, .int .i64 (a'45_ : Nat), .bool bad'46_], Res.vec 5 1 dv43_ dl44_.length (dl44_.map vb), Res.vec 75 5 (.slice (some ⟨b35, 0, none⟩) 1 1) [({ index := i39_, term := t40_, kind := ((k41_ : Nat) : Int), delta := d42_, dv := dv43_, data := dl44_ } : EntD)].length ([({ index := i39_, term := t40_, kind := ((k41_ : Nat) : Int), delta := d42_, dv := dv43_, data := dl44_ } : EntD)].flatMap EntD.cells)])) _ hw
        refine c_last ?_
        refine l_add rfl rfl (wi64 (by omega)) rfl ?_
        refine l_mv rfl ?_
        exact l_nil (fun w' hw => ⟨k + 1, v36, es ++ [({ index := i39_, term := t40_, kind := ((k41_ : Nat) : Int), delta := d42_, dv := dv43_, data := dl44_ } : EntD)], a'45_, bad'46_, ⟨rfl, rfl, rfl, rfl, rfl, rfl, rfl, trivial⟩, ⟨⟨by omega, by simp [hlk]⟩, by rw [List.map_append]; exact hΦ.2.1.snoc hf4_5, fun e he => by rcases List.mem_append.1 he with h | h; exact hΦ.2.2 e h; simp at h; rw [h]; exact ⟨hf4_5_1, hf4_5_2⟩⟩, ((hw.starMap (x := ({ index := i39_, term := t40_, kind := ((k41_ : Nat) : Int), delta := d42_, dv := dv43_, data := dl44_ } : EntD)) 3 5 (by decide) rfl rfl).sel [0, 1, 4, 2, 3] rfl (by decide)), (by omega)⟩)
      ·
        refine pk_of 6 rfl hw ?_
        refine l_bsl (e := 75) (sz := 5) (vs := [.agg #[.int .u64 (i39_ : Nat), .int .u64 (t40_ : Nat), .int .i64 (k41_ : Nat), .int .i64 d42_, dv43_]]) (by kernel_rfl) rfl rfl (by simp [Value.cells, EntD.cells]) (by decide) rfl (fun b35 => ?_)
        refine l_nil (fun w' hw => ?_)
        have hS := hw.sel [0] rfl (by decide)
        refine ⟨hS, ?_⟩
        refine h_one 1 (by kernel_rfl) rfl hw ?_
        refine l_ldo 1 (v := ev) rfl rfl rfl (by kernel_rfl) rfl ?_
        refine l_nil (fun w' hw => ?_)
        have hS := hw.sel [0] rfl (by decide)
        refine ⟨hS, ?_⟩
        refine h_one 7 (by kernel_rfl) rfl hw ?_
        refine l_haveO (fun w' hw => Own.cell1Vec (i := 5) rfl hw) (fun hc8_ => ?_)
        refine l_appF (g := EntD.cells) (sz := 5) (by' := 56) (fun _ => rfl) (l := es) (l' := [({ index := i39_, term := t40_, kind := ((k41_ : Nat) : Int), delta := d42_, dv := dv43_, data := dl44_ } : EntD)]) (all_cons ((allc_cons rfl (allc_cons rfl (allc_cons rfl (allc_cons rfl (allc_cons hc8_ allc_nil)))))) (by simp)) 2 (by kernel_rfl) rfl rfl rfl (fun w' hw' => Vec.sl (Own.holds hw' 6 _ rfl)) (by first | omega | (simp; omega)) (by decide) rfl (fun v36 => ?_)
        refine l_nil (fun w' hw => ?_)
        have hS := hw.sel [0] rfl (by decide)
        refine ⟨hS, ?_⟩
        refine h_take 8 rfl (by kernel_rfl) (by kernel_rfl) (by kernel_rfl) (v_fld (o := 9) rfl (by kernel_rfl)) rfl hS ?_
        refine h_one 9 (by kernel_rfl) rfl hw ?_
        refine l_haveO (fun w' hw => Own.cell1Vec (i := 2) rfl hw) (fun hc9_ => ?_)
        refine l_st (cs := [.int .i64 (n1_ : Nat), .int .i64 (n4_ : Nat), .int .i64 (n7_ : Nat), .int .u64 (n10_ : Nat), .int .u64 (n13_ : Nat), .int .u64 (n16_ : Nat), .int .u64 (n19_ : Nat), .int .u64 (n22_ : Nat), .bool f25_, ev, .slice none 0 0, .slice none 0 0, .int .i64 0, .slice none 0 0]) 1 rfl rfl rfl (by kernel_rfl) hc9_ (Nat.le_of_ble_eq_true rfl) ?_
        refine l_nil (fun w' hw => ?_)
        have hS := hw.sel [0] rfl (by decide)
        refine ⟨hS, ?_⟩
        refine h_done (by kernel_rfl) ?_
        refine (?_ : C _ _ _ _ _ _ _ (Own w (fps [Res.row o 133 [v, .int .i64 (a : Nat), .bool bad]]) [Res.row b4 29 [.int .i64 0, .int .i64 0, .int .i64 0, .int .u64 (0 : Nat), .int .u64 (0 : Nat), .int .u64 (0 : Nat), .int .u64 (0 : Nat), .int .u64 (0 : Nat), .bool false, .slice none 0 0, .slice none 0 0, .slice none 0 0, .int .i64 0, .slice none 0 0], Res.row b5 29 [.int .i64 (n1_ : Nat), .int .i64 (n4_ : Nat), .int .i64 (n7_ : Nat), .int .u64 (n10_ : Nat), .int .u64 (n13_ : Nat), .int .u64 (n16_ : Nat), .int .u64 (n19_ : Nat), .int .u64 (n22_ : Nat), .bool f25_, v36, .slice none 0 0, .slice none 0 0, .int .i64 0, .slice none 0 0], Res.vec 75 5 v36 (es ++ [({ index := i39_, term := t40_, kind := ((k41_ : Nat) : Int), delta := d42_, dv := dv43_, data := dl44_ } : EntD)]).length ((es ++ [({ index := i39_, term := t40_, kind := ((k41_ : Nat) : Int), delta := d42_, dv := dv43_, data := dl44_ } : EntD)]).flatMap EntD.cells), Res.star (es.map EntD.dres), Res.row o 133 [v, .int .i64 (a'45_ : Nat), .bool bad'46_], Res.vec 5 1 dv43_ dl44_.length (dl44_.map vb), Res.vec 75 5 (.slice (some ⟨b35, 0, none⟩) 1 1) [({ index := i39_, term := t40_, kind := ((k41_ : Nat) : Int), delta := d42_, dv := dv43_, data := dl44_ } : EntD)].length ([({ index := i39_, term := t40_, kind := ((k41_ : Nat) : Int), delta := d42_, dv := dv43_, data := dl44_ } : EntD)].flatMap EntD.cells)])) _ hw
        refine c_last ?_
        refine l_add rfl rfl (wi64 (by omega)) rfl ?_
        refine l_mv rfl ?_
        exact l_nil (fun w' hw => ⟨k + 1, v36, es ++ [({ index := i39_, term := t40_, kind := ((k41_ : Nat) : Int), delta := d42_, dv := dv43_, data := dl44_ } : EntD)], a'45_, bad'46_, ⟨rfl, rfl, rfl, rfl, rfl, rfl, rfl, trivial⟩, ⟨⟨by omega, by simp [hlk]⟩, by rw [List.map_append]; exact hΦ.2.1.snoc hf4_5, fun e he => by rcases List.mem_append.1 he with h | h; exact hΦ.2.2 e h; simp at h; rw [h]; exact ⟨hf4_5_1, hf4_5_2⟩⟩, ((hw.starMap (x := ({ index := i39_, term := t40_, kind := ((k41_ : Nat) : Int), delta := d42_, dv := dv43_, data := dl44_ } : EntD)) 3 5 (by decide) rfl rfl).sel [0, 1, 4, 2, 3] rfl (by decide)), (by omega)⟩)
  ·
    refine c_exitC rfl ?_
    refine c_reg ?_
    refine l_fld (o := 2) rfl (by kernel_rfl) rfl ?_
    refine l_ldq (v := .func (.func 87) #[] #[]) rfl (hcb.φ.cell rfl) (hcb.far _ (by simp [Res.row])) (by kernel_rfl) rfl ?_
    refine l_mv rfl ?_
    refine l_callv (fst := []) (cap := []) rfl (by kernel_rfl) rfl rfl (fun w' hw => ?_)
    refine (confRead_s o v b a2 bad2 w' (by first | assumption | omega | (simp <;> omega) | (constructor <;> (first | omega | (simp only [LenOk]; omega) | (simp <;> omega)))) (by first | assumption | omega | (simp <;> omega) | (constructor <;> (first | omega | (simp only [LenOk]; omega) | (simp <;> omega)))) (hw.rdTo hb [2] rfl) (hw.give [2] rfl (by decide))).mono ?_
    rintro _ w1 ⟨r147_, l148_, r249_, l250_, a'51_, bad'52_, rfl, hf6_3, hf6_3_1, hf6_3_2, hO⟩
    have hq11 := hf6_3.le
    refine (?_ : CL _ _ _ _ _ _ (Own w (fps [Res.row o 133 [v, .int .i64 (a : Nat), .bool bad]]) [Res.row b4 29 [.int .i64 0, .int .i64 0, .int .i64 0, .int .u64 (0 : Nat), .int .u64 (0 : Nat), .int .u64 (0 : Nat), .int .u64 (0 : Nat), .int .u64 (0 : Nat), .bool false, .slice none 0 0, .slice none 0 0, .slice none 0 0, .int .i64 0, .slice none 0 0], Res.row b5 29 [.int .i64 (n1_ : Nat), .int .i64 (n4_ : Nat), .int .i64 (n7_ : Nat), .int .u64 (n10_ : Nat), .int .u64 (n13_ : Nat), .int .u64 (n16_ : Nat), .int .u64 (n19_ : Nat), .int .u64 (n22_ : Nat), .bool f25_, ev, .slice none 0 0, .slice none 0 0, .int .i64 0, .slice none 0 0], Res.vec 75 5 ev es.length (es.flatMap EntD.cells), Res.star (es.map EntD.dres), Res.row o 133 [v, .int .i64 (a'51_ : Nat), .bool bad'52_], Res.vec 3 1 r147_ l148_.length (l148_.flatMap I1), Res.vec 3 1 r249_ l250_.length (l250_.flatMap I1)])) w1 (hw.frameL [2] rfl hO)
    refine l_mv rfl ?_
    refine l_call (by kernel_rfl) rfl rfl (fun w' hw => ?_)
    refine (inUpto_s o v b a'51_ bad'52_ 65536 w' (by first | assumption | omega | (simp <;> omega) | (constructor <;> (first | omega | (simp only [LenOk]; omega) | (simp <;> omega)))) (by first | assumption | omega | (simp <;> omega) | (constructor <;> (first | omega | (simp only [LenOk]; omega) | (simp <;> omega)))) (by first | assumption | omega | (simp <;> omega) | (constructor <;> (first | omega | (simp only [LenOk]; omega) | (simp <;> omega)))) (hw.rdTo hb [4] rfl) (hw.give [4] rfl (by decide))).mono ?_
    rintro _ w1 ⟨n53_, a'54_, bad'55_, rfl, hf6_5, hf6_5_1, hO⟩
    have hq12 := hf6_5.le
    refine (?_ : CL _ _ _ _ _ _ (Own w (fps [Res.row o 133 [v, .int .i64 (a : Nat), .bool bad]]) [Res.row b4 29 [.int .i64 0, .int .i64 0, .int .i64 0, .int .u64 (0 : Nat), .int .u64 (0 : Nat), .int .u64 (0 : Nat), .int .u64 (0 : Nat), .int .u64 (0 : Nat), .bool false, .slice none 0 0, .slice none 0 0, .slice none 0 0, .int .i64 0, .slice none 0 0], Res.row b5 29 [.int .i64 (n1_ : Nat), .int .i64 (n4_ : Nat), .int .i64 (n7_ : Nat), .int .u64 (n10_ : Nat), .int .u64 (n13_ : Nat), .int .u64 (n16_ : Nat), .int .u64 (n19_ : Nat), .int .u64 (n22_ : Nat), .bool f25_, ev, .slice none 0 0, .slice none 0 0, .int .i64 0, .slice none 0 0], Res.vec 75 5 ev es.length (es.flatMap EntD.cells), Res.star (es.map EntD.dres), Res.vec 3 1 r147_ l148_.length (l148_.flatMap I1), Res.vec 3 1 r249_ l250_.length (l250_.flatMap I1), Res.row o 133 [v, .int .i64 (a'54_ : Nat), .bool bad'55_]])) w1 (hw.frameL [4] rfl hO)
    refine l_mv rfl ?_
    refine l_call (by kernel_rfl) rfl rfl (fun w' hw => ?_)
    refine (inData_s o v b a'54_ bad'55_ w' (by first | assumption | omega | (simp <;> omega) | (constructor <;> (first | omega | (simp only [LenOk]; omega) | (simp <;> omega)))) (by first | assumption | omega | (simp <;> omega) | (constructor <;> (first | omega | (simp only [LenOk]; omega) | (simp <;> omega)))) (hw.rdTo hb [6] rfl) (hw.give [6] rfl (by decide))).mono ?_
    rintro r56_ w1 ⟨_, d57_, a'58_, bad'59_, rfl, hf6_7, hf6_7_1, hO⟩
    refine (?_ : CL _ _ _ _ _ _ (Own w (fps [Res.row o 133 [v, .int .i64 (a : Nat), .bool bad]]) [Res.row b4 29 [.int .i64 0, .int .i64 0, .int .i64 0, .int .u64 (0 : Nat), .int .u64 (0 : Nat), .int .u64 (0 : Nat), .int .u64 (0 : Nat), .int .u64 (0 : Nat), .bool false, .slice none 0 0, .slice none 0 0, .slice none 0 0, .int .i64 0, .slice none 0 0], Res.row b5 29 [.int .i64 (n1_ : Nat), .int .i64 (n4_ : Nat), .int .i64 (n7_ : Nat), .int .u64 (n10_ : Nat), .int .u64 (n13_ : Nat), .int .u64 (n16_ : Nat), .int .u64 (n19_ : Nat), .int .u64 (n22_ : Nat), .bool f25_, ev, .slice none 0 0, .slice none 0 0, .int .i64 0, .slice none 0 0], Res.vec 75 5 ev es.length (es.flatMap EntD.cells), Res.star (es.map EntD.dres), Res.vec 3 1 r147_ l148_.length (l148_.flatMap I1), Res.vec 3 1 r249_ l250_.length (l250_.flatMap I1), Res.row o 133 [v, .int .i64 (a'58_ : Nat), .bool bad'59_], Res.vec 5 1 r56_ d57_.length (d57_.map vb)])) w1 (hw.frameL [6] rfl hO)
    refine l_fld (o := 10) rfl (by kernel_rfl) rfl ?_
    refine l_haveO (fun w' hw => Own.cell1Vec (i := 4) rfl hw) (fun hc10_ => ?_)
    refine l_haveO (fun w' hw => Own.cell1Vec (i := 5) rfl hw) (fun hc11_ => ?_)
    refine l_stN (cs := [.int .i64 (n1_ : Nat), .int .i64 (n4_ : Nat), .int .i64 (n7_ : Nat), .int .u64 (n10_ : Nat), .int .u64 (n13_ : Nat), .int .u64 (n16_ : Nat), .int .u64 (n19_ : Nat), .int .u64 (n22_ : Nat), .bool f25_, ev, .slice none 0 0, .slice none 0 0, .int .i64 0, .slice none 0 0]) (vs := [r147_, r249_]) 1 rfl rfl rfl (by kernel_rfl) (allc_cons hc10_ (allc_cons hc11_ allc_nil)) (Nat.le_of_ble_eq_true rfl) ?_
    refine l_fld (o := 12) rfl (by kernel_rfl) rfl ?_
    refine l_st (cs := [.int .i64 (n1_ : Nat), .int .i64 (n4_ : Nat), .int .i64 (n7_ : Nat), .int .u64 (n10_ : Nat), .int .u64 (n13_ : Nat), .int .u64 (n16_ : Nat), .int .u64 (n19_ : Nat), .int .u64 (n22_ : Nat), .bool f25_, ev, r147_, r249_, .int .i64 0, .slice none 0 0]) 1 rfl rfl rfl (by kernel_rfl) rfl (Nat.le_of_ble_eq_true rfl) ?_
    refine l_fld (o := 13) rfl (by kernel_rfl) rfl ?_
    refine l_haveO (fun w' hw => Own.cell1Vec (i := 7) rfl hw) (fun hc12_ => ?_)
    refine l_st (cs := [.int .i64 (n1_ : Nat), .int .i64 (n4_ : Nat), .int .i64 (n7_ : Nat), .int .u64 (n10_ : Nat), .int .u64 (n13_ : Nat), .int .u64 (n16_ : Nat), .int .u64 (n19_ : Nat), .int .u64 (n22_ : Nat), .bool f25_, ev, r147_, r249_, .int .i64 (n53_ : Nat), .slice none 0 0]) 1 rfl rfl rfl (by kernel_rfl) hc12_ (Nat.le_of_ble_eq_true rfl) ?_
    refine l_end ?_
    refine c_reg ?_
    refine l_ldr (cs := [.int .i64 (n1_ : Nat), .int .i64 (n4_ : Nat), .int .i64 (n7_ : Nat), .int .u64 (n10_ : Nat), .int .u64 (n13_ : Nat), .int .u64 (n16_ : Nat), .int .u64 (n19_ : Nat), .int .u64 (n22_ : Nat), .bool f25_, ev, r147_, r249_, .int .i64 (n53_ : Nat), r56_]) 1 rfl rfl (by kernel_rfl) rfl ?_
    refine l_haveO (fun w' hw => Own.cell1Vec (i := 2) rfl hw) (fun hc13_ => ?_)
    refine l_stN (cs := [.int .i64 0, .int .i64 0, .int .i64 0, .int .u64 (0 : Nat), .int .u64 (0 : Nat), .int .u64 (0 : Nat), .int .u64 (0 : Nat), .int .u64 (0 : Nat), .bool false, .slice none 0 0, .slice none 0 0, .slice none 0 0, .int .i64 0, .slice none 0 0]) (vs := [.int .i64 (n1_ : Nat), .int .i64 (n4_ : Nat), .int .i64 (n7_ : Nat), .int .u64 (n10_ : Nat), .int .u64 (n13_ : Nat), .int .u64 (n16_ : Nat), .int .u64 (n19_ : Nat), .int .u64 (n22_ : Nat), .bool f25_, ev, r147_, r249_, .int .i64 (n53_ : Nat), r56_]) 0 rfl rfl rfl (by kernel_rfl) (allc_cons rfl (allc_cons rfl (allc_cons rfl (allc_cons rfl (allc_cons rfl (allc_cons rfl (allc_cons rfl (allc_cons rfl (allc_cons rfl (allc_cons hc13_ (allc_cons hc10_ (allc_cons hc11_ (allc_cons rfl (allc_cons hc12_ allc_nil)))))))))))))) (Nat.le_of_ble_eq_true rfl) ?_
    refine l_end ?_
    exact c_ret (retc (cs := [.int .i64 (n1_ : Nat), .int .i64 (n4_ : Nat), .int .i64 (n7_ : Nat), .int .u64 (n10_ : Nat), .int .u64 (n13_ : Nat), .int .u64 (n16_ : Nat), .int .u64 (n19_ : Nat), .int .u64 (n22_ : Nat), .bool f25_, ev, r147_, r249_, .int .i64 (n53_ : Nat), r56_]) rfl rfl (by kernel_rfl) (Own.rowCells (i := 0) rfl) (fun w' hw => ⟨n1_, n4_, n7_, n10_, n13_, n16_, n19_, n22_, f25_, ev, es, r147_, l148_, r249_, l250_, n53_, r56_, d57_, a'58_, bad'59_, rfl, RdS.bind (RdS.int hf1_1) (RdS.bind (RdS.int hf1_3) (RdS.bind (RdS.int hf1_5) (RdS.bind hf1_7 (RdS.bind hf1_9 (RdS.bind hf1_11 (RdS.bind hf1_13 (RdS.bind hf1_15 (RdS.bind hf1_17 (RdS.bind (ents_end hf2_1 hΦ.2.1 (by omega)) (RdS.bind hf6_3 (RdS.bind (RdS.int hf6_5) (RdS.bind hf6_7 (RdS.pure _ hf6_7.le))))))))))))), ⟨hf1_7_1, hf1_9_1, hf1_11_1, hf1_13_1, hf1_15_1⟩, ⟨⟨by have := hf2_1_1; dsimp only; omega, hΦ.2.2⟩, ⟨hf6_3_1, hf6_3_2⟩, hf6_7_1⟩, hw.sel [6, 2, 3, 4, 5, 7] rfl (by decide)⟩))
theorem msgValue_s (v : Value) (b : List UInt8) (nb : Nat) (cb : Nat) (eb : Nat) (w : World) (hl : b.length ≤ 10000000) (hnb : Rd w [] (Res.row nb 123 [.func (.func 45) #[] #[]])) (hcb : Rd w [] (Res.row cb 115 [.func (.func 80) #[] #[], .func (.func 85) #[] #[], .func (.func 87) #[] #[]])) (heb : Rd w [] (Res.row eb 121 [.func (.func 89) #[] #[], .func (.func 91) #[] #[], .func (.func 92) #[] #[]])) (hb : Rd w [] (Res.sl v b.length (b.map vb))) : Rets Tryz.prog 18 #[.agg #[.func (.func 46) #[] #[.pointer (some ⟨nb, 0, none⟩), .pointer (some ⟨cb, 0, none⟩), .pointer (some ⟨eb, 0, none⟩)], .func (.func 49) #[] #[.pointer (some ⟨eb, 0, none⟩), .pointer (some ⟨cb, 0, none⟩)], .func (.func 54) #[] #[.pointer (some ⟨eb, 0, none⟩), .pointer (some ⟨cb, 0, none⟩)]], v] w fun u_ w' => ∃ (kd : Int) (sr : Int) (ds : Int) (tm : Nat) (ix : Nat) (lt : Nat) (cm : Nat) (rn : Nat) (f : Bool) (ev : Value) (es : List EntD) (r1 : Value) (l1 : List Int) (r2 : Value) (l2 : List Int) (of : Int) (dv : Value) (dl : List UInt8) (e : Int), u_ = .tuple #[.agg #[.int .i64 kd, .int .i64 sr, .int .i64 ds, .int .u64 (tm : Nat), .int .u64 (ix : Nat), .int .u64 (lt : Nat), .int .u64 (cm : Nat), .int .u64 (rn : Nat), .bool f, ev, r1, r2, .int .i64 of, dv], .int .i64 e] ∧ ValPost (decMsg b) (⟨kd, sr, ds, tm, ix, lt, cm, rn, f, es.map EntD.toEntA, ⟨l1, l2⟩, of, dl⟩ : MsgA) msgZ e ∧ (⟨kd, sr, ds, tm, ix, lt, cm, rn, f, ev, es, ⟨r1, l1, r2, l2⟩, of, dv, dl⟩ : MsgD).nums ∧ (⟨kd, sr, ds, tm, ix, lt, cm, rn, f, ev, es, ⟨r1, l1, r2, l2⟩, of, dv, dl⟩ : MsgD).small b.length ∧ Own w [] [Res.vec 75 5 ev es.length (es.flatMap EntD.cells), Res.star (es.map EntD.dres), Res.vec 3 1 r1 l1.length (l1.flatMap I1), Res.vec 3 1 r2 l2.length (l2.flatMap I1), Res.vec 5 1 dv dl.length (dl.map vb)] w' := by
  refine fn_enter (args := [.agg #[.func (.func 46) #[] #[.pointer (some ⟨nb, 0, none⟩), .pointer (some ⟨cb, 0, none⟩), .pointer (some ⟨eb, 0, none⟩)], .func (.func 49) #[] #[.pointer (some ⟨eb, 0, none⟩), .pointer (some ⟨cb, 0, none⟩)], .func (.func 54) #[] #[.pointer (some ⟨eb, 0, none⟩), .pointer (some ⟨cb, 0, none⟩)]], v]) Tryz.func18 rfl Tryz.ntmps18 rfl (Own.start w) ?_
  refine c_reg ?_
  refine l_box rfl rfl (fun b2 => ?_)
  refine l_new (v := .agg #[.int .i64 0, .int .i64 0, .int .i64 0, .int .u64 (0 : Nat), .int .u64 (0 : Nat), .int .u64 (0 : Nat), .int .u64 (0 : Nat), .int .u64 (0 : Nat), .bool false, .slice none 0 0, .slice none 0 0, .slice none 0 0, .int .i64 0, .slice none 0 0]) (by kernel_rfl) rfl (fun b4 => ?_)
  refine l_as rfl ?_
  refine l_end ?_
  refine c_reg ?_
  refine l_mv rfl ?_
  refine l_bldc (cs := [v, .int .i64 0, .bool false]) (z := [.slice none 0 0, .int .i64 0, .bool false]) (pl := [(0, 1), (1, 1), (2, 1)]) (by kernel_rfl) ⟨(Sl.cell1 (Rd.φ hb)), trivial⟩ (by kernel_rfl) rfl ?_
  refine l_box rfl rfl (fun b10 => ?_)
  refine l_as rfl ?_
  refine l_end ?_
  refine c_reg ?_
  refine l_fld (o := 2) rfl (by kernel_rfl) rfl ?_
  refine l_ldo 0 (v := .func (.func 54) #[] #[.pointer (some ⟨eb, 0, none⟩), .pointer (some ⟨cb, 0, none⟩)]) rfl rfl rfl (by kernel_rfl) rfl ?_
  refine l_mv rfl ?_
  refine l_callv (fst := []) (cap := [.pointer (some ⟨eb, 0, none⟩), .pointer (some ⟨cb, 0, none⟩)]) rfl (by kernel_rfl) rfl rfl (fun w' hw => ?_)
  refine (msgRead_s b10 v b 0 false eb cb w' (by first | assumption | omega | (simp <;> omega) | (constructor <;> (first | omega | (simp only [LenOk]; omega) | (simp <;> omega)))) (by first | assumption | omega | (simp <;> omega) | (constructor <;> (first | omega | (simp only [LenOk]; omega) | (simp <;> omega)))) (hw.rdTo heb [2] rfl) (hw.rdTo hcb [2] rfl) (hw.rdTo hb [2] rfl) (hw.give [2] rfl (by decide))).mono ?_
  rintro _ w1 ⟨kd1_, sr2_, ds3_, tm4_, ix5_, lt6_, cm7_, rn8_, f9_, ev10_, es11_, r112_, l113_, r214_, l215_, of16_, dv17_, dl18_, a'19_, bad'20_, rfl, hf2_3, hf2_3_1, hf2_3_2, hO⟩
  refine (?_ : CL _ _ _ _ _ _ (Own w [] [Res.row b2 67 [.func (.func 46) #[] #[.pointer (some ⟨nb, 0, none⟩), .pointer (some ⟨cb, 0, none⟩), .pointer (some ⟨eb, 0, none⟩)], .func (.func 49) #[] #[.pointer (some ⟨eb, 0, none⟩), .pointer (some ⟨cb, 0, none⟩)], .func (.func 54) #[] #[.pointer (some ⟨eb, 0, none⟩), .pointer (some ⟨cb, 0, none⟩)]], Res.row b4 29 [.int .i64 0, .int .i64 0, .int .i64 0, .int .u64 (0 : Nat), .int .u64 (0 : Nat), .int .u64 (0 : Nat), .int .u64 (0 : Nat), .int .u64 (0 : Nat), .bool false, .slice none 0 0, .slice none 0 0, .slice none 0 0, .int .i64 0, .slice none 0 0], Res.row b10 133 [v, .int .i64 (a'19_ : Nat), .bool bad'20_], Res.vec 75 5 ev10_ es11_.length (es11_.flatMap EntD.cells), Res.star (es11_.map EntD.dres), Res.vec 3 1 r112_ l113_.length (l113_.flatMap I1), Res.vec 3 1 r214_ l215_.length (l215_.flatMap I1), Res.vec 5 1 dv17_ dl18_.length (dl18_.map vb)])) w1 (hw.frameL [2] rfl hO)
  refine l_haveO (fun w' hw => Own.cell1Vec (i := 3) rfl hw) (fun hc1_ => ?_)
  refine l_haveO (fun w' hw => Own.cell1Vec (i := 5) rfl hw) (fun hc2_ => ?_)
  refine l_haveO (fun w' hw => Own.cell1Vec (i := 6) rfl hw) (fun hc3_ => ?_)
  refine l_haveO (fun w' hw => Own.cell1Vec (i := 7) rfl hw) (fun hc4_ => ?_)
  refine l_stN (cs := [.int .i64 0, .int .i64 0, .int .i64 0, .int .u64 (0 : Nat), .int .u64 (0 : Nat), .int .u64 (0 : Nat), .int .u64 (0 : Nat), .int .u64 (0 : Nat), .bool false, .slice none 0 0, .slice none 0 0, .slice none 0 0, .int .i64 0, .slice none 0 0]) (vs := [.int .i64 (kd1_ : Nat), .int .i64 (sr2_ : Nat), .int .i64 (ds3_ : Nat), .int .u64 (tm4_ : Nat), .int .u64 (ix5_ : Nat), .int .u64 (lt6_ : Nat), .int .u64 (cm7_ : Nat), .int .u64 (rn8_ : Nat), .bool f9_, ev10_, r112_, r214_, .int .i64 (of16_ : Nat), dv17_]) 1 rfl rfl rfl (by kernel_rfl) (allc_cons rfl (allc_cons rfl (allc_cons rfl (allc_cons rfl (allc_cons rfl (allc_cons rfl (allc_cons rfl (allc_cons rfl (allc_cons rfl (allc_cons hc1_ (allc_cons hc2_ (allc_cons hc3_ (allc_cons rfl (allc_cons hc4_ allc_nil)))))))))))))) (Nat.le_of_ble_eq_true rfl) ?_
  refine l_end ?_
  refine c_seq ?_
  refine c_reg ?_
  refine l_mv rfl ?_
  refine l_nck rfl rfl ?_
  refine l_fld (o := 2) rfl (by kernel_rfl) rfl ?_
  refine l_ldo 2 (v := .bool bad'20_) rfl rfl rfl (by kernel_rfl) rfl ?_
  refine l_mv rfl ?_
  refine l_bor (q := bad'20_ = true) 7 4 [26, 25, 24, 23, 22, 21, 20] (((a'19_ : Nat) : Int) ≠ ((b.length : Nat) : Int)) rfl rfl (bool_dec _) rfl rfl rfl trivial rfl (fun h3_4 => ?_) (fun g3_12 => ?_)
  ·
    refine l_on rfl (bF h3_4) ?_
    refine l_mv rfl ?_
    refine l_on rfl (bF h3_4) ?_
    refine l_nck rfl rfl ?_
    refine l_on rfl (bF h3_4) ?_
    refine l_fld (o := 1) rfl (by kernel_rfl) rfl ?_
    refine l_on rfl (bF h3_4) ?_
    refine l_ldo 2 (v := .int .i64 (a'19_ : Nat)) rfl rfl rfl (by kernel_rfl) rfl ?_
    refine l_on rfl (bF h3_4) ?_
    refine l_mv rfl ?_
    refine l_on rfl (bF h3_4) ?_
    refine l_lenS (len := b.length) (cs := (b.map vb)) (by kernel_rfl) rfl (fun w' hw' => Own.rd hb hw') rfl ?_
    refine l_on rfl (bF h3_4) ?_
    refine l_ne rfl rfl rfl ?_
    exact l_nil (fun w' hw => ⟨(by repeat (first | exact Out.refl _ _ | refine Out.upd rfl ?_ | refine Out.msk rfl ?_)), rfl, hw⟩)
  refine l_mv rfl ?_
  refine l_bor (q := (bad'20_ = true) ∨ (((a'19_ : Nat) : Int) ≠ ((b.length : Nat) : Int))) 5 13 [33, 32, 31, 30, 29] (¬ (({ kind := ((kd1_ : Nat) : Int), src := ((sr2_ : Nat) : Int), dst := ((ds3_ : Nat) : Int), term := tm4_, index := ix5_, logTerm := lt6_, commit := cm7_, round := rn8_, flag := f9_, ev := ev10_, ents := es11_, conf := ({ vv := r112_, vs := l113_, lv := r214_, ls := l215_ } : ConfD), off := ((of16_ : Nat) : Int), dv := dv17_, data := dl18_ } : MsgD).a.ok)) rfl rfl rfl rfl rfl rfl trivial rfl (fun h3_13 => ?_) (fun g3_19 => ?_)
  ·
    refine l_on rfl (gF h3_13) ?_
    refine l_fld (o := 0) rfl (by kernel_rfl) rfl ?_
    refine l_on rfl (gF h3_13) ?_
    refine l_ldo 0 (v := .func (.func 46) #[] #[.pointer (some ⟨nb, 0, none⟩), .pointer (some ⟨cb, 0, none⟩), .pointer (some ⟨eb, 0, none⟩)]) rfl rfl rfl (by kernel_rfl) rfl ?_
    refine l_on rfl (gF h3_13) ?_
    refine l_ldr (cs := [.int .i64 (kd1_ : Nat), .int .i64 (sr2_ : Nat), .int .i64 (ds3_ : Nat), .int .u64 (tm4_ : Nat), .int .u64 (ix5_ : Nat), .int .u64 (lt6_ : Nat), .int .u64 (cm7_ : Nat), .int .u64 (rn8_ : Nat), .bool f9_, ev10_, r112_, r214_, .int .i64 (of16_ : Nat), dv17_]) 1 rfl rfl (by kernel_rfl) rfl ?_
    refine l_on rfl (gF h3_13) ?_
    refine l_callv (fst := []) (cap := [.pointer (some ⟨nb, 0, none⟩), .pointer (some ⟨cb, 0, none⟩), .pointer (some ⟨eb, 0, none⟩)]) rfl (by kernel_rfl) rfl rfl (fun w' hw => ?_)
    refine (msgSound_s ({ kind := ((kd1_ : Nat) : Int), src := ((sr2_ : Nat) : Int), dst := ((ds3_ : Nat) : Int), term := tm4_, index := ix5_, logTerm := lt6_, commit := cm7_, round := rn8_, flag := f9_, ev := ev10_, ents := es11_, conf := ({ vv := r112_, vs := l113_, lv := r214_, ls := l215_ } : ConfD), off := ((of16_ : Nat) : Int), dv := dv17_, data := dl18_ } : MsgD) nb cb eb w' (hf2_3_2.wf hf2_3_1 hl) (hw.rd0 hnb) (hw.rd0 hcb) (hw.rd0 heb) ⟨(hw.rdVec0 3 rfl), (EntD.rd.star0 4 rfl hw), ⟨(hw.rdVec0 5 rfl), (hw.rdVec0 6 rfl)⟩, (hw.rdVec0 7 rfl)⟩).mono ?_
    rintro _ w1 ⟨rfl, hO⟩
    refine (?_ : CL _ _ _ _ _ _ (Own w [] [Res.row b2 67 [.func (.func 46) #[] #[.pointer (some ⟨nb, 0, none⟩), .pointer (some ⟨cb, 0, none⟩), .pointer (some ⟨eb, 0, none⟩)], .func (.func 49) #[] #[.pointer (some ⟨eb, 0, none⟩), .pointer (some ⟨cb, 0, none⟩)], .func (.func 54) #[] #[.pointer (some ⟨eb, 0, none⟩), .pointer (some ⟨cb, 0, none⟩)]], Res.row b4 29 [.int .i64 (kd1_ : Nat), .int .i64 (sr2_ : Nat), .int .i64 (ds3_ : Nat), .int .u64 (tm4_ : Nat), .int .u64 (ix5_ : Nat), .int .u64 (lt6_ : Nat), .int .u64 (cm7_ : Nat), .int .u64 (rn8_ : Nat), .bool f9_, ev10_, r112_, r214_, .int .i64 (of16_ : Nat), dv17_], Res.row b10 133 [v, .int .i64 (a'19_ : Nat), .bool bad'20_], Res.vec 75 5 ev10_ es11_.length (es11_.flatMap EntD.cells), Res.star (es11_.map EntD.dres), Res.vec 3 1 r112_ l113_.length (l113_.flatMap I1), Res.vec 3 1 r214_ l215_.length (l215_.flatMap I1), Res.vec 5 1 dv17_ dl18_.length (dl18_.map vb)])) w1 (hw.frame0 hO)
    refine l_on rfl (gF h3_13) ?_
    refine l_notp (q := ({ kind := ((kd1_ : Nat) : Int), src := ((sr2_ : Nat) : Int), dst := ((ds3_ : Nat) : Int), term := tm4_, index := ix5_, logTerm := lt6_, commit := cm7_, round := rn8_, flag := f9_, ev := ev10_, ents := es11_, conf := ({ vv := r112_, vs := l113_, lv := r214_, ls := l215_ } : ConfD), off := ((of16_ : Nat) : Int), dv := dv17_, data := dl18_ } : MsgD).a.ok) rfl rfl ?_
    exact l_nil (fun w' hw => ⟨(by repeat (first | exact Out.refl _ _ | refine Out.upd rfl ?_ | refine Out.msk rfl ?_)), rfl, hw⟩)
  refine l_end ?_
  refine c_dec rfl (fun c1 => ?_) (fun c1 => ?_)
  ·
    refine c_reg ?_
    refine l_new (v := .agg #[.int .i64 0, .int .i64 0, .int .i64 0, .int .u64 (0 : Nat), .int .u64 (0 : Nat), .int .u64 (0 : Nat), .int .u64 (0 : Nat), .int .u64 (0 : Nat), .bool false, .slice none 0 0, .slice none 0 0, .slice none 0 0, .int .i64 0, .slice none 0 0]) (by kernel_rfl) rfl (fun b7 => ?_)
    refine l_end ?_
    refine c_reg ?_
    refine l_ldr (cs := [.int .i64 0, .int .i64 0, .int .i64 0, .int .u64 (0 : Nat), .int .u64 (0 : Nat), .int .u64 (0 : Nat), .int .u64 (0 : Nat), .int .u64 (0 : Nat), .bool false, .slice none 0 0, .slice none 0 0, .slice none 0 0, .int .i64 0, .slice none 0 0]) 8 rfl rfl (by kernel_rfl) rfl ?_
    refine l_stN (cs := [.int .i64 (kd1_ : Nat), .int .i64 (sr2_ : Nat), .int .i64 (ds3_ : Nat), .int .u64 (tm4_ : Nat), .int .u64 (ix5_ : Nat), .int .u64 (lt6_ : Nat), .int .u64 (cm7_ : Nat), .int .u64 (rn8_ : Nat), .bool f9_, ev10_, r112_, r214_, .int .i64 (of16_ : Nat), dv17_]) (vs := [.int .i64 0, .int .i64 0, .int .i64 0, .int .u64 (0 : Nat), .int .u64 (0 : Nat), .int .u64 (0 : Nat), .int .u64 (0 : Nat), .int .u64 (0 : Nat), .bool false, .slice none 0 0, .slice none 0 0, .slice none 0 0, .int .i64 0, .slice none 0 0]) 1 rfl rfl rfl (by kernel_rfl) (allc_cons rfl (allc_cons rfl (allc_cons rfl (allc_cons rfl (allc_cons rfl (allc_cons rfl (allc_cons rfl (allc_cons rfl (allc_cons rfl (allc_cons rfl (allc_cons rfl (allc_cons rfl (allc_cons rfl (allc_cons rfl allc_nil)))))))))))))) (Nat.le_of_ble_eq_true rfl) ?_
    refine l_as rfl ?_
    refine l_end ?_
    exact c_ret (retc2 (cs := [.int .i64 0, .int .i64 0, .int .i64 0, .int .u64 (0 : Nat), .int .u64 (0 : Nat), .int .u64 (0 : Nat), .int .u64 (0 : Nat), .int .u64 (0 : Nat), .bool false, .slice none 0 0, .slice none 0 0, .slice none 0 0, .int .i64 0, .slice none 0 0]) (v := .int .i64 4) rfl rfl rfl (by kernel_rfl) (Own.rowCells (i := 1) rfl) (fun w' hw => ⟨0, 0, 0, 0, 0, 0, 0, 0, false, .slice none 0 0, [], .slice none 0 0, [], .slice none 0 0, [], 0, .slice none 0 0, [], 4, rfl, .inr ⟨rfl, whole_no hf2_3 (fun h1 h2 h3 => c1.elim (fun h => h.elim (fun h => (by rw [h1] at h; cases h)) (fun h => h (by omega))) (fun h => h h3)), rfl⟩, ⟨by decide, by decide, by decide, by decide, by decide⟩, ⟨⟨by simp, by simp⟩, ⟨by simp, by simp⟩, by simp⟩, own_nil (own_nil (own_nil ((own_nil hw.drop 75 5).starNil) 3 1) 3 1) 5 1⟩))
  ·
    refine c_skipC ?_
    refine c_reg ?_
    refine l_ldr (cs := [.int .i64 (kd1_ : Nat), .int .i64 (sr2_ : Nat), .int .i64 (ds3_ : Nat), .int .u64 (tm4_ : Nat), .int .u64 (ix5_ : Nat), .int .u64 (lt6_ : Nat), .int .u64 (cm7_ : Nat), .int .u64 (rn8_ : Nat), .bool f9_, ev10_, r112_, r214_, .int .i64 (of16_ : Nat), dv17_]) 1 rfl rfl (by kernel_rfl) rfl ?_
    refine l_stN (cs := [.int .i64 (kd1_ : Nat), .int .i64 (sr2_ : Nat), .int .i64 (ds3_ : Nat), .int .u64 (tm4_ : Nat), .int .u64 (ix5_ : Nat), .int .u64 (lt6_ : Nat), .int .u64 (cm7_ : Nat), .int .u64 (rn8_ : Nat), .bool f9_, ev10_, r112_, r214_, .int .i64 (of16_ : Nat), dv17_]) (vs := [.int .i64 (kd1_ : Nat), .int .i64 (sr2_ : Nat), .int .i64 (ds3_ : Nat), .int .u64 (tm4_ : Nat), .int .u64 (ix5_ : Nat), .int .u64 (lt6_ : Nat), .int .u64 (cm7_ : Nat), .int .u64 (rn8_ : Nat), .bool f9_, ev10_, r112_, r214_, .int .i64 (of16_ : Nat), dv17_]) 1 rfl rfl rfl (by kernel_rfl) (allc_cons rfl (allc_cons rfl (allc_cons rfl (allc_cons rfl (allc_cons rfl (allc_cons rfl (allc_cons rfl (allc_cons rfl (allc_cons rfl (allc_cons hc1_ (allc_cons hc2_ (allc_cons hc3_ (allc_cons rfl (allc_cons hc4_ allc_nil)))))))))))))) (Nat.le_of_ble_eq_true rfl) ?_
    refine l_as rfl ?_
    refine l_end ?_
    exact c_ret (retc2 (cs := [.int .i64 (kd1_ : Nat), .int .i64 (sr2_ : Nat), .int .i64 (ds3_ : Nat), .int .u64 (tm4_ : Nat), .int .u64 (ix5_ : Nat), .int .u64 (lt6_ : Nat), .int .u64 (cm7_ : Nat), .int .u64 (rn8_ : Nat), .bool f9_, ev10_, r112_, r214_, .int .i64 (of16_ : Nat), dv17_]) (v := .int .i64 0) rfl rfl rfl (by kernel_rfl) (Own.rowCells (i := 1) rfl) (fun w' hw => ⟨((kd1_ : Nat) : Int), ((sr2_ : Nat) : Int), ((ds3_ : Nat) : Int), tm4_, ix5_, lt6_, cm7_, rn8_, f9_, ev10_, es11_, r112_, l113_, r214_, l215_, ((of16_ : Nat) : Int), dv17_, dl18_, 0, rfl, .inl ⟨rfl, whole_yes hf2_3 (by cases h : bad'20_; rfl; exact absurd (.inl (.inl h)) c1) (by have : ¬ (a'19_ : Int) ≠ b.length := fun h => c1 (.inl (.inr h)); omega) (Decidable.not_not.1 fun h => c1 (.inr h))⟩, hf2_3_1, hf2_3_2, hw.sel [3, 4, 5, 6, 7] rfl (by decide)⟩))
theorem toMsg_s (v : Value) (b : List UInt8) (w : World) (hl : b.length ≤ 10000000) (hb : Rd w [] (Res.sl v b.length (b.map vb))) : Rets Tryz.prog 4 #[v] w fun u_ w' => ∃ (kd : Int) (sr : Int) (ds : Int) (tm : Nat) (ix : Nat) (lt : Nat) (cm : Nat) (rn : Nat) (f : Bool) (ev : Value) (es : List EntD) (r1 : Value) (l1 : List Int) (r2 : Value) (l2 : List Int) (of : Int) (dv : Value) (dl : List UInt8) (e : Int), u_ = .tuple #[.agg #[.int .i64 kd, .int .i64 sr, .int .i64 ds, .int .u64 (tm : Nat), .int .u64 (ix : Nat), .int .u64 (lt : Nat), .int .u64 (cm : Nat), .int .u64 (rn : Nat), .bool f, ev, r1, r2, .int .i64 of, dv], .int .i64 e] ∧ ValPost (decMsg b) (⟨kd, sr, ds, tm, ix, lt, cm, rn, f, es.map EntD.toEntA, ⟨l1, l2⟩, of, dl⟩ : MsgA) msgZ e ∧ (⟨kd, sr, ds, tm, ix, lt, cm, rn, f, ev, es, ⟨r1, l1, r2, l2⟩, of, dv, dl⟩ : MsgD).nums ∧ (⟨kd, sr, ds, tm, ix, lt, cm, rn, f, ev, es, ⟨r1, l1, r2, l2⟩, of, dv, dl⟩ : MsgD).small b.length ∧ Own w [] [Res.vec 75 5 ev es.length (es.flatMap EntD.cells), Res.star (es.map EntD.dres), Res.vec 3 1 r1 l1.length (l1.flatMap I1), Res.vec 3 1 r2 l2.length (l2.flatMap I1), Res.vec 5 1 dv dl.length (dl.map vb)] w' := by
  refine fn_enter (args := [v]) Tryz.func4 rfl Tryz.ntmps4 rfl (Own.start w) ?_
  refine c_reg ?_
  refine l_new (v := .agg #[.int .i64 0, .int .i64 0, .int .i64 0, .int .u64 (0 : Nat), .int .u64 (0 : Nat), .int .u64 (0 : Nat), .int .u64 (0 : Nat), .int .u64 (0 : Nat), .bool false, .slice none 0 0, .slice none 0 0, .slice none 0 0, .int .i64 0, .slice none 0 0]) (by kernel_rfl) rfl (fun b2 => ?_)
  refine l_as rfl ?_
  refine l_end ?_
  refine c_reg ?_
  refine l_call (by kernel_rfl) rfl rfl (fun w' hw => ?_)
  refine (msgs_s w').mono ?_
  rintro _ w1 ⟨nb1_, cb2_, eb3_, rfl, hO⟩
  refine (?_ : CL _ _ _ _ _ _ (Own w [] [Res.row b2 29 [.int .i64 0, .int .i64 0, .int .i64 0, .int .u64 (0 : Nat), .int .u64 (0 : Nat), .int .u64 (0 : Nat), .int .u64 (0 : Nat), .int .u64 (0 : Nat), .bool false, .slice none 0 0, .slice none 0 0, .slice none 0 0, .int .i64 0, .slice none 0 0], Res.row nb1_ 123 [.func (.func 45) #[] #[]], Res.row cb2_ 115 [.func (.func 80) #[] #[], .func (.func 85) #[] #[], .func (.func 87) #[] #[]], Res.row eb3_ 121 [.func (.func 89) #[] #[], .func (.func 91) #[] #[], .func (.func 92) #[] #[]]])) w1 (hw.frame0 hO)
  refine l_mv rfl ?_
  refine l_call (by kernel_rfl) rfl rfl (fun w' hw => ?_)
  refine (msgValue_s v b nb1_ cb2_ eb3_ w' (by first | assumption | omega | (simp <;> omega) | (constructor <;> (first | omega | (simp only [LenOk]; omega) | (simp <;> omega)))) (hw.rdRes0 1 rfl) (hw.rdRes0 2 rfl) (hw.rdRes0 3 rfl) (hw.rd0 hb)).mono ?_
  rintro _ w1 ⟨kd4_, sr5_, ds6_, tm7_, ix8_, lt9_, cm10_, rn11_, f12_, ev13_, es14_, r115_, l116_, r217_, l218_, of19_, dv20_, dl21_, e22_, rfl, hf1_2, hf1_2_1, hf1_2_2, hO⟩
  refine (?_ : CL _ _ _ _ _ _ (Own w [] [Res.row b2 29 [.int .i64 0, .int .i64 0, .int .i64 0, .int .u64 (0 : Nat), .int .u64 (0 : Nat), .int .u64 (0 : Nat), .int .u64 (0 : Nat), .int .u64 (0 : Nat), .bool false, .slice none 0 0, .slice none 0 0, .slice none 0 0, .int .i64 0, .slice none 0 0], Res.row nb1_ 123 [.func (.func 45) #[] #[]], Res.row cb2_ 115 [.func (.func 80) #[] #[], .func (.func 85) #[] #[], .func (.func 87) #[] #[]], Res.row eb3_ 121 [.func (.func 89) #[] #[], .func (.func 91) #[] #[], .func (.func 92) #[] #[]], Res.vec 75 5 ev13_ es14_.length (es14_.flatMap EntD.cells), Res.star (es14_.map EntD.dres), Res.vec 3 1 r115_ l116_.length (l116_.flatMap I1), Res.vec 3 1 r217_ l218_.length (l218_.flatMap I1), Res.vec 5 1 dv20_ dl21_.length (dl21_.map vb)])) w1 (hw.frame0 hO)
  refine l_ext (vs := [.agg #[.int .i64 kd4_, .int .i64 sr5_, .int .i64 ds6_, .int .u64 (tm7_ : Nat), .int .u64 (ix8_ : Nat), .int .u64 (lt9_ : Nat), .int .u64 (cm10_ : Nat), .int .u64 (rn11_ : Nat), .bool f12_, ev13_, r115_, r217_, .int .i64 of19_, dv20_], .int .i64 e22_]) rfl rfl rfl ?_
  refine l_ext (vs := [.agg #[.int .i64 kd4_, .int .i64 sr5_, .int .i64 ds6_, .int .u64 (tm7_ : Nat), .int .u64 (ix8_ : Nat), .int .u64 (lt9_ : Nat), .int .u64 (cm10_ : Nat), .int .u64 (rn11_ : Nat), .bool f12_, ev13_, r115_, r217_, .int .i64 of19_, dv20_], .int .i64 e22_]) rfl rfl rfl ?_
  refine l_haveO (fun w' hw => Own.cell1Vec (i := 4) rfl hw) (fun hc1_ => ?_)
  refine l_haveO (fun w' hw => Own.cell1Vec (i := 6) rfl hw) (fun hc2_ => ?_)
  refine l_haveO (fun w' hw => Own.cell1Vec (i := 7) rfl hw) (fun hc3_ => ?_)
  refine l_haveO (fun w' hw => Own.cell1Vec (i := 8) rfl hw) (fun hc4_ => ?_)
  refine l_stN (cs := [.int .i64 0, .int .i64 0, .int .i64 0, .int .u64 (0 : Nat), .int .u64 (0 : Nat), .int .u64 (0 : Nat), .int .u64 (0 : Nat), .int .u64 (0 : Nat), .bool false, .slice none 0 0, .slice none 0 0, .slice none 0 0, .int .i64 0, .slice none 0 0]) (vs := [.int .i64 kd4_, .int .i64 sr5_, .int .i64 ds6_, .int .u64 (tm7_ : Nat), .int .u64 (ix8_ : Nat), .int .u64 (lt9_ : Nat), .int .u64 (cm10_ : Nat), .int .u64 (rn11_ : Nat), .bool f12_, ev13_, r115_, r217_, .int .i64 of19_, dv20_]) 0 rfl rfl rfl (by kernel_rfl) (allc_cons rfl (allc_cons rfl (allc_cons rfl (allc_cons rfl (allc_cons rfl (allc_cons rfl (allc_cons rfl (allc_cons rfl (allc_cons rfl (allc_cons hc1_ (allc_cons hc2_ (allc_cons hc3_ (allc_cons rfl (allc_cons hc4_ allc_nil)))))))))))))) (Nat.le_of_ble_eq_true rfl) ?_
  refine l_as rfl ?_
  refine l_end ?_
  exact c_ret (retc2 (cs := [.int .i64 kd4_, .int .i64 sr5_, .int .i64 ds6_, .int .u64 (tm7_ : Nat), .int .u64 (ix8_ : Nat), .int .u64 (lt9_ : Nat), .int .u64 (cm10_ : Nat), .int .u64 (rn11_ : Nat), .bool f12_, ev13_, r115_, r217_, .int .i64 of19_, dv20_]) (v := .int .i64 e22_) rfl rfl rfl (by kernel_rfl) (Own.rowCells (i := 0) rfl) (fun w' hw => ⟨kd4_, sr5_, ds6_, tm7_, ix8_, lt9_, cm10_, rn11_, f12_, ev13_, es14_, r115_, l116_, r217_, l218_, of19_, dv20_, dl21_, e22_, rfl, hf1_2, hf1_2_1, hf1_2_2, hw.sel [4, 5, 6, 7, 8] rfl (by decide)⟩))
theorem sameEnts_s (v : Value) (l : List EntD) (u : Value) (m : List EntD) (w : World) (hl : LenOk l.length) (hm : LenOk m.length) (hx : ∀ e ∈ l, e.data.length ≤ 1000000000) (hy : ∀ e ∈ m, e.data.length ≤ 1000000000) (hv : Rd w [] (Res.sl v l.length (l.flatMap EntD.cells))) (all_hv : ∀ p ∈ l, EntD.rd p w []) (hu : Rd w [] (Res.sl u m.length (m.flatMap EntD.cells))) (all_hu : ∀ p ∈ m, EntD.rd p w []) : Rets Tryz.prog 41 #[v, u] w fun u_ w' => u_ = .bool (decide (l.map EntD.toEntA = m.map EntD.toEntA)) ∧ Own w [] [] w' := by
  refine fn_enter (args := [v, u]) Tryz.func41 rfl Tryz.ntmps41 rfl (Own.start w) ?_
  refine c_reg ?_
  refine l_as rfl ?_
  refine l_end ?_
  refine c_seq ?_
  refine c_reg ?_
  refine l_as rfl ?_
  refine l_end ?_
  refine c_block ?_
  refine c_loop1 (fun (k : Nat) => [(0, v), (1, u), (5, .int .i64 (k : Nat))]) (fun (k : Nat) => k ≤ l.length ∧ k ≤ m.length ∧ (l.take k).map EntD.toEntA = (m.take k).map EntD.toEntA) (fun (k : Nat) => []) (fun (k : Nat) => l.length - k) (fun w' hw => ⟨0, ⟨rfl, rfl, rfl, trivial⟩, ⟨Nat.zero_le _, Nat.zero_le _, by simp⟩, hw⟩) (fun k g hΦ => ?_)
  refine c_seq ?_
  refine c_reg ?_
  refine l_mv rfl ?_
  refine l_mv rfl ?_
  refine l_lenS (len := l.length) (cs := (l.flatMap EntD.cells)) (by kernel_rfl) rfl (fun w' hw' => Own.rd hv hw') rfl ?_
  refine l_lss rfl rfl rfl ?_
  refine l_mv rfl ?_
  refine l_band (q := ((k : Nat) : Int) < ((l.length : Nat) : Int)) 4 4 [14, 13, 12, 11] (((k : Nat) : Int) < ((m.length : Nat) : Int)) rfl rfl rfl rfl rfl rfl trivial rfl (fun h2_4 => ?_) (fun g2_9 => ?_)
  ·
    refine l_on rfl (gT h2_4) ?_
    refine l_mv rfl ?_
    refine l_on rfl (gT h2_4) ?_
    refine l_mv rfl ?_
    refine l_on rfl (gT h2_4) ?_
    refine l_lenS (len := m.length) (cs := (m.flatMap EntD.cells)) (by kernel_rfl) rfl (fun w' hw' => Own.rd hu hw') rfl ?_
    refine l_on rfl (gT h2_4) ?_
    refine l_lss rfl rfl rfl ?_
    exact l_nil (fun w' hw => ⟨(by repeat (first | exact Out.refl _ _ | refine Out.upd rfl ?_ | refine Out.msk rfl ?_)), rfl, hw⟩)
  refine l_end ?_
  refine c_dec rfl (fun c1 => ?_) (fun c1 => ?_)
  ·
    refine c_skipC ?_
    refine c_seq ?_
    refine c_block ?_
    refine c_seq ?_
    refine c_heldo [] rfl (by decide) (by kernel_rfl) (fun w' hw hS => ?_)
    refine h_take 0 rfl (by kernel_rfl) (by kernel_rfl) (by kernel_rfl) (v_mv) rfl hS ?_
    refine h_take 1 rfl (by kernel_rfl) (by kernel_rfl) (by kernel_rfl) (v_mv) rfl hS ?_
    refine h_take 2 rfl (by kernel_rfl) (by kernel_rfl) (by kernel_rfl) (v_idxS (j := k) (sz := 5) (len := l.length) (cs := (l.flatMap EntD.cells)) rfl rfl (by kernel_rfl) (fun w' hw' => Own.rd hv hw') rfl (by omega)) rfl hS ?_
    refine h_take 3 rfl (by kernel_rfl) (by kernel_rfl) (by kernel_rfl) (v_ldSN (v := v) (off := offV v + k * 5) (k * 5 + 0) (cs := (l.flatMap EntD.cells)) (EntD.cells (nth l k)) rfl (by omega) (fun w' hw' => Own.rd hv hw') (flat_atN (sz := 5) (fun _ => rfl) (nth_some (by omega)) (o := 0) (us := (EntD.cells (nth l k))) (fun k u h => by rw [Nat.zero_add]; exact h)) (by kernel_rfl)) rfl hS ?_
    refine h_take 4 rfl (by kernel_rfl) (by kernel_rfl) (by kernel_rfl) (v_mv) rfl hS ?_
    refine h_take 5 rfl (by kernel_rfl) (by kernel_rfl) (by kernel_rfl) (v_mv) rfl hS ?_
    refine h_take 6 rfl (by kernel_rfl) (by kernel_rfl) (by kernel_rfl) (v_idxS (j := k) (sz := 5) (len := m.length) (cs := (m.flatMap EntD.cells)) rfl rfl (by kernel_rfl) (fun w' hw' => Own.rd hu hw') rfl (by omega)) rfl hS ?_
    refine h_take 7 rfl (by kernel_rfl) (by kernel_rfl) (by kernel_rfl) (v_ldSN (v := u) (off := offV u + k * 5) (k * 5 + 0) (cs := (m.flatMap EntD.cells)) (EntD.cells (nth m k)) rfl (by omega) (fun w' hw' => Own.rd hu hw') (flat_atN (sz := 5) (fun _ => rfl) (nth_some (by omega)) (o := 0) (us := (EntD.cells (nth m k))) (fun k u h => by rw [Nat.zero_add]; exact h)) (by kernel_rfl)) rfl hS ?_
    refine h_one 8 (by kernel_rfl) rfl hw ?_
    refine l_call (by kernel_rfl) rfl rfl (fun w' hw => ?_)
    refine (sameEnt_s (nth l k) (nth m k) w' (hx _ (nth_mem (by omega))) (hy _ (nth_mem (by omega))) ((all_hv _ (nth_mem (by omega))).at0 hw) ((all_hu _ (nth_mem (by omega))).at0 hw)).mono ?_
    rintro _ w1 ⟨rfl, hO⟩
    refine (?_ : CL _ _ _ _ _ _ (Own w [] [])) w1 (hw.frame0 hO)
    refine l_nil (fun w' hw => ?_)
    have hS := hw.sel [] rfl (by decide)
    refine ⟨hS, ?_⟩
    refine h_take 9 rfl (by kernel_rfl) (by kernel_rfl) (by kernel_rfl) (v_notp (q := (nth l k).toEntA = (nth m k).toEntA) rfl) rfl hS ?_
    refine h_done (by kernel_rfl) ?_
    refine (?_ : C _ _ _ _ _ _ _ (Own w [] [])) _ hw
    refine c_dec rfl (fun c2 => ?_) (fun c2 => ?_)
    ·
      refine c_reg ?_
      refine l_as rfl ?_
      refine l_end ?_
      exact c_ret (ret1 (v := .bool false) rfl rfl (fun w' hw => ⟨(by rw [decide_eq_false]; intro h; apply c2; have h1 := nth_map (g := EntD.toEntA) (l := l) (j := k) (by omega); have h2 := nth_map (g := EntD.toEntA) (l := m) (j := k) (by omega); rw [← h1, ← h2, h]), hw.drop⟩))
    ·
      refine c_skipC ?_
      refine c_last ?_
      refine l_mv rfl ?_
      refine l_add rfl rfl (wi64 (by omega)) rfl ?_
      refine l_as rfl ?_
      exact l_nil (fun w' hw => ⟨k + 1, ⟨rfl, rfl, rfl, trivial⟩, ⟨by omega, by omega, by rw [take_nth (by omega), take_nth (by omega), List.map_append, List.map_append, hΦ.2.2]; simp only [List.map_cons, List.map_nil]; rw [Decidable.not_not.1 c2]⟩, hw, (by omega)⟩)
  ·
    refine c_exitC rfl ?_
    refine c_reg ?_
    refine l_mv rfl ?_
    refine l_lenS (len := l.length) (cs := (l.flatMap EntD.cells)) (by kernel_rfl) rfl (fun w' hw' => Own.rd hv hw') rfl ?_
    refine l_mv rfl ?_
    refine l_lenS (len := m.length) (cs := (m.flatMap EntD.cells)) (by kernel_rfl) rfl (fun w' hw' => Own.rd hu hw') rfl ?_
    refine l_eq rfl rfl rfl ?_
    refine l_as rfl ?_
    refine l_end ?_
    exact c_ret (ret1 (v := .bool (decide (((l.length : Nat) : Int) = ((m.length : Nat) : Int)))) rfl rfl (fun w' hw => ⟨(by congr 1; exact decide_eq_decide.2 ⟨fun h => by have h2 := hΦ.2.2; rw [List.take_of_length_le (by omega), List.take_of_length_le (by omega)] at h2; exact h2, fun h => by have := congrArg List.length h; simp only [List.length_map] at this; omega⟩), hw.drop⟩))
theorem sameMsg_s (x y : MsgD) (w : World) (hx : x.wf) (hy : y.wf) (rd_x : MsgD.rd x w []) (rd_y : MsgD.rd y w []) : Rets Tryz.prog 16 #[.agg (MsgD.cells x).toArray, .agg (MsgD.cells y).toArray] w fun u_ w' => u_ = .bool (decide (x.a = y.a)) ∧ Own w [] [] w' := by
  have h1 := hx.conf.vs
  have h2 := hx.conf.ls
  have h3 := hy.conf.vs
  have h4 := hy.conf.ls
  have h5 := hx.data
  have h6 := hy.data
  have h7 := hx.ents
  have h8 := hy.ents
  refine fn_enter (args := [.agg (MsgD.cells x).toArray, .agg (MsgD.cells y).toArray]) Tryz.func16 rfl Tryz.ntmps16 rfl (Own.start w) ?_
  refine c_reg ?_
  refine l_box rfl rfl (fun b2 => ?_)
  refine l_box rfl rfl (fun b3 => ?_)
  refine l_as rfl ?_
  refine l_end ?_
  refine c_seq ?_
  refine c_reg ?_
  refine l_fld (o := 0) rfl (by kernel_rfl) rfl ?_
  refine l_ldo 0 (v := .int .i64 x.kind) rfl rfl rfl (by kernel_rfl) rfl ?_
  refine l_fld (o := 0) rfl (by kernel_rfl) rfl ?_
  refine l_ldo 1 (v := .int .i64 y.kind) rfl rfl rfl (by kernel_rfl) rfl ?_
  refine l_ne rfl rfl rfl ?_
  refine l_mv rfl ?_
  refine l_bor (q := x.kind ≠ y.kind) 5 5 [15, 14, 13, 12, 11] (x.src ≠ y.src) rfl rfl rfl rfl rfl rfl trivial rfl (fun h1_5 => ?_) (fun g1_11 => ?_)
  ·
    refine l_on rfl (gF h1_5) ?_
    refine l_fld (o := 1) rfl (by kernel_rfl) rfl ?_
    refine l_on rfl (gF h1_5) ?_
    refine l_ldo 0 (v := .int .i64 x.src) rfl rfl rfl (by kernel_rfl) rfl ?_
    refine l_on rfl (gF h1_5) ?_
    refine l_fld (o := 1) rfl (by kernel_rfl) rfl ?_
    refine l_on rfl (gF h1_5) ?_
    refine l_ldo 1 (v := .int .i64 y.src) rfl rfl rfl (by kernel_rfl) rfl ?_
    refine l_on rfl (gF h1_5) ?_
    refine l_ne rfl rfl rfl ?_
    exact l_nil (fun w' hw => ⟨(by repeat (first | exact Out.refl _ _ | refine Out.upd rfl ?_ | refine Out.msk rfl ?_)), rfl, hw⟩)
  refine l_mv rfl ?_
  refine l_bor (q := (x.kind ≠ y.kind) ∨ (x.src ≠ y.src)) 5 12 [22, 21, 20, 19, 18] (x.dst ≠ y.dst) rfl rfl rfl rfl rfl rfl trivial rfl (fun h1_12 => ?_) (fun g1_18 => ?_)
  ·
    refine l_on rfl (gF h1_12) ?_
    refine l_fld (o := 2) rfl (by kernel_rfl) rfl ?_
    refine l_on rfl (gF h1_12) ?_
    refine l_ldo 0 (v := .int .i64 x.dst) rfl rfl rfl (by kernel_rfl) rfl ?_
    refine l_on rfl (gF h1_12) ?_
    refine l_fld (o := 2) rfl (by kernel_rfl) rfl ?_
    refine l_on rfl (gF h1_12) ?_
    refine l_ldo 1 (v := .int .i64 y.dst) rfl rfl rfl (by kernel_rfl) rfl ?_
    refine l_on rfl (gF h1_12) ?_
    refine l_ne rfl rfl rfl ?_
    exact l_nil (fun w' hw => ⟨(by repeat (first | exact Out.refl _ _ | refine Out.upd rfl ?_ | refine Out.msk rfl ?_)), rfl, hw⟩)
  refine l_mv rfl ?_
  refine l_bor (q := ((x.kind ≠ y.kind) ∨ (x.src ≠ y.src)) ∨ (x.dst ≠ y.dst)) 5 19 [29, 28, 27, 26, 25] (((x.term : Nat) : Int) ≠ ((y.term : Nat) : Int)) rfl rfl rfl rfl rfl rfl trivial rfl (fun h1_19 => ?_) (fun g1_25 => ?_)
  ·
    refine l_on rfl (gF h1_19) ?_
    refine l_fld (o := 3) rfl (by kernel_rfl) rfl ?_
    refine l_on rfl (gF h1_19) ?_
    refine l_ldo 0 (v := .int .u64 (x.term : Nat)) rfl rfl rfl (by kernel_rfl) rfl ?_
    refine l_on rfl (gF h1_19) ?_
    refine l_fld (o := 3) rfl (by kernel_rfl) rfl ?_
    refine l_on rfl (gF h1_19) ?_
    refine l_ldo 1 (v := .int .u64 (y.term : Nat)) rfl rfl rfl (by kernel_rfl) rfl ?_
    refine l_on rfl (gF h1_19) ?_
    refine l_ne rfl rfl rfl ?_
    exact l_nil (fun w' hw => ⟨(by repeat (first | exact Out.refl _ _ | refine Out.upd rfl ?_ | refine Out.msk rfl ?_)), rfl, hw⟩)
  refine l_mv rfl ?_
  refine l_bor (q := (((x.kind ≠ y.kind) ∨ (x.src ≠ y.src)) ∨ (x.dst ≠ y.dst)) ∨ (((x.term : Nat) : Int) ≠ ((y.term : Nat) : Int))) 5 26 [36, 35, 34, 33, 32] (((x.index : Nat) : Int) ≠ ((y.index : Nat) : Int)) rfl rfl rfl rfl rfl rfl trivial rfl (fun h1_26 => ?_) (fun g1_32 => ?_)
  ·
    refine l_on rfl (gF h1_26) ?_
    refine l_fld (o := 4) rfl (by kernel_rfl) rfl ?_
    refine l_on rfl (gF h1_26) ?_
    refine l_ldo 0 (v := .int .u64 (x.index : Nat)) rfl rfl rfl (by kernel_rfl) rfl ?_
    refine l_on rfl (gF h1_26) ?_
    refine l_fld (o := 4) rfl (by kernel_rfl) rfl ?_
    refine l_on rfl (gF h1_26) ?_
    refine l_ldo 1 (v := .int .u64 (y.index : Nat)) rfl rfl rfl (by kernel_rfl) rfl ?_
    refine l_on rfl (gF h1_26) ?_
    refine l_ne rfl rfl rfl ?_
    exact l_nil (fun w' hw => ⟨(by repeat (first | exact Out.refl _ _ | refine Out.upd rfl ?_ | refine Out.msk rfl ?_)), rfl, hw⟩)
  refine l_mv rfl ?_
  refine l_bor (q := ((((x.kind ≠ y.kind) ∨ (x.src ≠ y.src)) ∨ (x.dst ≠ y.dst)) ∨ (((x.term : Nat) : Int) ≠ ((y.term : Nat) : Int))) ∨ (((x.index : Nat) : Int) ≠ ((y.index : Nat) : Int))) 5 33 [43, 42, 41, 40, 39] (((x.logTerm : Nat) : Int) ≠ ((y.logTerm : Nat) : Int)) rfl rfl rfl rfl rfl rfl trivial rfl (fun h1_33 => ?_) (fun g1_39 => ?_)
  ·
    refine l_on rfl (gF h1_33) ?_
    refine l_fld (o := 5) rfl (by kernel_rfl) rfl ?_
    refine l_on rfl (gF h1_33) ?_
    refine l_ldo 0 (v := .int .u64 (x.logTerm : Nat)) rfl rfl rfl (by kernel_rfl) rfl ?_
    refine l_on rfl (gF h1_33) ?_
    refine l_fld (o := 5) rfl (by kernel_rfl) rfl ?_
    refine l_on rfl (gF h1_33) ?_
    refine l_ldo 1 (v := .int .u64 (y.logTerm : Nat)) rfl rfl rfl (by kernel_rfl) rfl ?_
    refine l_on rfl (gF h1_33) ?_
    refine l_ne rfl rfl rfl ?_
    exact l_nil (fun w' hw => ⟨(by repeat (first | exact Out.refl _ _ | refine Out.upd rfl ?_ | refine Out.msk rfl ?_)), rfl, hw⟩)
  refine l_mv rfl ?_
  refine l_bor (q := (((((x.kind ≠ y.kind) ∨ (x.src ≠ y.src)) ∨ (x.dst ≠ y.dst)) ∨ (((x.term : Nat) : Int) ≠ ((y.term : Nat) : Int))) ∨ (((x.index : Nat) : Int) ≠ ((y.index : Nat) : Int))) ∨ (((x.logTerm : Nat) : Int) ≠ ((y.logTerm : Nat) : Int))) 5 40 [50, 49, 48, 47, 46] (((x.commit : Nat) : Int) ≠ ((y.commit : Nat) : Int)) rfl rfl rfl rfl rfl rfl trivial rfl (fun h1_40 => ?_) (fun g1_46 => ?_)
  ·
    refine l_on rfl (gF h1_40) ?_
    refine l_fld (o := 6) rfl (by kernel_rfl) rfl ?_
    refine l_on rfl (gF h1_40) ?_
    refine l_ldo 0 (v := .int .u64 (x.commit : Nat)) rfl rfl rfl (by kernel_rfl) rfl ?_
    refine l_on rfl (gF h1_40) ?_
    refine l_fld (o := 6) rfl (by kernel_rfl) rfl ?_
    refine l_on rfl (gF h1_40) ?_
    refine l_ldo 1 (v := .int .u64 (y.commit : Nat)) rfl rfl rfl (by kernel_rfl) rfl ?_
    refine l_on rfl (gF h1_40) ?_
    refine l_ne rfl rfl rfl ?_
    exact l_nil (fun w' hw => ⟨(by repeat (first | exact Out.refl _ _ | refine Out.upd rfl ?_ | refine Out.msk rfl ?_)), rfl, hw⟩)
  refine l_mv rfl ?_
  refine l_bor (q := ((((((x.kind ≠ y.kind) ∨ (x.src ≠ y.src)) ∨ (x.dst ≠ y.dst)) ∨ (((x.term : Nat) : Int) ≠ ((y.term : Nat) : Int))) ∨ (((x.index : Nat) : Int) ≠ ((y.index : Nat) : Int))) ∨ (((x.logTerm : Nat) : Int) ≠ ((y.logTerm : Nat) : Int))) ∨ (((x.commit : Nat) : Int) ≠ ((y.commit : Nat) : Int))) 5 47 [57, 56, 55, 54, 53] (((x.round : Nat) : Int) ≠ ((y.round : Nat) : Int)) rfl rfl rfl rfl rfl rfl trivial rfl (fun h1_47 => ?_) (fun g1_53 => ?_)
  ·
    refine l_on rfl (gF h1_47) ?_
    refine l_fld (o := 7) rfl (by kernel_rfl) rfl ?_
    refine l_on rfl (gF h1_47) ?_
    refine l_ldo 0 (v := .int .u64 (x.round : Nat)) rfl rfl rfl (by kernel_rfl) rfl ?_
    refine l_on rfl (gF h1_47) ?_
    refine l_fld (o := 7) rfl (by kernel_rfl) rfl ?_
    refine l_on rfl (gF h1_47) ?_
    refine l_ldo 1 (v := .int .u64 (y.round : Nat)) rfl rfl rfl (by kernel_rfl) rfl ?_
    refine l_on rfl (gF h1_47) ?_
    refine l_ne rfl rfl rfl ?_
    exact l_nil (fun w' hw => ⟨(by repeat (first | exact Out.refl _ _ | refine Out.upd rfl ?_ | refine Out.msk rfl ?_)), rfl, hw⟩)
  refine l_mv rfl ?_
  refine l_bor (q := (((((((x.kind ≠ y.kind) ∨ (x.src ≠ y.src)) ∨ (x.dst ≠ y.dst)) ∨ (((x.term : Nat) : Int) ≠ ((y.term : Nat) : Int))) ∨ (((x.index : Nat) : Int) ≠ ((y.index : Nat) : Int))) ∨ (((x.logTerm : Nat) : Int) ≠ ((y.logTerm : Nat) : Int))) ∨ (((x.commit : Nat) : Int) ≠ ((y.commit : Nat) : Int))) ∨ (((x.round : Nat) : Int) ≠ ((y.round : Nat) : Int))) 5 54 [64, 63, 62, 61, 60] (¬ ((x.flag = true) ↔ (y.flag = true))) rfl rfl rfl rfl rfl rfl trivial rfl (fun h1_54 => ?_) (fun g1_60 => ?_)
  ·
    refine l_on rfl (gF h1_54) ?_
    refine l_fld (o := 8) rfl (by kernel_rfl) rfl ?_
    refine l_on rfl (gF h1_54) ?_
    refine l_ldo 0 (v := .bool x.flag) rfl rfl rfl (by kernel_rfl) rfl ?_
    refine l_on rfl (gF h1_54) ?_
    refine l_fld (o := 8) rfl (by kernel_rfl) rfl ?_
    refine l_on rfl (gF h1_54) ?_
    refine l_ldo 1 (v := .bool y.flag) rfl rfl rfl (by kernel_rfl) rfl ?_
    refine l_on rfl (gF h1_54) ?_
    refine l_bnep (by kernel_rfl) (bool_dec _) (bool_dec _) rfl ?_
    exact l_nil (fun w' hw => ⟨(by repeat (first | exact Out.refl _ _ | refine Out.upd rfl ?_ | refine Out.msk rfl ?_)), rfl, hw⟩)
  refine l_mv rfl ?_
  refine l_bor (q := ((((((((x.kind ≠ y.kind) ∨ (x.src ≠ y.src)) ∨ (x.dst ≠ y.dst)) ∨ (((x.term : Nat) : Int) ≠ ((y.term : Nat) : Int))) ∨ (((x.index : Nat) : Int) ≠ ((y.index : Nat) : Int))) ∨ (((x.logTerm : Nat) : Int) ≠ ((y.logTerm : Nat) : Int))) ∨ (((x.commit : Nat) : Int) ≠ ((y.commit : Nat) : Int))) ∨ (((x.round : Nat) : Int) ≠ ((y.round : Nat) : Int))) ∨ (¬ ((x.flag = true) ↔ (y.flag = true)))) 5 61 [71, 70, 69, 68, 67] (x.off ≠ y.off) rfl rfl rfl rfl rfl rfl trivial rfl (fun h1_61 => ?_) (fun g1_67 => ?_)
  ·
    refine l_on rfl (gF h1_61) ?_
    refine l_fld (o := 12) rfl (by kernel_rfl) rfl ?_
    refine l_on rfl (gF h1_61) ?_
    refine l_ldo 0 (v := .int .i64 x.off) rfl rfl rfl (by kernel_rfl) rfl ?_
    refine l_on rfl (gF h1_61) ?_
    refine l_fld (o := 12) rfl (by kernel_rfl) rfl ?_
    refine l_on rfl (gF h1_61) ?_
    refine l_ldo 1 (v := .int .i64 y.off) rfl rfl rfl (by kernel_rfl) rfl ?_
    refine l_on rfl (gF h1_61) ?_
    refine l_ne rfl rfl rfl ?_
    exact l_nil (fun w' hw => ⟨(by repeat (first | exact Out.refl _ _ | refine Out.upd rfl ?_ | refine Out.msk rfl ?_)), rfl, hw⟩)
  refine l_end ?_
  refine c_dec rfl (fun c1 => ?_) (fun c1 => ?_)
  ·
    refine c_reg ?_
    refine l_as rfl ?_
    refine l_end ?_
    exact c_ret (ret1 (v := .bool false) rfl rfl (fun w' hw => ⟨(by rw [decide_eq_false]; intro h; simp only [MsgD.a, MsgA.mk.injEq] at h; obtain ⟨a1, a2, a3, a4, a5, a6, a7, a8, a9, _, _, a12, _⟩ := h; exact absurd c1 (by simp [a1, a2, a3, a4, a5, a6, a7, a8, a9, a12])), hw.drop⟩))
  ·
    refine c_skipC ?_
    refine c_reg ?_
    refine l_fld (o := 9) rfl (by kernel_rfl) rfl ?_
    refine l_ldo 0 (v := x.ev) rfl rfl rfl (by kernel_rfl) rfl ?_
    refine l_fld (o := 9) rfl (by kernel_rfl) rfl ?_
    refine l_ldo 1 (v := y.ev) rfl rfl rfl (by kernel_rfl) rfl ?_
    refine l_call (by kernel_rfl) rfl rfl (fun w' hw => ?_)
    refine (sameEnts_s x.ev x.ents y.ev y.ents w' (by first | assumption | omega | (simp <;> omega) | (constructor <;> (first | omega | (simp only [LenOk]; omega) | (simp <;> omega)))) (by first | assumption | omega | (simp <;> omega) | (constructor <;> (first | omega | (simp only [LenOk]; omega) | (simp <;> omega)))) (fun e he => (hx.each e he).data) (fun e he => (hy.each e he).data) (hw.rd0 rd_x.ev) (fun p hp => EntD.rd.at0 (rd_x.ev_all p hp) hw) (hw.rd0 rd_y.ev) (fun p hp => EntD.rd.at0 (rd_y.ev_all p hp) hw)).mono ?_
    rintro _ w1 ⟨rfl, hO⟩
    refine (?_ : CL _ _ _ _ _ _ (Own w [] [Res.row b2 29 (MsgD.cells x), Res.row b3 29 (MsgD.cells y)])) w1 (hw.frame0 hO)
    refine l_mv rfl ?_
    refine l_band (q := x.ents.map EntD.toEntA = y.ents.map EntD.toEntA) 5 5 [83, 82, 81, 80, 79] (x.conf.vs = y.conf.vs ∧ x.conf.ls = y.conf.ls) rfl rfl rfl rfl rfl rfl trivial rfl (fun h3_5 => ?_) (fun g3_11 => ?_)
    ·
      refine l_on rfl (gT h3_5) ?_
      refine l_fld (o := 10) rfl (by kernel_rfl) rfl ?_
      refine l_on rfl (gT h3_5) ?_
      refine l_ldoN (cs := (MsgD.cells x)) 0 (ConfD.cells x.conf) rfl rfl (sub_at' 10 rfl) (by kernel_rfl) rfl ?_
      refine l_on rfl (gT h3_5) ?_
      refine l_fld (o := 10) rfl (by kernel_rfl) rfl ?_
      refine l_on rfl (gT h3_5) ?_
      refine l_ldoN (cs := (MsgD.cells y)) 1 (ConfD.cells y.conf) rfl rfl (sub_at' 10 rfl) (by kernel_rfl) rfl ?_
      refine l_on rfl (gT h3_5) ?_
      refine l_call (by kernel_rfl) rfl rfl (fun w' hw => ?_)
      refine (sameConf_spec x.conf y.conf w' (by first | assumption | omega | (simp <;> omega) | (constructor <;> (first | omega | (simp only [LenOk]; omega) | (simp <;> omega)))) (by first | assumption | omega | (simp <;> omega) | (constructor <;> (first | omega | (simp only [LenOk]; omega) | (simp <;> omega)))) (by first | assumption | omega | (simp <;> omega) | (constructor <;> (first | omega | (simp only [LenOk]; omega) | (simp <;> omega)))) (by first | assumption | omega | (simp <;> omega) | (constructor <;> (first | omega | (simp only [LenOk]; omega) | (simp <;> omega)))) (rd_x.conf.at0 hw) (rd_y.conf.at0 hw)).mono ?_
      rintro _ w1 ⟨rfl, hO⟩
      refine (?_ : CL _ _ _ _ _ _ (Own w [] [Res.row b2 29 (MsgD.cells x), Res.row b3 29 (MsgD.cells y)])) w1 (hw.frame0 hO)
      exact l_nil (fun w' hw => ⟨(by repeat (first | exact Out.refl _ _ | refine Out.upd rfl ?_ | refine Out.msk rfl ?_)), rfl, hw⟩)
    refine l_mv rfl ?_
    refine l_band (q := (x.ents.map EntD.toEntA = y.ents.map EntD.toEntA) ∧ (x.conf.vs = y.conf.vs ∧ x.conf.ls = y.conf.ls)) 7 12 [92, 91, 90, 89, 88, 87, 86] ((⟨x.data.toArray⟩ : ByteArray) = (⟨y.data.toArray⟩ : ByteArray)) rfl rfl rfl rfl rfl rfl trivial rfl (fun h3_12 => ?_) (fun g3_20 => ?_)
    ·
      refine l_on rfl (gT h3_12) ?_
      refine l_fld (o := 13) rfl (by kernel_rfl) rfl ?_
      refine l_on rfl (gT h3_12) ?_
      refine l_ldo 0 (v := x.dv) rfl rfl rfl (by kernel_rfl) rfl ?_
      refine l_on rfl (gT h3_12) ?_
      refine l_b2s (bs := x.data) (by kernel_rfl) (by kernel_rfl) rfl (fun w' hw' => Own.rd rd_x.dv hw') rfl ?_
      refine l_on rfl (gT h3_12) ?_
      refine l_fld (o := 13) rfl (by kernel_rfl) rfl ?_
      refine l_on rfl (gT h3_12) ?_
      refine l_ldo 1 (v := y.dv) rfl rfl rfl (by kernel_rfl) rfl ?_
      refine l_on rfl (gT h3_12) ?_
      refine l_b2s (bs := y.data) (by kernel_rfl) (by kernel_rfl) rfl (fun w' hw' => Own.rd rd_y.dv hw') rfl ?_
      refine l_on rfl (gT h3_12) ?_
      refine l_seq rfl rfl rfl ?_
      exact l_nil (fun w' hw => ⟨(by repeat (first | exact Out.refl _ _ | refine Out.upd rfl ?_ | refine Out.msk rfl ?_)), rfl, hw⟩)
    refine l_as rfl ?_
    refine l_end ?_
    exact c_ret (ret1 (v := .bool (decide (((x.ents.map EntD.toEntA = y.ents.map EntD.toEntA) ∧ (x.conf.vs = y.conf.vs ∧ x.conf.ls = y.conf.ls)) ∧ ((⟨x.data.toArray⟩ : ByteArray) = (⟨y.data.toArray⟩ : ByteArray))))) rfl rfl (fun w' hw => ⟨(by congr 1; exact decide_eq_decide.2 (by rw [str_eq]; simp only [not_or, Decidable.not_not, ne_eq, Int.ofNat_inj, ← Bool.eq_iff_iff] at c1; simp [MsgD.a, ConfD.a, and_assoc, c1])), hw.drop⟩))
end Go.Proofs.YtlkoekhjegaimaaGreat
