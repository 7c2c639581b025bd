/-
  COMMANDS, REPLIES, WHAT EDGES ASK AND ARE TOLD, OF BYTES: the program's and the reference's.
-/
import Derived.Test.YtlkoekhjegaimaaGreatCmdN
import Derived.Test.YtlkoekhjegaimaaGreatFwN
set_option linter.unusedVariables false
set_option maxRecDepth 10000
namespace Go.Proofs.YtlkoekhjegaimaaGreat
open Go Go.Sc Go.Proofs

theorem CmdDEq (r s : CmdD) : eqL [(0, some (some .u64)), (1, some (some .u64)), (2, some (some .i64)), (3, some none), (4, some (some .i64)), (5, some (some .i64)), (6, some (some .u64))] r.cells s.cells = decide (r = s) := by
  obtain ⟨a, b, c, d, e, f, g⟩ := r
  obtain ⟨a', b', c', d', e', f', g'⟩ := s
  simp [eqL, CmdD.cells, eqC, CmdD.mk.injEq, Bool.decide_and]
  have h : ∀ m n : Nat, decide ((m : Int) = n) = decide (m = n) := fun m n => decide_eq_decide.2 (by omega)
  simp only [h]
theorem RepDEq (r s : RepD) : eqL [(0, some (some .u64)), (1, some (some .u64)), (2, some (some .i64)), (3, some (some .u64)), (4, some (some .i64)), (5, some (some .i64))] r.cells s.cells = decide (r = s) := by
  obtain ⟨a, b, c, d, e, f⟩ := r
  obtain ⟨a', b', c', d', e', f'⟩ := s
  simp [eqL, RepD.cells, eqC, RepD.mk.injEq, Bool.decide_and]
  have h : ∀ m n : Nat, decide ((m : Int) = n) = decide (m = n) := fun m n => decide_eq_decide.2 (by omega)
  simp only [h]
def strOf (l : List UInt8) : ByteArray := ⟨l.toArray⟩
theorem strOf_size (l : List UInt8) : (strOf l).size = l.length := rfl
def pCmd : List UInt8 → Nat → Option (CmdD × Nat) := pBind pNum fun s => pBind pNum fun q => pBind (pInt 5) fun o => pBind pBytes fun k => pBind pNum fun a => pBind pNum fun p => pBind pNum fun l => pPure ⟨s, q, o, strOf k, toI a, toI p, l⟩
def pRpl : List UInt8 → Nat → Option (RepD × Nat) := pBind pNum fun s => pBind pNum fun q => pBind (pInt 20) fun e => pBind pNum fun l => pBind pNum fun a => pBind pNum fun u => pPure ⟨s, q, e, l, toI a, toI u⟩
structure AskD where
  look : Bool
  lazy : Bool
  seq : Nat
  cmd : CmdD
  key : ByteArray
  deriving DecidableEq
structure TldD where
  seq : Nat
  retry : Bool
  lead : Int
  reply : RepD
  most : Int
  lent : Int
  deriving DecidableEq
def cmdZ : CmdD := ⟨0, 0, 0, ⟨#[]⟩, 0, 0, 0⟩
def repZ : RepD := ⟨0, 0, 0, 0, 0, 0⟩
def askZ : AskD := ⟨false, false, 0, cmdZ, ⟨#[]⟩⟩
def tldZ : TldD := ⟨0, false, 0, repZ, 0, 0⟩
def AskD.cells (x : AskD) : List Value := [.bool x.look, .bool x.lazy, .int .u64 x.seq] ++ (x.cmd.cells ++ [.string x.key])
def TldD.cells (x : TldD) : List Value := [.int .u64 x.seq, .bool x.retry, .int .i64 x.lead] ++ (x.reply.cells ++ [.int .i64 x.most, .int .i64 x.lent])
def AskD.ok (x : AskD) : Prop := if x.look = true then x.cmd = cmdZ ∧ x.key.size ≤ 64 else (x.cmd.ok ∧ x.key = ⟨#[]⟩) ∧ x.lazy = false
instance (x : AskD) : Decidable x.ok := by unfold AskD.ok; infer_instance
def TldD.ok (x : TldD) : Prop := (0 ≤ x.lead ∧ x.lead ≤ 16) ∧ x.reply.ok
instance (x : TldD) : Decidable x.ok := inferInstanceAs (Decidable ((_ ∧ _) ∧ _))
def pAsk : List UInt8 → Nat → Option (AskD × Nat) := pBind pFlag fun l => pBind pFlag fun z => pBind pNum fun q => pBind pCmd fun c => pBind pBytes fun k => pPure ⟨l, z, q, c, strOf k⟩
def pTld : List UInt8 → Nat → Option (TldD × Nat) := pBind pNum fun q => pBind pFlag fun r => pBind (pInt 16) fun d => pBind pRpl fun p => pBind pNum fun c => pBind pNum fun l => pPure ⟨q, r, d, p, toI c, toI l⟩
instance : DecidablePred CmdD.ok := fun x => inferInstance
instance : DecidablePred RepD.ok := fun x => inferInstance
instance : DecidablePred AskD.ok := fun x => inferInstance
instance : DecidablePred TldD.ok := fun x => inferInstance
def decCmd (b : List UInt8) : Option CmdD := whole pCmd CmdD.ok b
def decRpl (b : List UInt8) : Option RepD := whole pRpl RepD.ok b
def decAsk (b : List UInt8) : Option AskD := whole pAsk AskD.ok b
def decTld (b : List UInt8) : Option TldD := whole pTld TldD.ok b
theorem AskDEq (r s : AskD) : eqL [[(0, none)], [(1, none)], [(2, some (some .u64))], [(3, some (some .u64)), (4, some (some .u64)), (5, some (some .i64)), (6, some none), (7, some (some .i64)), (8, some (some .i64)), (9, some (some .u64))], [(10, some none)]].flatten r.cells s.cells = decide (r = s) := by
  obtain ⟨l, z, q, ⟨a, b, c, d, e, f, g⟩, k⟩ := r
  obtain ⟨l', z', q', ⟨a', b', c', d', e', f', g'⟩, k'⟩ := s
  simp [eqL, AskD.cells, CmdD.cells, eqC, CmdD.mk.injEq, AskD.mk.injEq, Bool.decide_and, Bool.and_assoc]
  have h : ∀ m n : Nat, decide ((m : Int) = n) = decide (m = n) := fun m n => decide_eq_decide.2 (by omega)
  simp only [h]
theorem TldDEq (r s : TldD) : eqL [[(0, some (some .u64))], [(1, none)], [(2, some (some .i64))], [(3, some (some .u64)), (4, some (some .u64)), (5, some (some .i64)), (6, some (some .u64)), (7, some (some .i64)), (8, some (some .i64))], [(9, some (some .i64))], [(10, some (some .i64))]].flatten r.cells s.cells = decide (r = s) := by
  obtain ⟨l, z, q, ⟨a, b, c, d, e, f⟩, k, m⟩ := r
  obtain ⟨l', z', q', ⟨a', b', c', d', e', f'⟩, k', m'⟩ := s
  simp [eqL, TldD.cells, RepD.cells, eqC, RepD.mk.injEq, TldD.mk.injEq, Bool.decide_and, Bool.and_assoc]
  have h : ∀ m n : Nat, decide ((m : Int) = n) = decide (m = n) := fun m n => decide_eq_decide.2 (by omega)
  simp only [h]
theorem RdS.flag {b : List UInt8} {a a1 n : Nat} {bad bad1 : Bool} (h : RdS (pUpto 1) b a bad n a1 bad1) : RdS pFlag b a bad (decide ((n : Int) = 1)) a1 bad1 := by
  have e : (n == 1) = decide ((n : Int) = 1) := by rw [Bool.eq_iff_iff]; simp; omega
  have := RdS.map (fun n : Nat => n == 1) h
  rw [e] at this
  exact this
theorem cmdRead_s (o : Nat) (v : Value) (b : List UInt8) (a : Nat) (bad : Bool) (w : World) (hl : LenOk b.length) (ha : a ≤ b.length) (hb : Rd w (fps [Res.row o 133 [v, .int .i64 (a : Nat), .bool bad]]) (Res.sl v b.length (b.map vb))) (hin : Own w (fps [Res.row o 133 [v, .int .i64 (a : Nat), .bool bad]]) [Res.row o 133 [v, .int .i64 (a : Nat), .bool bad]] w) : Rets Tryz.prog 66 #[.pointer (some ⟨o, 0, none⟩)] w fun u_ w' => ∃ (s : Nat) (q : Nat) (op : Nat) (k : ByteArray) (am : Int) (sp : Int) (le : Nat) (a' : Nat) (bad' : Bool), u_ = .agg #[.int .u64 (s : Nat), .int .u64 (q : Nat), .int .i64 (op : Nat), .string k, .int .i64 am, .int .i64 sp, .int .u64 (le : Nat)] ∧ RdS pCmd b a bad (⟨s, q, (op : Int), k, am, sp, le⟩ : CmdD) a' bad' ∧ k.size ≤ b.length ∧ Own w (fps [Res.row o 133 [v, .int .i64 (a : Nat), .bool bad]]) [Res.row o 133 [v, .int .i64 (a' : Nat), .bool bad']] w' := by
  refine fn_enter (args := [.pointer (some ⟨o, 0, none⟩)]) Tryz.func66 rfl Tryz.ntmps66 rfl (show Own w (fps [Res.row o 133 [v, .int .i64 (a : Nat), .bool bad]]) [Res.row o 133 [v, .int .i64 (a : Nat), .bool bad]] w from hin) ?_
  refine c_reg ?_
  refine l_new (v := .agg #[.int .u64 (0 : Nat), .int .u64 (0 : Nat), .int .i64 0, .string (⟨#[]⟩ : ByteArray), .int .i64 0, .int .i64 0, .int .u64 (0 : Nat)]) (by kernel_rfl) rfl (fun b2 => ?_)
  refine l_end ?_
  refine c_seq ?_
  refine c_heldo [] rfl (by decide) (by kernel_rfl) (fun w' hw hS => ?_)
  refine h_take 0 rfl (by kernel_rfl) (by kernel_rfl) (by kernel_rfl) (v_mv) rfl hS ?_
  refine h_take 2 rfl (by kernel_rfl) (by kernel_rfl) (by kernel_rfl) (v_mv) rfl hS ?_
  refine h_take 4 rfl (by kernel_rfl) (by kernel_rfl) (by kernel_rfl) (v_mv) rfl hS ?_
  refine h_take 6 rfl (by kernel_rfl) (by kernel_rfl) (by kernel_rfl) (v_mv) rfl hS ?_
  refine h_take 9 rfl (by kernel_rfl) (by kernel_rfl) (by kernel_rfl) (v_mv) rfl hS ?_
  refine h_take 12 rfl (by kernel_rfl) (by kernel_rfl) (by kernel_rfl) (v_mv) rfl hS ?_
  refine h_take 15 rfl (by kernel_rfl) (by kernel_rfl) (by kernel_rfl) (v_mv) rfl hS ?_
  refine h_one 1 (by kernel_rfl) rfl hw ?_
  refine l_call (by kernel_rfl) rfl rfl (fun w' hw => ?_)
  refine (inNum_s o v b a bad w' (by first | assumption | omega | (simp <;> omega) | (constructor <;> (first | omega | (simp only [LenOk]; omega) | (simp <;> omega)))) (by first | assumption | omega | (simp <;> omega) | (constructor <;> (first | omega | (simp only [LenOk]; omega) | (simp <;> omega)))) (hw.rdTo hb [0] rfl) (hw.give [0] rfl (by decide))).mono ?_
  rintro _ w1 ⟨n1_, a'2_, bad'3_, rfl, hf1_1, hf1_1_1, hO⟩
  have hq1 := hf1_1.le
  refine (?_ : CL _ _ _ _ _ _ (Own w (fps [Res.row o 133 [v, .int .i64 (a : Nat), .bool bad]]) [Res.row b2 36 [.int .u64 (0 : Nat), .int .u64 (0 : Nat), .int .i64 0, .string (⟨#[]⟩ : ByteArray), .int .i64 0, .int .i64 0, .int .u64 (0 : Nat)], Res.row o 133 [v, .int .i64 (a'2_ : Nat), .bool bad'3_]])) w1 (hw.frameL [0] rfl hO)
  refine l_nil (fun w' hw => ?_)
  have hS := hw.sel [] rfl (by decide)
  refine ⟨hS, ?_⟩
  refine h_one 3 (by kernel_rfl) rfl hw ?_
  refine l_call (by kernel_rfl) rfl rfl (fun w' hw => ?_)
  refine (inNum_s o v b a'2_ bad'3_ w' (by first | assumption | omega | (simp <;> omega) | (constructor <;> (first | omega | (simp only [LenOk]; omega) | (simp <;> omega)))) (by first | assumption | omega | (simp <;> omega) | (constructor <;> (first | omega | (simp only [LenOk]; omega) | (simp <;> omega)))) (hw.rdTo hb [1] rfl) (hw.give [1] rfl (by decide))).mono ?_
  rintro _ w1 ⟨n4_, a'5_, bad'6_, rfl, hf1_3, hf1_3_1, hO⟩
  have hq2 := hf1_3.le
  refine (?_ : CL _ _ _ _ _ _ (Own w (fps [Res.row o 133 [v, .int .i64 (a : Nat), .bool bad]]) [Res.row b2 36 [.int .u64 (0 : Nat), .int .u64 (0 : Nat), .int .i64 0, .string (⟨#[]⟩ : ByteArray), .int .i64 0, .int .i64 0, .int .u64 (0 : Nat)], Res.row o 133 [v, .int .i64 (a'5_ : Nat), .bool bad'6_]])) w1 (hw.frameL [1] rfl hO)
  refine l_nil (fun w' hw => ?_)
  have hS := hw.sel [] rfl (by decide)
  refine ⟨hS, ?_⟩
  refine h_one 5 (by kernel_rfl) rfl hw ?_
  refine l_call (by kernel_rfl) rfl rfl (fun w' hw => ?_)
  refine (inUpto_s o v b a'5_ bad'6_ 5 w' (by first | assumption | omega | (simp <;> omega) | (constructor <;> (first | omega | (simp only [LenOk]; omega) | (simp <;> omega)))) (by first | assumption | omega | (simp <;> omega) | (constructor <;> (first | omega | (simp only [LenOk]; omega) | (simp <;> omega)))) (by first | assumption | omega | (simp <;> omega) | (constructor <;> (first | omega | (simp only [LenOk]; omega) | (simp <;> omega)))) (hw.rdTo hb [1] rfl) (hw.give [1] rfl (by decide))).mono ?_
  rintro _ w1 ⟨n7_, a'8_, bad'9_, rfl, hf1_5, hf1_5_1, hO⟩
  have hq3 := hf1_5.le
  refine (?_ : CL _ _ _ _ _ _ (Own w (fps [Res.row o 133 [v, .int .i64 (a : Nat), .bool bad]]) [Res.row b2 36 [.int .u64 (0 : Nat), .int .u64 (0 : Nat), .int .i64 0, .string (⟨#[]⟩ : ByteArray), .int .i64 0, .int .i64 0, .int .u64 (0 : Nat)], Res.row o 133 [v, .int .i64 (a'8_ : Nat), .bool bad'9_]])) w1 (hw.frameL [1] rfl hO)
  refine l_nil (fun w' hw => ?_)
  have hS := hw.sel [] rfl (by decide)
  refine ⟨hS, ?_⟩
  refine h_one 7 (by kernel_rfl) rfl hw ?_
  refine l_call (by kernel_rfl) rfl rfl (fun w' hw => ?_)
  refine (inData_s o v b a'8_ bad'9_ w' (by first | assumption | omega | (simp <;> omega) | (constructor <;> (first | omega | (simp only [LenOk]; omega) | (simp <;> omega)))) (by first | assumption | omega | (simp <;> omega) | (constructor <;> (first | omega | (simp only [LenOk]; omega) | (simp <;> omega)))) (hw.rdTo hb [1] rfl) (hw.give [1] rfl (by decide))).mono ?_
  rintro r10_ w1 ⟨_, d11_, a'12_, bad'13_, rfl, hf1_7, hf1_7_1, hO⟩
  have hq4 := hf1_7.le
  refine (?_ : CL _ _ _ _ _ _ (Own w (fps [Res.row o 133 [v, .int .i64 (a : Nat), .bool bad]]) [Res.row b2 36 [.int .u64 (0 : Nat), .int .u64 (0 : Nat), .int .i64 0, .string (⟨#[]⟩ : ByteArray), .int .i64 0, .int .i64 0, .int .u64 (0 : Nat)], Res.row o 133 [v, .int .i64 (a'12_ : Nat), .bool bad'13_], Res.vec 5 1 r10_ d11_.length (d11_.map vb)])) w1 (hw.frameL [1] rfl hO)
  refine l_nil (fun w' hw => ?_)
  have hS := hw.sel [] rfl (by decide)
  refine ⟨hS, ?_⟩
  refine h_pick2 (i := 8) (j := 10) (by kernel_rfl) ?_ ?_
  ·
    refine pk_of 8 rfl hw ?_
    refine l_b2s (bs := d11_) (by kernel_rfl) (by kernel_rfl) rfl (fun w' hw' => Vec.sl (Own.holds hw' 2 _ rfl)) rfl ?_
    refine l_nil (fun w' hw => ?_)
    have hS := hw.sel [] rfl (by decide)
    refine ⟨hS, ?_⟩
    refine h_one 10 (by kernel_rfl) rfl hw ?_
    refine l_call (by kernel_rfl) rfl rfl (fun w' hw => ?_)
    refine (inNum_s o v b a'12_ bad'13_ w' (by first | assumption | omega | (simp <;> omega) | (constructor <;> (first | omega | (simp only [LenOk]; omega) | (simp <;> omega)))) (by first | assumption | omega | (simp <;> omega) | (constructor <;> (first | omega | (simp only [LenOk]; omega) | (simp <;> omega)))) (hw.rdTo hb [1] rfl) (hw.give [1] rfl (by decide))).mono ?_
    rintro _ w1 ⟨n14_, a'15_, bad'16_, rfl, hf1_10, hf1_10_1, hO⟩
    have hq5 := hf1_10.le
    refine (?_ : CL _ _ _ _ _ _ (Own w (fps [Res.row o 133 [v, .int .i64 (a : Nat), .bool bad]]) [Res.row b2 36 [.int .u64 (0 : Nat), .int .u64 (0 : Nat), .int .i64 0, .string (⟨#[]⟩ : ByteArray), .int .i64 0, .int .i64 0, .int .u64 (0 : Nat)], Res.vec 5 1 r10_ d11_.length (d11_.map vb), Res.row o 133 [v, .int .i64 (a'15_ : Nat), .bool bad'16_]])) w1 (hw.frameL [1] rfl hO)
    refine l_nil (fun w' hw => ?_)
    have hS := hw.sel [] rfl (by decide)
    refine ⟨hS, ?_⟩
    refine h_take 11 rfl (by kernel_rfl) (by kernel_rfl) (by kernel_rfl) (v_cvt (c := toI n14_) (by kernel_rfl) rfl (wrap_toI hf1_10_1) (by kernel_rfl)) rfl hS ?_
    refine h_one 13 (by kernel_rfl) rfl hw ?_
    refine l_call (by kernel_rfl) rfl rfl (fun w' hw => ?_)
    refine (inNum_s o v b a'15_ bad'16_ w' (by first | assumption | omega | (simp <;> omega) | (constructor <;> (first | omega | (simp only [LenOk]; omega) | (simp <;> omega)))) (by first | assumption | omega | (simp <;> omega) | (constructor <;> (first | omega | (simp only [LenOk]; omega) | (simp <;> omega)))) (hw.rdTo hb [2] rfl) (hw.give [2] rfl (by decide))).mono ?_
    rintro _ w1 ⟨n17_, a'18_, bad'19_, rfl, hf1_13, hf1_13_1, hO⟩
    have hq6 := hf1_13.le
    refine (?_ : CL _ _ _ _ _ _ (Own w (fps [Res.row o 133 [v, .int .i64 (a : Nat), .bool bad]]) [Res.row b2 36 [.int .u64 (0 : Nat), .int .u64 (0 : Nat), .int .i64 0, .string (⟨#[]⟩ : ByteArray), .int .i64 0, .int .i64 0, .int .u64 (0 : Nat)], Res.vec 5 1 r10_ d11_.length (d11_.map vb), Res.row o 133 [v, .int .i64 (a'18_ : Nat), .bool bad'19_]])) w1 (hw.frameL [2] rfl hO)
    refine l_nil (fun w' hw => ?_)
    have hS := hw.sel [] rfl (by decide)
    refine ⟨hS, ?_⟩
    refine h_take 14 rfl (by kernel_rfl) (by kernel_rfl) (by kernel_rfl) (v_cvt (c := toI n17_) (by kernel_rfl) rfl (wrap_toI hf1_13_1) (by kernel_rfl)) rfl hS ?_
    refine h_one 16 (by kernel_rfl) rfl hw ?_
    refine l_call (by kernel_rfl) rfl rfl (fun w' hw => ?_)
    refine (inNum_s o v b a'18_ bad'19_ w' (by first | assumption | omega | (simp <;> omega) | (constructor <;> (first | omega | (simp only [LenOk]; omega) | (simp <;> omega)))) (by first | assumption | omega | (simp <;> omega) | (constructor <;> (first | omega | (simp only [LenOk]; omega) | (simp <;> omega)))) (hw.rdTo hb [2] rfl) (hw.give [2] rfl (by decide))).mono ?_
    rintro _ w1 ⟨n20_, a'21_, bad'22_, rfl, hf1_16, hf1_16_1, hO⟩
    refine (?_ : CL _ _ _ _ _ _ (Own w (fps [Res.row o 133 [v, .int .i64 (a : Nat), .bool bad]]) [Res.row b2 36 [.int .u64 (0 : Nat), .int .u64 (0 : Nat), .int .i64 0, .string (⟨#[]⟩ : ByteArray), .int .i64 0, .int .i64 0, .int .u64 (0 : Nat)], Res.vec 5 1 r10_ d11_.length (d11_.map vb), Res.row o 133 [v, .int .i64 (a'21_ : Nat), .bool bad'22_]])) w1 (hw.frameL [2] rfl hO)
    refine l_nil (fun w' hw => ?_)
    have hS := hw.sel [] rfl (by decide)
    refine ⟨hS, ?_⟩
    refine h_take 17 rfl (by kernel_rfl) (by kernel_rfl) (by kernel_rfl) (v_bld (cs := [.int .u64 (n1_ : Nat), .int .u64 (n4_ : Nat), .int .i64 (n7_ : Nat), .string (⟨d11_.toArray⟩ : ByteArray), .int .i64 (toI n14_), .int .i64 (toI n17_), .int .u64 (n20_ : Nat)]) (z := [.int .u64 (0 : Nat), .int .u64 (0 : Nat), .int .i64 0, .string (⟨#[]⟩ : ByteArray), .int .i64 0, .int .i64 0, .int .u64 (0 : Nat)]) (pl := [(0, 1), (1, 1), (2, 1), (3, 1), (4, 1), (5, 1), (6, 1)]) (by kernel_rfl) (by kernel_rfl)) rfl hS ?_
    refine h_one 18 (by kernel_rfl) rfl hw ?_
    refine l_stN (cs := [.int .u64 (0 : Nat), .int .u64 (0 : Nat), .int .i64 0, .string (⟨#[]⟩ : ByteArray), .int .i64 0, .int .i64 0, .int .u64 (0 : Nat)]) (vs := [.int .u64 (n1_ : Nat), .int .u64 (n4_ : Nat), .int .i64 (n7_ : Nat), .string (⟨d11_.toArray⟩ : ByteArray), .int .i64 (toI n14_), .int .i64 (toI n17_), .int .u64 (n20_ : Nat)]) 0 rfl rfl rfl (by kernel_rfl) (allc_cons rfl (allc_cons rfl (allc_cons rfl (allc_cons rfl (allc_cons rfl (allc_cons rfl (allc_cons rfl allc_nil))))))) (Nat.le_of_ble_eq_true rfl) ?_
    refine l_nil (fun w' hw => ?_)
    have hS := hw.sel [] rfl (by decide)
    refine ⟨hS, ?_⟩
    refine h_done (by kernel_rfl) ?_
    refine (?_ : C _ _ _ _ _ _ _ (Own w (fps [Res.row o 133 [v, .int .i64 (a : Nat), .bool bad]]) [Res.row b2 36 [.int .u64 (n1_ : Nat), .int .u64 (n4_ : Nat), .int .i64 (n7_ : Nat), .string (⟨d11_.toArray⟩ : ByteArray), .int .i64 (toI n14_), .int .i64 (toI n17_), .int .u64 (n20_ : Nat)], Res.vec 5 1 r10_ d11_.length (d11_.map vb), Res.row o 133 [v, .int .i64 (a'21_ : Nat), .bool bad'22_]])) _ hw
    exact c_ret (retc (cs := [.int .u64 (n1_ : Nat), .int .u64 (n4_ : Nat), .int .i64 (n7_ : Nat), .string (⟨d11_.toArray⟩ : ByteArray), .int .i64 (toI n14_), .int .i64 (toI n17_), .int .u64 (n20_ : Nat)]) rfl rfl (by kernel_rfl) (Own.rowCells (i := 0) rfl) (fun w' hw => ⟨n1_, n4_, n7_, (⟨d11_.toArray⟩ : ByteArray), toI n14_, toI n17_, n20_, a'21_, bad'22_, rfl, hf1_1.bind (hf1_3.bind (RdS.bind hf1_5.int (hf1_7.bind (hf1_10.bind (hf1_13.bind (hf1_16.bind (RdS.pure _ hf1_16.le))))))), hf1_7_1, hw.sel [2] rfl (by decide)⟩))
  ·
    refine pk_of 10 rfl hw ?_
    refine l_call (by kernel_rfl) rfl rfl (fun w' hw => ?_)
    refine (inNum_s o v b a'12_ bad'13_ w' (by first | assumption | omega | (simp <;> omega) | (constructor <;> (first | omega | (simp only [LenOk]; omega) | (simp <;> omega)))) (by first | assumption | omega | (simp <;> omega) | (constructor <;> (first | omega | (simp only [LenOk]; omega) | (simp <;> omega)))) (hw.rdTo hb [1] rfl) (hw.give [1] rfl (by decide))).mono ?_
    rintro _ w1 ⟨n23_, a'24_, bad'25_, rfl, hf1_10, hf1_10_1, hO⟩
    have hq5 := hf1_10.le
    refine (?_ : CL _ _ _ _ _ _ (Own w (fps [Res.row o 133 [v, .int .i64 (a : Nat), .bool bad]]) [Res.row b2 36 [.int .u64 (0 : Nat), .int .u64 (0 : Nat), .int .i64 0, .string (⟨#[]⟩ : ByteArray), .int .i64 0, .int .i64 0, .int .u64 (0 : Nat)], Res.vec 5 1 r10_ d11_.length (d11_.map vb), Res.row o 133 [v, .int .i64 (a'24_ : Nat), .bool bad'25_]])) w1 (hw.frameL [1] rfl hO)
    refine l_nil (fun w' hw => ?_)
    have hS := hw.sel [] rfl (by decide)
    refine ⟨hS, ?_⟩
    refine h_take 11 rfl (by kernel_rfl) (by kernel_rfl) (by kernel_rfl) (v_cvt (c := toI n23_) (by kernel_rfl) rfl (wrap_toI hf1_10_1) (by kernel_rfl)) rfl hS ?_
    refine h_pick2 (i := 8) (j := 13) (by kernel_rfl) ?_ ?_
    ·
      refine pk_of 8 rfl hw ?_
      refine l_b2s (bs := d11_) (by kernel_rfl) (by kernel_rfl) rfl (fun w' hw' => Vec.sl (Own.holds hw' 1 _ rfl)) rfl ?_
      refine l_nil (fun w' hw => ?_)
      have hS := hw.sel [] rfl (by decide)
      refine ⟨hS, ?_⟩
      refine h_one 13 (by kernel_rfl) rfl hw ?_
      refine l_call (by kernel_rfl) rfl rfl (fun w' hw => ?_)
      refine (inNum_s o v b a'24_ bad'25_ w' (by first | assumption | omega | (simp <;> omega) | (constructor <;> (first | omega | (simp only [LenOk]; omega) | (simp <;> omega)))) (by first | assumption | omega | (simp <;> omega) | (constructor <;> (first | omega | (simp only [LenOk]; omega) | (simp <;> omega)))) (hw.rdTo hb [2] rfl) (hw.give [2] rfl (by decide))).mono ?_
      rintro _ w1 ⟨n26_, a'27_, bad'28_, rfl, hf1_13, hf1_13_1, hO⟩
      have hq6 := hf1_13.le
      refine (?_ : CL _ _ _ _ _ _ (Own w (fps [Res.row o 133 [v, .int .i64 (a : Nat), .bool bad]]) [Res.row b2 36 [.int .u64 (0 : Nat), .int .u64 (0 : Nat), .int .i64 0, .string (⟨#[]⟩ : ByteArray), .int .i64 0, .int .i64 0, .int .u64 (0 : Nat)], Res.vec 5 1 r10_ d11_.length (d11_.map vb), Res.row o 133 [v, .int .i64 (a'27_ : Nat), .bool bad'28_]])) w1 (hw.frameL [2] rfl hO)
      refine l_nil (fun w' hw => ?_)
      have hS := hw.sel [] rfl (by decide)
      refine ⟨hS, ?_⟩
      refine h_take 14 rfl (by kernel_rfl) (by kernel_rfl) (by kernel_rfl) (v_cvt (c := toI n26_) (by kernel_rfl) rfl (wrap_toI hf1_13_1) (by kernel_rfl)) rfl hS ?_
      refine h_one 16 (by kernel_rfl) rfl hw ?_
      refine l_call (by kernel_rfl) rfl rfl (fun w' hw => ?_)
      refine (inNum_s o v b a'27_ bad'28_ w' (by first | assumption | omega | (simp <;> omega) | (constructor <;> (first | omega | (simp only [LenOk]; omega) | (simp <;> omega)))) (by first | assumption | omega | (simp <;> omega) | (constructor <;> (first | omega | (simp only [LenOk]; omega) | (simp <;> omega)))) (hw.rdTo hb [2] rfl) (hw.give [2] rfl (by decide))).mono ?_
      rintro _ w1 ⟨n29_, a'30_, bad'31_, rfl, hf1_16, hf1_16_1, hO⟩
      refine (?_ : CL _ _ _ _ _ _ (Own w (fps [Res.row o 133 [v, .int .i64 (a : Nat), .bool bad]]) [Res.row b2 36 [.int .u64 (0 : Nat), .int .u64 (0 : Nat), .int .i64 0, .string (⟨#[]⟩ : ByteArray), .int .i64 0, .int .i64 0, .int .u64 (0 : Nat)], Res.vec 5 1 r10_ d11_.length (d11_.map vb), Res.row o 133 [v, .int .i64 (a'30_ : Nat), .bool bad'31_]])) w1 (hw.frameL [2] rfl hO)
      refine l_nil (fun w' hw => ?_)
      have hS := hw.sel [] rfl (by decide)
      refine ⟨hS, ?_⟩
      refine h_take 17 rfl (by kernel_rfl) (by kernel_rfl) (by kernel_rfl) (v_bld (cs := [.int .u64 (n1_ : Nat), .int .u64 (n4_ : Nat), .int .i64 (n7_ : Nat), .string (⟨d11_.toArray⟩ : ByteArray), .int .i64 (toI n23_), .int .i64 (toI n26_), .int .u64 (n29_ : Nat)]) (z := [.int .u64 (0 : Nat), .int .u64 (0 : Nat), .int .i64 0, .string (⟨#[]⟩ : ByteArray), .int .i64 0, .int .i64 0, .int .u64 (0 : Nat)]) (pl := [(0, 1), (1, 1), (2, 1), (3, 1), (4, 1), (5, 1), (6, 1)]) (by kernel_rfl) (by kernel_rfl)) rfl hS ?_
      refine h_one 18 (by kernel_rfl) rfl hw ?_
      refine l_stN (cs := [.int .u64 (0 : Nat), .int .u64 (0 : Nat), .int .i64 0, .string (⟨#[]⟩ : ByteArray), .int .i64 0, .int .i64 0, .int .u64 (0 : Nat)]) (vs := [.int .u64 (n1_ : Nat), .int .u64 (n4_ : Nat), .int .i64 (n7_ : Nat), .string (⟨d11_.toArray⟩ : ByteArray), .int .i64 (toI n23_), .int .i64 (toI n26_), .int .u64 (n29_ : Nat)]) 0 rfl rfl rfl (by kernel_rfl) (allc_cons rfl (allc_cons rfl (allc_cons rfl (allc_cons rfl (allc_cons rfl (allc_cons rfl (allc_cons rfl allc_nil))))))) (Nat.le_of_ble_eq_true rfl) ?_
      refine l_nil (fun w' hw => ?_)
      have hS := hw.sel [] rfl (by decide)
      refine ⟨hS, ?_⟩
      refine h_done (by kernel_rfl) ?_
      refine (?_ : C _ _ _ _ _ _ _ (Own w (fps [Res.row o 133 [v, .int .i64 (a : Nat), .bool bad]]) [Res.row b2 36 [.int .u64 (n1_ : Nat), .int .u64 (n4_ : Nat), .int .i64 (n7_ : Nat), .string (⟨d11_.toArray⟩ : ByteArray), .int .i64 (toI n23_), .int .i64 (toI n26_), .int .u64 (n29_ : Nat)], Res.vec 5 1 r10_ d11_.length (d11_.map vb), Res.row o 133 [v, .int .i64 (a'30_ : Nat), .bool bad'31_]])) _ hw
      exact c_ret (retc (cs := [.int .u64 (n1_ : Nat), .int .u64 (n4_ : Nat), .int .i64 (n7_ : Nat), .string (⟨d11_.toArray⟩ : ByteArray), .int .i64 (toI n23_), .int .i64 (toI n26_), .int .u64 (n29_ : Nat)]) rfl rfl (by kernel_rfl) (Own.rowCells (i := 0) rfl) (fun w' hw => ⟨n1_, n4_, n7_, (⟨d11_.toArray⟩ : ByteArray), toI n23_, toI n26_, n29_, a'30_, bad'31_, rfl, hf1_1.bind (hf1_3.bind (RdS.bind hf1_5.int (hf1_7.bind (hf1_10.bind (hf1_13.bind (hf1_16.bind (RdS.pure _ hf1_16.le))))))), hf1_7_1, hw.sel [2] rfl (by decide)⟩))
    ·
      refine pk_of 13 rfl hw ?_
      refine l_call (by kernel_rfl) rfl rfl (fun w' hw => ?_)
      refine (inNum_s o v b a'24_ bad'25_ w' (by first | assumption | omega | (simp <;> omega) | (constructor <;> (first | omega | (simp only [LenOk]; omega) | (simp <;> omega)))) (by first | assumption | omega | (simp <;> omega) | (constructor <;> (first | omega | (simp only [LenOk]; omega) | (simp <;> omega)))) (hw.rdTo hb [2] rfl) (hw.give [2] rfl (by decide))).mono ?_
      rintro _ w1 ⟨n32_, a'33_, bad'34_, rfl, hf1_13, hf1_13_1, hO⟩
      have hq6 := hf1_13.le
      refine (?_ : CL _ _ _ _ _ _ (Own w (fps [Res.row o 133 [v, .int .i64 (a : Nat), .bool bad]]) [Res.row b2 36 [.int .u64 (0 : Nat), .int .u64 (0 : Nat), .int .i64 0, .string (⟨#[]⟩ : ByteArray), .int .i64 0, .int .i64 0, .int .u64 (0 : Nat)], Res.vec 5 1 r10_ d11_.length (d11_.map vb), Res.row o 133 [v, .int .i64 (a'33_ : Nat), .bool bad'34_]])) w1 (hw.frameL [2] rfl hO)
      refine l_nil (fun w' hw => ?_)
      have hS := hw.sel [] rfl (by decide)
      refine ⟨hS, ?_⟩
      refine h_take 14 rfl (by kernel_rfl) (by kernel_rfl) (by kernel_rfl) (v_cvt (c := toI n32_) (by kernel_rfl) rfl (wrap_toI hf1_13_1) (by kernel_rfl)) rfl hS ?_
      refine h_pick2 (i := 8) (j := 16) (by kernel_rfl) ?_ ?_
      ·
        refine pk_of 8 rfl hw ?_
        refine l_b2s (bs := d11_) (by kernel_rfl) (by kernel_rfl) rfl (fun w' hw' => Vec.sl (Own.holds hw' 1 _ rfl)) rfl ?_
        refine l_nil (fun w' hw => ?_)
        have hS := hw.sel [] rfl (by decide)
        refine ⟨hS, ?_⟩
        refine h_one 16 (by kernel_rfl) rfl hw ?_
        refine l_call (by kernel_rfl) rfl rfl (fun w' hw => ?_)
        refine (inNum_s o v b a'33_ bad'34_ w' (by first | assumption | omega | (simp <;> omega) | (constructor <;> (first | omega | (simp only [LenOk]; omega) | (simp <;> omega)))) (by first | assumption | omega | (simp <;> omega) | (constructor <;> (first | omega | (simp only [LenOk]; omega) | (simp <;> omega)))) (hw.rdTo hb [2] rfl) (hw.give [2] rfl (by decide))).mono ?_
        rintro _ w1 ⟨n35_, a'36_, bad'37_, rfl, hf1_16, hf1_16_1, hO⟩
        refine (?_ : CL _ _ _ _ _ _ (Own w (fps [Res.row o 133 [v, .int .i64 (a : Nat), .bool bad]]) [Res.row b2 36 [.int .u64 (0 : Nat), .int .u64 (0 : Nat), .int .i64 0, .string (⟨#[]⟩ : ByteArray), .int .i64 0, .int .i64 0, .int .u64 (0 : Nat)], Res.vec 5 1 r10_ d11_.length (d11_.map vb), Res.row o 133 [v, .int .i64 (a'36_ : Nat), .bool bad'37_]])) w1 (hw.frameL [2] rfl hO)
        refine l_nil (fun w' hw => ?_)
        have hS := hw.sel [] rfl (by decide)
        refine ⟨hS, ?_⟩
        refine h_take 17 rfl (by kernel_rfl) (by kernel_rfl) (by kernel_rfl) (v_bld (cs := [.int .u64 (n1_ : Nat), .int .u64 (n4_ : Nat), .int .i64 (n7_ : Nat), .string (⟨d11_.toArray⟩ : ByteArray), .int .i64 (toI n23_), .int .i64 (toI n32_), .int .u64 (n35_ : Nat)]) (z := [.int .u64 (0 : Nat), .int .u64 (0 : Nat), .int .i64 0, .string (⟨#[]⟩ : ByteArray), .int .i64 0, .int .i64 0, .int .u64 (0 : Nat)]) (pl := [(0, 1), (1, 1), (2, 1), (3, 1), (4, 1), (5, 1), (6, 1)]) (by kernel_rfl) (by kernel_rfl)) rfl hS ?_
        refine h_one 18 (by kernel_rfl) rfl hw ?_
        refine l_stN (cs := [.int .u64 (0 : Nat), .int .u64 (0 : Nat), .int .i64 0, .string (⟨#[]⟩ : ByteArray), .int .i64 0, .int .i64 0, .int .u64 (0 : Nat)]) (vs := [.int .u64 (n1_ : Nat), .int .u64 (n4_ : Nat), .int .i64 (n7_ : Nat), .string (⟨d11_.toArray⟩ : ByteArray), .int .i64 (toI n23_), .int .i64 (toI n32_), .int .u64 (n35_ : Nat)]) 0 rfl rfl rfl (by kernel_rfl) (allc_cons rfl (allc_cons rfl (allc_cons rfl (allc_cons rfl (allc_cons rfl (allc_cons rfl (allc_cons rfl allc_nil))))))) (Nat.le_of_ble_eq_true rfl) ?_
        refine l_nil (fun w' hw => ?_)
        have hS := hw.sel [] rfl (by decide)
        refine ⟨hS, ?_⟩
        refine h_done (by kernel_rfl) ?_
        refine (?_ : C _ _ _ _ _ _ _ (Own w (fps [Res.row o 133 [v, .int .i64 (a : Nat), .bool bad]]) [Res.row b2 36 [.int .u64 (n1_ : Nat), .int .u64 (n4_ : Nat), .int .i64 (n7_ : Nat), .string (⟨d11_.toArray⟩ : ByteArray), .int .i64 (toI n23_), .int .i64 (toI n32_), .int .u64 (n35_ : Nat)], Res.vec 5 1 r10_ d11_.length (d11_.map vb), Res.row o 133 [v, .int .i64 (a'36_ : Nat), .bool bad'37_]])) _ hw
        exact c_ret (retc (cs := [.int .u64 (n1_ : Nat), .int .u64 (n4_ : Nat), .int .i64 (n7_ : Nat), .string (⟨d11_.toArray⟩ : ByteArray), .int .i64 (toI n23_), .int .i64 (toI n32_), .int .u64 (n35_ : Nat)]) rfl rfl (by kernel_rfl) (Own.rowCells (i := 0) rfl) (fun w' hw => ⟨n1_, n4_, n7_, (⟨d11_.toArray⟩ : ByteArray), toI n23_, toI n32_, n35_, a'36_, bad'37_, rfl, hf1_1.bind (hf1_3.bind (RdS.bind hf1_5.int (hf1_7.bind (hf1_10.bind (hf1_13.bind (hf1_16.bind (RdS.pure _ hf1_16.le))))))), hf1_7_1, hw.sel [2] rfl (by decide)⟩))
      ·
        refine pk_of 16 rfl hw ?_
        refine l_call (by kernel_rfl) rfl rfl (fun w' hw => ?_)
        refine (inNum_s o v b a'33_ bad'34_ w' (by first | assumption | omega | (simp <;> omega) | (constructor <;> (first | omega | (simp only [LenOk]; omega) | (simp <;> omega)))) (by first | assumption | omega | (simp <;> omega) | (constructor <;> (first | omega | (simp only [LenOk]; omega) | (simp <;> omega)))) (hw.rdTo hb [2] rfl) (hw.give [2] rfl (by decide))).mono ?_
        rintro _ w1 ⟨n38_, a'39_, bad'40_, rfl, hf1_16, hf1_16_1, hO⟩
        refine (?_ : CL _ _ _ _ _ _ (Own w (fps [Res.row o 133 [v, .int .i64 (a : Nat), .bool bad]]) [Res.row b2 36 [.int .u64 (0 : Nat), .int .u64 (0 : Nat), .int .i64 0, .string (⟨#[]⟩ : ByteArray), .int .i64 0, .int .i64 0, .int .u64 (0 : Nat)], Res.vec 5 1 r10_ d11_.length (d11_.map vb), Res.row o 133 [v, .int .i64 (a'39_ : Nat), .bool bad'40_]])) w1 (hw.frameL [2] rfl hO)
        refine l_nil (fun w' hw => ?_)
        have hS := hw.sel [] rfl (by decide)
        refine ⟨hS, ?_⟩
        refine h_one 8 (by kernel_rfl) rfl hw ?_
        refine l_b2s (bs := d11_) (by kernel_rfl) (by kernel_rfl) rfl (fun w' hw' => Vec.sl (Own.holds hw' 1 _ rfl)) rfl ?_
        refine l_nil (fun w' hw => ?_)
        have hS := hw.sel [] rfl (by decide)
        refine ⟨hS, ?_⟩
        refine h_take 17 rfl (by kernel_rfl) (by kernel_rfl) (by kernel_rfl) (v_bld (cs := [.int .u64 (n1_ : Nat), .int .u64 (n4_ : Nat), .int .i64 (n7_ : Nat), .string (⟨d11_.toArray⟩ : ByteArray), .int .i64 (toI n23_), .int .i64 (toI n32_), .int .u64 (n38_ : Nat)]) (z := [.int .u64 (0 : Nat), .int .u64 (0 : Nat), .int .i64 0, .string (⟨#[]⟩ : ByteArray), .int .i64 0, .int .i64 0, .int .u64 (0 : Nat)]) (pl := [(0, 1), (1, 1), (2, 1), (3, 1), (4, 1), (5, 1), (6, 1)]) (by kernel_rfl) (by kernel_rfl)) rfl hS ?_
        refine h_one 18 (by kernel_rfl) rfl hw ?_
        refine l_stN (cs := [.int .u64 (0 : Nat), .int .u64 (0 : Nat), .int .i64 0, .string (⟨#[]⟩ : ByteArray), .int .i64 0, .int .i64 0, .int .u64 (0 : Nat)]) (vs := [.int .u64 (n1_ : Nat), .int .u64 (n4_ : Nat), .int .i64 (n7_ : Nat), .string (⟨d11_.toArray⟩ : ByteArray), .int .i64 (toI n23_), .int .i64 (toI n32_), .int .u64 (n38_ : Nat)]) 0 rfl rfl rfl (by kernel_rfl) (allc_cons rfl (allc_cons rfl (allc_cons rfl (allc_cons rfl (allc_cons rfl (allc_cons rfl (allc_cons rfl allc_nil))))))) (Nat.le_of_ble_eq_true rfl) ?_
        refine l_nil (fun w' hw => ?_)
        have hS := hw.sel [] rfl (by decide)
        refine ⟨hS, ?_⟩
        refine h_done (by kernel_rfl) ?_
        refine (?_ : C _ _ _ _ _ _ _ (Own w (fps [Res.row o 133 [v, .int .i64 (a : Nat), .bool bad]]) [Res.row b2 36 [.int .u64 (n1_ : Nat), .int .u64 (n4_ : Nat), .int .i64 (n7_ : Nat), .string (⟨d11_.toArray⟩ : ByteArray), .int .i64 (toI n23_), .int .i64 (toI n32_), .int .u64 (n38_ : Nat)], Res.vec 5 1 r10_ d11_.length (d11_.map vb), Res.row o 133 [v, .int .i64 (a'39_ : Nat), .bool bad'40_]])) _ hw
        exact c_ret (retc (cs := [.int .u64 (n1_ : Nat), .int .u64 (n4_ : Nat), .int .i64 (n7_ : Nat), .string (⟨d11_.toArray⟩ : ByteArray), .int .i64 (toI n23_), .int .i64 (toI n32_), .int .u64 (n38_ : Nat)]) rfl rfl (by kernel_rfl) (Own.rowCells (i := 0) rfl) (fun w' hw => ⟨n1_, n4_, n7_, (⟨d11_.toArray⟩ : ByteArray), toI n23_, toI n32_, n38_, a'39_, bad'40_, rfl, hf1_1.bind (hf1_3.bind (RdS.bind hf1_5.int (hf1_7.bind (hf1_10.bind (hf1_13.bind (hf1_16.bind (RdS.pure _ hf1_16.le))))))), hf1_7_1, hw.sel [2] rfl (by decide)⟩))
theorem cmdValue_s (v : Value) (b : List UInt8) (w : World) (hl : b.length ≤ 1048576) (hb : Rd w [] (Res.sl v b.length (b.map vb))) : Rets Tryz.prog 27 #[.agg #[.func (.func 64) #[] #[], .func (.func 65) #[] #[], .func (.func 66) #[] #[]], v] w fun u_ w' => ∃ (s : Nat) (q : Nat) (op : Int) (k : ByteArray) (am : Int) (sp : Int) (le : Nat) (e : Int), u_ = .tuple #[.agg #[.int .u64 (s : Nat), .int .u64 (q : Nat), .int .i64 op, .string k, .int .i64 am, .int .i64 sp, .int .u64 (le : Nat)], .int .i64 e] ∧ ValPost (decCmd b) (⟨s, q, op, k, am, sp, le⟩ : CmdD) cmdZ e ∧ Own w [] [] w' := by
  refine fn_enter (args := [.agg #[.func (.func 64) #[] #[], .func (.func 65) #[] #[], .func (.func 66) #[] #[]], v]) Tryz.func27 rfl Tryz.ntmps27 rfl (Own.start w) ?_
  refine c_reg ?_
  refine l_box rfl rfl (fun b2 => ?_)
  refine l_new (v := .agg #[.int .u64 (0 : Nat), .int .u64 (0 : Nat), .int .i64 0, .string (⟨#[]⟩ : ByteArray), .int .i64 0, .int .i64 0, .int .u64 (0 : Nat)]) (by kernel_rfl) rfl (fun b4 => ?_)
  refine l_as rfl ?_
  refine l_end ?_
  refine c_reg ?_
  refine l_mv rfl ?_
  refine l_bldc (cs := [v, .int .i64 0, .bool false]) (z := [.slice none 0 0, .int .i64 0, .bool false]) (pl := [(0, 1), (1, 1), (2, 1)]) (by kernel_rfl) ⟨(Sl.cell1 (Rd.φ hb)), trivial⟩ (by kernel_rfl) rfl ?_
  refine l_box rfl rfl (fun b10 => ?_)
  refine l_as rfl ?_
  refine l_end ?_
  refine c_reg ?_
  refine l_fld (o := 2) rfl (by kernel_rfl) rfl ?_
  refine l_ldo 0 (v := .func (.func 66) #[] #[]) rfl rfl rfl (by kernel_rfl) rfl ?_
  refine l_mv rfl ?_
  refine l_callv (fst := []) (cap := []) rfl (by kernel_rfl) rfl rfl (fun w' hw => ?_)
  refine (cmdRead_s b10 v b 0 false w' (by first | assumption | omega | (simp <;> omega) | (constructor <;> (first | omega | (simp only [LenOk]; omega) | (simp <;> omega)))) (by first | assumption | omega | (simp <;> omega) | (constructor <;> (first | omega | (simp only [LenOk]; omega) | (simp <;> omega)))) (hw.rdTo hb [2] rfl) (hw.give [2] rfl (by decide))).mono ?_
  rintro _ w1 ⟨s1_, q2_, op3_, k4_, am5_, sp6_, le7_, a'8_, bad'9_, rfl, hf2_3, hf2_3_1, hO⟩
  refine (?_ : CL _ _ _ _ _ _ (Own w [] [Res.row b2 83 [.func (.func 64) #[] #[], .func (.func 65) #[] #[], .func (.func 66) #[] #[]], Res.row b4 36 [.int .u64 (0 : Nat), .int .u64 (0 : Nat), .int .i64 0, .string (⟨#[]⟩ : ByteArray), .int .i64 0, .int .i64 0, .int .u64 (0 : Nat)], Res.row b10 133 [v, .int .i64 (a'8_ : Nat), .bool bad'9_]])) w1 (hw.frameL [2] rfl hO)
  refine l_stN (cs := [.int .u64 (0 : Nat), .int .u64 (0 : Nat), .int .i64 0, .string (⟨#[]⟩ : ByteArray), .int .i64 0, .int .i64 0, .int .u64 (0 : Nat)]) (vs := [.int .u64 (s1_ : Nat), .int .u64 (q2_ : Nat), .int .i64 (op3_ : Nat), .string k4_, .int .i64 am5_, .int .i64 sp6_, .int .u64 (le7_ : Nat)]) 1 rfl rfl rfl (by kernel_rfl) (allc_cons rfl (allc_cons rfl (allc_cons rfl (allc_cons rfl (allc_cons rfl (allc_cons rfl (allc_cons rfl allc_nil))))))) (Nat.le_of_ble_eq_true rfl) ?_
  refine l_end ?_
  refine c_seq ?_
  refine c_reg ?_
  refine l_mv rfl ?_
  refine l_nck rfl rfl ?_
  refine l_fld (o := 2) rfl (by kernel_rfl) rfl ?_
  refine l_ldo 2 (v := .bool bad'9_) rfl rfl rfl (by kernel_rfl) rfl ?_
  refine l_mv rfl ?_
  refine l_bor (q := bad'9_ = true) 7 4 [26, 25, 24, 23, 22, 21, 20] (((a'8_ : Nat) : Int) ≠ ((b.length : Nat) : Int)) rfl rfl (bool_dec _) rfl rfl rfl trivial rfl (fun h3_4 => ?_) (fun g3_12 => ?_)
  ·
    refine l_on rfl (bF h3_4) ?_
    refine l_mv rfl ?_
    refine l_on rfl (bF h3_4) ?_
    refine l_nck rfl rfl ?_
    refine l_on rfl (bF h3_4) ?_
    refine l_fld (o := 1) rfl (by kernel_rfl) rfl ?_
    refine l_on rfl (bF h3_4) ?_
    refine l_ldo 2 (v := .int .i64 (a'8_ : Nat)) rfl rfl rfl (by kernel_rfl) rfl ?_
    refine l_on rfl (bF h3_4) ?_
    refine l_mv rfl ?_
    refine l_on rfl (bF h3_4) ?_
    refine l_lenS (len := b.length) (cs := (b.map vb)) (by kernel_rfl) rfl (fun w' hw' => Own.rd hb hw') rfl ?_
    refine l_on rfl (bF h3_4) ?_
    refine l_ne rfl rfl rfl ?_
    exact l_nil (fun w' hw => ⟨(by repeat (first | exact Out.refl _ _ | refine Out.upd rfl ?_ | refine Out.msk rfl ?_)), rfl, hw⟩)
  refine l_mv rfl ?_
  refine l_bor (q := (bad'9_ = true) ∨ (((a'8_ : Nat) : Int) ≠ ((b.length : Nat) : Int))) 5 13 [33, 32, 31, 30, 29] (¬ (({ session := s1_, seq := q2_, op := ((op3_ : Nat) : Int), key := k4_, amount := am5_, span := sp6_, lease := le7_ } : CmdD).ok)) rfl rfl rfl rfl rfl rfl trivial rfl (fun h3_13 => ?_) (fun g3_19 => ?_)
  ·
    refine l_on rfl (gF h3_13) ?_
    refine l_fld (o := 0) rfl (by kernel_rfl) rfl ?_
    refine l_on rfl (gF h3_13) ?_
    refine l_ldo 0 (v := .func (.func 64) #[] #[]) rfl rfl rfl (by kernel_rfl) rfl ?_
    refine l_on rfl (gF h3_13) ?_
    refine l_ldr (cs := [.int .u64 (s1_ : Nat), .int .u64 (q2_ : Nat), .int .i64 (op3_ : Nat), .string k4_, .int .i64 am5_, .int .i64 sp6_, .int .u64 (le7_ : Nat)]) 1 rfl rfl (by kernel_rfl) rfl ?_
    refine l_on rfl (gF h3_13) ?_
    refine l_callv (fst := []) (cap := []) rfl (by kernel_rfl) rfl rfl (fun w' hw => ?_)
    refine (cmdSound_s ({ session := s1_, seq := q2_, op := ((op3_ : Nat) : Int), key := k4_, amount := am5_, span := sp6_, lease := le7_ } : CmdD) w' (by have := hf2_3_1; dsimp only; omega)).mono ?_
    rintro _ w1 ⟨rfl, hO⟩
    refine (?_ : CL _ _ _ _ _ _ (Own w [] [Res.row b2 83 [.func (.func 64) #[] #[], .func (.func 65) #[] #[], .func (.func 66) #[] #[]], Res.row b4 36 [.int .u64 (s1_ : Nat), .int .u64 (q2_ : Nat), .int .i64 (op3_ : Nat), .string k4_, .int .i64 am5_, .int .i64 sp6_, .int .u64 (le7_ : Nat)], Res.row b10 133 [v, .int .i64 (a'8_ : Nat), .bool bad'9_]])) w1 (hw.frame0 hO)
    refine l_on rfl (gF h3_13) ?_
    refine l_notp (q := ({ session := s1_, seq := q2_, op := ((op3_ : Nat) : Int), key := k4_, amount := am5_, span := sp6_, lease := le7_ } : CmdD).ok) rfl rfl ?_
    exact l_nil (fun w' hw => ⟨(by repeat (first | exact Out.refl _ _ | refine Out.upd rfl ?_ | refine Out.msk rfl ?_)), rfl, hw⟩)
  refine l_end ?_
  refine c_dec rfl (fun c1 => ?_) (fun c1 => ?_)
  ·
    refine c_reg ?_
    refine l_new (v := .agg #[.int .u64 (0 : Nat), .int .u64 (0 : Nat), .int .i64 0, .string (⟨#[]⟩ : ByteArray), .int .i64 0, .int .i64 0, .int .u64 (0 : Nat)]) (by kernel_rfl) rfl (fun b7 => ?_)
    refine l_end ?_
    refine c_reg ?_
    refine l_ldr (cs := [.int .u64 (0 : Nat), .int .u64 (0 : Nat), .int .i64 0, .string (⟨#[]⟩ : ByteArray), .int .i64 0, .int .i64 0, .int .u64 (0 : Nat)]) 3 rfl rfl (by kernel_rfl) rfl ?_
    refine l_stN (cs := [.int .u64 (s1_ : Nat), .int .u64 (q2_ : Nat), .int .i64 (op3_ : Nat), .string k4_, .int .i64 am5_, .int .i64 sp6_, .int .u64 (le7_ : Nat)]) (vs := [.int .u64 (0 : Nat), .int .u64 (0 : Nat), .int .i64 0, .string (⟨#[]⟩ : ByteArray), .int .i64 0, .int .i64 0, .int .u64 (0 : Nat)]) 1 rfl rfl rfl (by kernel_rfl) (allc_cons rfl (allc_cons rfl (allc_cons rfl (allc_cons rfl (allc_cons rfl (allc_cons rfl (allc_cons rfl allc_nil))))))) (Nat.le_of_ble_eq_true rfl) ?_
    refine l_as rfl ?_
    refine l_end ?_
    exact c_ret (retc2 (cs := [.int .u64 (0 : Nat), .int .u64 (0 : Nat), .int .i64 0, .string (⟨#[]⟩ : ByteArray), .int .i64 0, .int .i64 0, .int .u64 (0 : Nat)]) (v := .int .i64 4) rfl rfl rfl (by kernel_rfl) (Own.rowCells (i := 1) rfl) (fun w' hw => ⟨0, 0, 0, ⟨#[]⟩, 0, 0, 0, 4, rfl, .inr ⟨rfl, whole_no hf2_3 (fun h1 h2 h3 => c1.elim (fun h => h.elim (fun h => (by rw [h1] at h; cases h)) (fun h => h (by omega))) (fun h => h h3)), rfl⟩, hw.drop⟩))
  ·
    refine c_skipC ?_
    refine c_reg ?_
    refine l_ldr (cs := [.int .u64 (s1_ : Nat), .int .u64 (q2_ : Nat), .int .i64 (op3_ : Nat), .string k4_, .int .i64 am5_, .int .i64 sp6_, .int .u64 (le7_ : Nat)]) 1 rfl rfl (by kernel_rfl) rfl ?_
    refine l_stN (cs := [.int .u64 (s1_ : Nat), .int .u64 (q2_ : Nat), .int .i64 (op3_ : Nat), .string k4_, .int .i64 am5_, .int .i64 sp6_, .int .u64 (le7_ : Nat)]) (vs := [.int .u64 (s1_ : Nat), .int .u64 (q2_ : Nat), .int .i64 (op3_ : Nat), .string k4_, .int .i64 am5_, .int .i64 sp6_, .int .u64 (le7_ : Nat)]) 1 rfl rfl rfl (by kernel_rfl) (allc_cons rfl (allc_cons rfl (allc_cons rfl (allc_cons rfl (allc_cons rfl (allc_cons rfl (allc_cons rfl allc_nil))))))) (Nat.le_of_ble_eq_true rfl) ?_
    refine l_as rfl ?_
    refine l_end ?_
    exact c_ret (retc2 (cs := [.int .u64 (s1_ : Nat), .int .u64 (q2_ : Nat), .int .i64 (op3_ : Nat), .string k4_, .int .i64 am5_, .int .i64 sp6_, .int .u64 (le7_ : Nat)]) (v := .int .i64 0) rfl rfl rfl (by kernel_rfl) (Own.rowCells (i := 1) rfl) (fun w' hw => ⟨s1_, q2_, ((op3_ : Nat) : Int), k4_, am5_, sp6_, le7_, 0, rfl, .inl ⟨rfl, whole_yes hf2_3 (by cases h : bad'9_; rfl; exact absurd (.inl (.inl h)) c1) (by have : ¬ (a'8_ : Int) ≠ b.length := fun h => c1 (.inl (.inr h)); omega) (Decidable.not_not.1 fun h => c1 (.inr h))⟩, hw.drop⟩))
theorem toCmd_s (v : Value) (b : List UInt8) (w : World) (hl : b.length ≤ 1048576) (hb : Rd w [] (Res.sl v b.length (b.map vb))) : Rets Tryz.prog 6 #[v] w fun u_ w' => ∃ (s : Nat) (q : Nat) (op : Int) (k : ByteArray) (am : Int) (sp : Int) (le : Nat) (e : Int), u_ = .tuple #[.agg #[.int .u64 (s : Nat), .int .u64 (q : Nat), .int .i64 op, .string k, .int .i64 am, .int .i64 sp, .int .u64 (le : Nat)], .int .i64 e] ∧ ValPost (decCmd b) (⟨s, q, op, k, am, sp, le⟩ : CmdD) cmdZ e ∧ Own w [] [] w' := by
  refine fn_enter (args := [v]) Tryz.func6 rfl Tryz.ntmps6 rfl (Own.start w) ?_
  refine c_reg ?_
  refine l_new (v := .agg #[.int .u64 (0 : Nat), .int .u64 (0 : Nat), .int .i64 0, .string (⟨#[]⟩ : ByteArray), .int .i64 0, .int .i64 0, .int .u64 (0 : Nat)]) (by kernel_rfl) rfl (fun b2 => ?_)
  refine l_as rfl ?_
  refine l_end ?_
  refine c_reg ?_
  refine l_call (by kernel_rfl) rfl rfl (fun w' hw => ?_)
  refine (commands_s w').mono ?_
  rintro _ w1 ⟨rfl, hO⟩
  refine (?_ : CL _ _ _ _ _ _ (Own w [] [Res.row b2 36 [.int .u64 (0 : Nat), .int .u64 (0 : Nat), .int .i64 0, .string (⟨#[]⟩ : ByteArray), .int .i64 0, .int .i64 0, .int .u64 (0 : Nat)]])) w1 (hw.frame0 hO)
  refine l_mv rfl ?_
  refine l_call (by kernel_rfl) rfl rfl (fun w' hw => ?_)
  refine (cmdValue_s v b w' (by first | assumption | omega | (simp <;> omega) | (constructor <;> (first | omega | (simp only [LenOk]; omega) | (simp <;> omega)))) (hw.rd0 hb)).mono ?_
  rintro _ w1 ⟨s1_, q2_, op3_, k4_, am5_, sp6_, le7_, e8_, rfl, hf1_2, hO⟩
  refine (?_ : CL _ _ _ _ _ _ (Own w [] [Res.row b2 36 [.int .u64 (0 : Nat), .int .u64 (0 : Nat), .int .i64 0, .string (⟨#[]⟩ : ByteArray), .int .i64 0, .int .i64 0, .int .u64 (0 : Nat)]])) w1 (hw.frame0 hO)
  refine l_ext (vs := [.agg #[.int .u64 (s1_ : Nat), .int .u64 (q2_ : Nat), .int .i64 op3_, .string k4_, .int .i64 am5_, .int .i64 sp6_, .int .u64 (le7_ : Nat)], .int .i64 e8_]) rfl rfl rfl ?_
  refine l_ext (vs := [.agg #[.int .u64 (s1_ : Nat), .int .u64 (q2_ : Nat), .int .i64 op3_, .string k4_, .int .i64 am5_, .int .i64 sp6_, .int .u64 (le7_ : Nat)], .int .i64 e8_]) rfl rfl rfl ?_
  refine l_stN (cs := [.int .u64 (0 : Nat), .int .u64 (0 : Nat), .int .i64 0, .string (⟨#[]⟩ : ByteArray), .int .i64 0, .int .i64 0, .int .u64 (0 : Nat)]) (vs := [.int .u64 (s1_ : Nat), .int .u64 (q2_ : Nat), .int .i64 op3_, .string k4_, .int .i64 am5_, .int .i64 sp6_, .int .u64 (le7_ : Nat)]) 0 rfl rfl rfl (by kernel_rfl) (allc_cons rfl (allc_cons rfl (allc_cons rfl (allc_cons rfl (allc_cons rfl (allc_cons rfl (allc_cons rfl allc_nil))))))) (Nat.le_of_ble_eq_true rfl) ?_
  refine l_as rfl ?_
  refine l_end ?_
  exact c_ret (retc2 (cs := [.int .u64 (s1_ : Nat), .int .u64 (q2_ : Nat), .int .i64 op3_, .string k4_, .int .i64 am5_, .int .i64 sp6_, .int .u64 (le7_ : Nat)]) (v := .int .i64 e8_) rfl rfl rfl (by kernel_rfl) (Own.rowCells (i := 0) rfl) (fun w' hw => ⟨s1_, q2_, op3_, k4_, am5_, sp6_, le7_, e8_, rfl, hf1_2, hw.drop⟩))
theorem replyRead_s (o : Nat) (v : Value) (b : List UInt8) (a : Nat) (bad : Bool) (w : World) (hl : LenOk b.length) (ha : a ≤ b.length) (hb : Rd w (fps [Res.row o 133 [v, .int .i64 (a : Nat), .bool bad]]) (Res.sl v b.length (b.map vb))) (hin : Own w (fps [Res.row o 133 [v, .int .i64 (a : Nat), .bool bad]]) [Res.row o 133 [v, .int .i64 (a : Nat), .bool bad]] w) : Rets Tryz.prog 69 #[.pointer (some ⟨o, 0, none⟩)] w fun u_ w' => ∃ (s : Nat) (q : Nat) (op : Nat) (le : Nat) (am : Int) (sp : Int) (a' : Nat) (bad' : Bool), u_ = .agg #[.int .u64 (s : Nat), .int .u64 (q : Nat), .int .i64 (op : Nat), .int .u64 (le : Nat), .int .i64 am, .int .i64 sp] ∧ RdS pRpl b a bad (⟨s, q, (op : Int), le, am, sp⟩ : RepD) a' bad' ∧ Own w (fps [Res.row o 133 [v, .int .i64 (a : Nat), .bool bad]]) [Res.row o 133 [v, .int .i64 (a' : Nat), .bool bad']] w' := by
  refine fn_enter (args := [.pointer (some ⟨o, 0, none⟩)]) Tryz.func69 rfl Tryz.ntmps69 rfl (show Own w (fps [Res.row o 133 [v, .int .i64 (a : Nat), .bool bad]]) [Res.row o 133 [v, .int .i64 (a : Nat), .bool bad]] w from hin) ?_
  refine c_reg ?_
  refine l_new (v := .agg #[.int .u64 (0 : Nat), .int .u64 (0 : Nat), .int .i64 0, .int .u64 (0 : Nat), .int .i64 0, .int .i64 0]) (by kernel_rfl) rfl (fun b2 => ?_)
  refine l_end ?_
  refine c_reg ?_
  refine l_mv rfl ?_
  refine l_call (by kernel_rfl) rfl rfl (fun w' hw => ?_)
  refine (inNum_s o v b a bad w' (by first | assumption | omega | (simp <;> omega) | (constructor <;> (first | omega | (simp only [LenOk]; omega) | (simp <;> omega)))) (by first | assumption | omega | (simp <;> omega) | (constructor <;> (first | omega | (simp only [LenOk]; omega) | (simp <;> omega)))) (hw.rdTo hb [0] rfl) (hw.give [0] rfl (by decide))).mono ?_
  rintro _ w1 ⟨n1_, a'2_, bad'3_, rfl, hf1_1, hf1_1_1, hO⟩
  have hq1 := hf1_1.le
  refine (?_ : CL _ _ _ _ _ _ (Own w (fps [Res.row o 133 [v, .int .i64 (a : Nat), .bool bad]]) [Res.row b2 42 [.int .u64 (0 : Nat), .int .u64 (0 : Nat), .int .i64 0, .int .u64 (0 : Nat), .int .i64 0, .int .i64 0], Res.row o 133 [v, .int .i64 (a'2_ : Nat), .bool bad'3_]])) w1 (hw.frameL [0] rfl hO)
  refine l_mv rfl ?_
  refine l_call (by kernel_rfl) rfl rfl (fun w' hw => ?_)
  refine (inNum_s o v b a'2_ bad'3_ w' (by first | assumption | omega | (simp <;> omega) | (constructor <;> (first | omega | (simp only [LenOk]; omega) | (simp <;> omega)))) (by first | assumption | omega | (simp <;> omega) | (constructor <;> (first | omega | (simp only [LenOk]; omega) | (simp <;> omega)))) (hw.rdTo hb [1] rfl) (hw.give [1] rfl (by decide))).mono ?_
  rintro _ w1 ⟨n4_, a'5_, bad'6_, rfl, hf1_3, hf1_3_1, hO⟩
  have hq2 := hf1_3.le
  refine (?_ : CL _ _ _ _ _ _ (Own w (fps [Res.row o 133 [v, .int .i64 (a : Nat), .bool bad]]) [Res.row b2 42 [.int .u64 (0 : Nat), .int .u64 (0 : Nat), .int .i64 0, .int .u64 (0 : Nat), .int .i64 0, .int .i64 0], Res.row o 133 [v, .int .i64 (a'5_ : Nat), .bool bad'6_]])) w1 (hw.frameL [1] rfl hO)
  refine l_mv rfl ?_
  refine l_call (by kernel_rfl) rfl rfl (fun w' hw => ?_)
  refine (inUpto_s o v b a'5_ bad'6_ 20 w' (by first | assumption | omega | (simp <;> omega) | (constructor <;> (first | omega | (simp only [LenOk]; omega) | (simp <;> omega)))) (by first | assumption | omega | (simp <;> omega) | (constructor <;> (first | omega | (simp only [LenOk]; omega) | (simp <;> omega)))) (by first | assumption | omega | (simp <;> omega) | (constructor <;> (first | omega | (simp only [LenOk]; omega) | (simp <;> omega)))) (hw.rdTo hb [1] rfl) (hw.give [1] rfl (by decide))).mono ?_
  rintro _ w1 ⟨n7_, a'8_, bad'9_, rfl, hf1_5, hf1_5_1, hO⟩
  have hq3 := hf1_5.le
  refine (?_ : CL _ _ _ _ _ _ (Own w (fps [Res.row o 133 [v, .int .i64 (a : Nat), .bool bad]]) [Res.row b2 42 [.int .u64 (0 : Nat), .int .u64 (0 : Nat), .int .i64 0, .int .u64 (0 : Nat), .int .i64 0, .int .i64 0], Res.row o 133 [v, .int .i64 (a'8_ : Nat), .bool bad'9_]])) w1 (hw.frameL [1] rfl hO)
  refine l_mv rfl ?_
  refine l_call (by kernel_rfl) rfl rfl (fun w' hw => ?_)
  refine (inNum_s o v b a'8_ bad'9_ w' (by first | assumption | omega | (simp <;> omega) | (constructor <;> (first | omega | (simp only [LenOk]; omega) | (simp <;> omega)))) (by first | assumption | omega | (simp <;> omega) | (constructor <;> (first | omega | (simp only [LenOk]; omega) | (simp <;> omega)))) (hw.rdTo hb [1] rfl) (hw.give [1] rfl (by decide))).mono ?_
  rintro _ w1 ⟨n10_, a'11_, bad'12_, rfl, hf1_7, hf1_7_1, hO⟩
  have hq4 := hf1_7.le
  refine (?_ : CL _ _ _ _ _ _ (Own w (fps [Res.row o 133 [v, .int .i64 (a : Nat), .bool bad]]) [Res.row b2 42 [.int .u64 (0 : Nat), .int .u64 (0 : Nat), .int .i64 0, .int .u64 (0 : Nat), .int .i64 0, .int .i64 0], Res.row o 133 [v, .int .i64 (a'11_ : Nat), .bool bad'12_]])) w1 (hw.frameL [1] rfl hO)
  refine l_mv rfl ?_
  refine l_call (by kernel_rfl) rfl rfl (fun w' hw => ?_)
  refine (inNum_s o v b a'11_ bad'12_ w' (by first | assumption | omega | (simp <;> omega) | (constructor <;> (first | omega | (simp only [LenOk]; omega) | (simp <;> omega)))) (by first | assumption | omega | (simp <;> omega) | (constructor <;> (first | omega | (simp only [LenOk]; omega) | (simp <;> omega)))) (hw.rdTo hb [1] rfl) (hw.give [1] rfl (by decide))).mono ?_
  rintro _ w1 ⟨n13_, a'14_, bad'15_, rfl, hf1_9, hf1_9_1, hO⟩
  have hq5 := hf1_9.le
  refine (?_ : CL _ _ _ _ _ _ (Own w (fps [Res.row o 133 [v, .int .i64 (a : Nat), .bool bad]]) [Res.row b2 42 [.int .u64 (0 : Nat), .int .u64 (0 : Nat), .int .i64 0, .int .u64 (0 : Nat), .int .i64 0, .int .i64 0], Res.row o 133 [v, .int .i64 (a'14_ : Nat), .bool bad'15_]])) w1 (hw.frameL [1] rfl hO)
  refine l_cvt (c := toI n13_) (by kernel_rfl) rfl (wrap_toI hf1_9_1) rfl ?_ (by kernel_rfl)
  refine l_mv rfl ?_
  refine l_call (by kernel_rfl) rfl rfl (fun w' hw => ?_)
  refine (inNum_s o v b a'14_ bad'15_ w' (by first | assumption | omega | (simp <;> omega) | (constructor <;> (first | omega | (simp only [LenOk]; omega) | (simp <;> omega)))) (by first | assumption | omega | (simp <;> omega) | (constructor <;> (first | omega | (simp only [LenOk]; omega) | (simp <;> omega)))) (hw.rdTo hb [1] rfl) (hw.give [1] rfl (by decide))).mono ?_
  rintro _ w1 ⟨n16_, a'17_, bad'18_, rfl, hf1_12, hf1_12_1, hO⟩
  refine (?_ : CL _ _ _ _ _ _ (Own w (fps [Res.row o 133 [v, .int .i64 (a : Nat), .bool bad]]) [Res.row b2 42 [.int .u64 (0 : Nat), .int .u64 (0 : Nat), .int .i64 0, .int .u64 (0 : Nat), .int .i64 0, .int .i64 0], Res.row o 133 [v, .int .i64 (a'17_ : Nat), .bool bad'18_]])) w1 (hw.frameL [1] rfl hO)
  refine l_cvt (c := toI n16_) (by kernel_rfl) rfl (wrap_toI hf1_12_1) rfl ?_ (by kernel_rfl)
  refine l_bld (cs := [.int .u64 (n1_ : Nat), .int .u64 (n4_ : Nat), .int .i64 (n7_ : Nat), .int .u64 (n10_ : Nat), .int .i64 (toI n13_), .int .i64 (toI n16_)]) (z := [.int .u64 (0 : Nat), .int .u64 (0 : Nat), .int .i64 0, .int .u64 (0 : Nat), .int .i64 0, .int .i64 0]) (pl := [(0, 1), (1, 1), (2, 1), (3, 1), (4, 1), (5, 1)]) (by kernel_rfl) (by kernel_rfl) rfl ?_
  refine l_stN (cs := [.int .u64 (0 : Nat), .int .u64 (0 : Nat), .int .i64 0, .int .u64 (0 : Nat), .int .i64 0, .int .i64 0]) (vs := [.int .u64 (n1_ : Nat), .int .u64 (n4_ : Nat), .int .i64 (n7_ : Nat), .int .u64 (n10_ : Nat), .int .i64 (toI n13_), .int .i64 (toI n16_)]) 0 rfl rfl rfl (by kernel_rfl) (allc_cons rfl (allc_cons rfl (allc_cons rfl (allc_cons rfl (allc_cons rfl (allc_cons rfl allc_nil)))))) (Nat.le_of_ble_eq_true rfl) ?_
  refine l_end ?_
  exact c_ret (retc (cs := [.int .u64 (n1_ : Nat), .int .u64 (n4_ : Nat), .int .i64 (n7_ : Nat), .int .u64 (n10_ : Nat), .int .i64 (toI n13_), .int .i64 (toI n16_)]) rfl rfl (by kernel_rfl) (Own.rowCells (i := 0) rfl) (fun w' hw => ⟨n1_, n4_, n7_, n10_, toI n13_, toI n16_, a'17_, bad'18_, rfl, hf1_1.bind (hf1_3.bind (RdS.bind hf1_5.int (hf1_7.bind (hf1_9.bind (hf1_12.bind (RdS.pure _ hf1_12.le)))))), hw.sel [1] rfl (by decide)⟩))
theorem rplValue_s (v : Value) (b : List UInt8) (w : World) (hl : b.length ≤ 1048576) (hb : Rd w [] (Res.sl v b.length (b.map vb))) : Rets Tryz.prog 31 #[.agg #[.func (.func 67) #[] #[], .func (.func 68) #[] #[], .func (.func 69) #[] #[]], v] w fun u_ w' => ∃ (s : Nat) (q : Nat) (op : Int) (le : Nat) (am : Int) (sp : Int) (e : Int), u_ = .tuple #[.agg #[.int .u64 (s : Nat), .int .u64 (q : Nat), .int .i64 op, .int .u64 (le : Nat), .int .i64 am, .int .i64 sp], .int .i64 e] ∧ ValPost (decRpl b) (⟨s, q, op, le, am, sp⟩ : RepD) repZ e ∧ Own w [] [] w' := by
  refine fn_enter (args := [.agg #[.func (.func 67) #[] #[], .func (.func 68) #[] #[], .func (.func 69) #[] #[]], v]) Tryz.func31 rfl Tryz.ntmps31 rfl (Own.start w) ?_
  refine c_reg ?_
  refine l_box rfl rfl (fun b2 => ?_)
  refine l_new (v := .agg #[.int .u64 (0 : Nat), .int .u64 (0 : Nat), .int .i64 0, .int .u64 (0 : Nat), .int .i64 0, .int .i64 0]) (by kernel_rfl) rfl (fun b4 => ?_)
  refine l_as rfl ?_
  refine l_end ?_
  refine c_reg ?_
  refine l_mv rfl ?_
  refine l_bldc (cs := [v, .int .i64 0, .bool false]) (z := [.slice none 0 0, .int .i64 0, .bool false]) (pl := [(0, 1), (1, 1), (2, 1)]) (by kernel_rfl) ⟨(Sl.cell1 (Rd.φ hb)), trivial⟩ (by kernel_rfl) rfl ?_
  refine l_box rfl rfl (fun b10 => ?_)
  refine l_as rfl ?_
  refine l_end ?_
  refine c_reg ?_
  refine l_fld (o := 2) rfl (by kernel_rfl) rfl ?_
  refine l_ldo 0 (v := .func (.func 69) #[] #[]) rfl rfl rfl (by kernel_rfl) rfl ?_
  refine l_mv rfl ?_
  refine l_callv (fst := []) (cap := []) rfl (by kernel_rfl) rfl rfl (fun w' hw => ?_)
  refine (replyRead_s b10 v b 0 false w' (by first | assumption | omega | (simp <;> omega) | (constructor <;> (first | omega | (simp only [LenOk]; omega) | (simp <;> omega)))) (by first | assumption | omega | (simp <;> omega) | (constructor <;> (first | omega | (simp only [LenOk]; omega) | (simp <;> omega)))) (hw.rdTo hb [2] rfl) (hw.give [2] rfl (by decide))).mono ?_
  rintro _ w1 ⟨s1_, q2_, op3_, le4_, am5_, sp6_, a'7_, bad'8_, rfl, hf2_3, hO⟩
  refine (?_ : CL _ _ _ _ _ _ (Own w [] [Res.row b2 90 [.func (.func 67) #[] #[], .func (.func 68) #[] #[], .func (.func 69) #[] #[]], Res.row b4 42 [.int .u64 (0 : Nat), .int .u64 (0 : Nat), .int .i64 0, .int .u64 (0 : Nat), .int .i64 0, .int .i64 0], Res.row b10 133 [v, .int .i64 (a'7_ : Nat), .bool bad'8_]])) w1 (hw.frameL [2] rfl hO)
  refine l_stN (cs := [.int .u64 (0 : Nat), .int .u64 (0 : Nat), .int .i64 0, .int .u64 (0 : Nat), .int .i64 0, .int .i64 0]) (vs := [.int .u64 (s1_ : Nat), .int .u64 (q2_ : Nat), .int .i64 (op3_ : Nat), .int .u64 (le4_ : Nat), .int .i64 am5_, .int .i64 sp6_]) 1 rfl rfl rfl (by kernel_rfl) (allc_cons rfl (allc_cons rfl (allc_cons rfl (allc_cons rfl (allc_cons rfl (allc_cons rfl allc_nil)))))) (Nat.le_of_ble_eq_true rfl) ?_
  refine l_end ?_
  refine c_seq ?_
  refine c_reg ?_
  refine l_mv rfl ?_
  refine l_nck rfl rfl ?_
  refine l_fld (o := 2) rfl (by kernel_rfl) rfl ?_
  refine l_ldo 2 (v := .bool bad'8_) rfl rfl rfl (by kernel_rfl) rfl ?_
  refine l_mv rfl ?_
  refine l_bor (q := bad'8_ = true) 7 4 [26, 25, 24, 23, 22, 21, 20] (((a'7_ : Nat) : Int) ≠ ((b.length : Nat) : Int)) rfl rfl (bool_dec _) rfl rfl rfl trivial rfl (fun h3_4 => ?_) (fun g3_12 => ?_)
  ·
    refine l_on rfl (bF h3_4) ?_
    refine l_mv rfl ?_
    refine l_on rfl (bF h3_4) ?_
    refine l_nck rfl rfl ?_
    refine l_on rfl (bF h3_4) ?_
    refine l_fld (o := 1) rfl (by kernel_rfl) rfl ?_
    refine l_on rfl (bF h3_4) ?_
    refine l_ldo 2 (v := .int .i64 (a'7_ : Nat)) rfl rfl rfl (by kernel_rfl) rfl ?_
    refine l_on rfl (bF h3_4) ?_
    refine l_mv rfl ?_
    refine l_on rfl (bF h3_4) ?_
    refine l_lenS (len := b.length) (cs := (b.map vb)) (by kernel_rfl) rfl (fun w' hw' => Own.rd hb hw') rfl ?_
    refine l_on rfl (bF h3_4) ?_
    refine l_ne rfl rfl rfl ?_
    exact l_nil (fun w' hw => ⟨(by repeat (first | exact Out.refl _ _ | refine Out.upd rfl ?_ | refine Out.msk rfl ?_)), rfl, hw⟩)
  refine l_mv rfl ?_
  refine l_bor (q := (bad'8_ = true) ∨ (((a'7_ : Nat) : Int) ≠ ((b.length : Nat) : Int))) 5 13 [33, 32, 31, 30, 29] (¬ (({ session := s1_, seq := q2_, e := ((op3_ : Nat) : Int), lease := le4_, amount := am5_, until_ := sp6_ } : RepD).ok)) rfl rfl rfl rfl rfl rfl trivial rfl (fun h3_13 => ?_) (fun g3_19 => ?_)
  ·
    refine l_on rfl (gF h3_13) ?_
    refine l_fld (o := 0) rfl (by kernel_rfl) rfl ?_
    refine l_on rfl (gF h3_13) ?_
    refine l_ldo 0 (v := .func (.func 67) #[] #[]) rfl rfl rfl (by kernel_rfl) rfl ?_
    refine l_on rfl (gF h3_13) ?_
    refine l_ldr (cs := [.int .u64 (s1_ : Nat), .int .u64 (q2_ : Nat), .int .i64 (op3_ : Nat), .int .u64 (le4_ : Nat), .int .i64 am5_, .int .i64 sp6_]) 1 rfl rfl (by kernel_rfl) rfl ?_
    refine l_on rfl (gF h3_13) ?_
    refine l_callv (fst := []) (cap := []) rfl (by kernel_rfl) rfl rfl (fun w' hw => ?_)
    refine (repSound_s ({ session := s1_, seq := q2_, e := ((op3_ : Nat) : Int), lease := le4_, amount := am5_, until_ := sp6_ } : RepD) w').mono ?_
    rintro _ w1 ⟨rfl, hO⟩
    refine (?_ : CL _ _ _ _ _ _ (Own w [] [Res.row b2 90 [.func (.func 67) #[] #[], .func (.func 68) #[] #[], .func (.func 69) #[] #[]], Res.row b4 42 [.int .u64 (s1_ : Nat), .int .u64 (q2_ : Nat), .int .i64 (op3_ : Nat), .int .u64 (le4_ : Nat), .int .i64 am5_, .int .i64 sp6_], Res.row b10 133 [v, .int .i64 (a'7_ : Nat), .bool bad'8_]])) w1 (hw.frame0 hO)
    refine l_on rfl (gF h3_13) ?_
    refine l_notp (q := ({ session := s1_, seq := q2_, e := ((op3_ : Nat) : Int), lease := le4_, amount := am5_, until_ := sp6_ } : RepD).ok) rfl rfl ?_
    exact l_nil (fun w' hw => ⟨(by repeat (first | exact Out.refl _ _ | refine Out.upd rfl ?_ | refine Out.msk rfl ?_)), rfl, hw⟩)
  refine l_end ?_
  refine c_dec rfl (fun c1 => ?_) (fun c1 => ?_)
  ·
    refine c_reg ?_
    refine l_new (v := .agg #[.int .u64 (0 : Nat), .int .u64 (0 : Nat), .int .i64 0, .int .u64 (0 : Nat), .int .i64 0, .int .i64 0]) (by kernel_rfl) rfl (fun b7 => ?_)
    refine l_end ?_
    refine c_reg ?_
    refine l_ldr (cs := [.int .u64 (0 : Nat), .int .u64 (0 : Nat), .int .i64 0, .int .u64 (0 : Nat), .int .i64 0, .int .i64 0]) 3 rfl rfl (by kernel_rfl) rfl ?_
    refine l_stN (cs := [.int .u64 (s1_ : Nat), .int .u64 (q2_ : Nat), .int .i64 (op3_ : Nat), .int .u64 (le4_ : Nat), .int .i64 am5_, .int .i64 sp6_]) (vs := [.int .u64 (0 : Nat), .int .u64 (0 : Nat), .int .i64 0, .int .u64 (0 : Nat), .int .i64 0, .int .i64 0]) 1 rfl rfl rfl (by kernel_rfl) (allc_cons rfl (allc_cons rfl (allc_cons rfl (allc_cons rfl (allc_cons rfl (allc_cons rfl allc_nil)))))) (Nat.le_of_ble_eq_true rfl) ?_
    refine l_as rfl ?_
    refine l_end ?_
    exact c_ret (retc2 (cs := [.int .u64 (0 : Nat), .int .u64 (0 : Nat), .int .i64 0, .int .u64 (0 : Nat), .int .i64 0, .int .i64 0]) (v := .int .i64 4) rfl rfl rfl (by kernel_rfl) (Own.rowCells (i := 1) rfl) (fun w' hw => ⟨0, 0, 0, 0, 0, 0, 4, rfl, .inr ⟨rfl, whole_no hf2_3 (fun h1 h2 h3 => c1.elim (fun h => h.elim (fun h => (by rw [h1] at h; cases h)) (fun h => h (by omega))) (fun h => h h3)), rfl⟩, hw.drop⟩))
  ·
    refine c_skipC ?_
    refine c_reg ?_
    refine l_ldr (cs := [.int .u64 (s1_ : Nat), .int .u64 (q2_ : Nat), .int .i64 (op3_ : Nat), .int .u64 (le4_ : Nat), .int .i64 am5_, .int .i64 sp6_]) 1 rfl rfl (by kernel_rfl) rfl ?_
    refine l_stN (cs := [.int .u64 (s1_ : Nat), .int .u64 (q2_ : Nat), .int .i64 (op3_ : Nat), .int .u64 (le4_ : Nat), .int .i64 am5_, .int .i64 sp6_]) (vs := [.int .u64 (s1_ : Nat), .int .u64 (q2_ : Nat), .int .i64 (op3_ : Nat), .int .u64 (le4_ : Nat), .int .i64 am5_, .int .i64 sp6_]) 1 rfl rfl rfl (by kernel_rfl) (allc_cons rfl (allc_cons rfl (allc_cons rfl (allc_cons rfl (allc_cons rfl (allc_cons rfl allc_nil)))))) (Nat.le_of_ble_eq_true rfl) ?_
    refine l_as rfl ?_
    refine l_end ?_
    exact c_ret (retc2 (cs := [.int .u64 (s1_ : Nat), .int .u64 (q2_ : Nat), .int .i64 (op3_ : Nat), .int .u64 (le4_ : Nat), .int .i64 am5_, .int .i64 sp6_]) (v := .int .i64 0) rfl rfl rfl (by kernel_rfl) (Own.rowCells (i := 1) rfl) (fun w' hw => ⟨s1_, q2_, ((op3_ : Nat) : Int), le4_, am5_, sp6_, 0, rfl, .inl ⟨rfl, whole_yes hf2_3 (by cases h : bad'8_; rfl; exact absurd (.inl (.inl h)) c1) (by have : ¬ (a'7_ : Int) ≠ b.length := fun h => c1 (.inl (.inr h)); omega) (Decidable.not_not.1 fun h => c1 (.inr h))⟩, hw.drop⟩))
theorem toRpl_s (v : Value) (b : List UInt8) (w : World) (hl : b.length ≤ 1048576) (hb : Rd w [] (Res.sl v b.length (b.map vb))) : Rets Tryz.prog 8 #[v] w fun u_ w' => ∃ (s : Nat) (q : Nat) (op : Int) (le : Nat) (am : Int) (sp : Int) (e : Int), u_ = .tuple #[.agg #[.int .u64 (s : Nat), .int .u64 (q : Nat), .int .i64 op, .int .u64 (le : Nat), .int .i64 am, .int .i64 sp], .int .i64 e] ∧ ValPost (decRpl b) (⟨s, q, op, le, am, sp⟩ : RepD) repZ e ∧ Own w [] [] w' := by
  refine fn_enter (args := [v]) Tryz.func8 rfl Tryz.ntmps8 rfl (Own.start w) ?_
  refine c_reg ?_
  refine l_new (v := .agg #[.int .u64 (0 : Nat), .int .u64 (0 : Nat), .int .i64 0, .int .u64 (0 : Nat), .int .i64 0, .int .i64 0]) (by kernel_rfl) rfl (fun b2 => ?_)
  refine l_as rfl ?_
  refine l_end ?_
  refine c_reg ?_
  refine l_call (by kernel_rfl) rfl rfl (fun w' hw => ?_)
  refine (replies_s w').mono ?_
  rintro _ w1 ⟨rfl, hO⟩
  refine (?_ : CL _ _ _ _ _ _ (Own w [] [Res.row b2 42 [.int .u64 (0 : Nat), .int .u64 (0 : Nat), .int .i64 0, .int .u64 (0 : Nat), .int .i64 0, .int .i64 0]])) w1 (hw.frame0 hO)
  refine l_mv rfl ?_
  refine l_call (by kernel_rfl) rfl rfl (fun w' hw => ?_)
  refine (rplValue_s v b w' (by first | assumption | omega | (simp <;> omega) | (constructor <;> (first | omega | (simp only [LenOk]; omega) | (simp <;> omega)))) (hw.rd0 hb)).mono ?_
  rintro _ w1 ⟨s1_, q2_, op3_, le4_, am5_, sp6_, e7_, rfl, hf1_2, hO⟩
  refine (?_ : CL _ _ _ _ _ _ (Own w [] [Res.row b2 42 [.int .u64 (0 : Nat), .int .u64 (0 : Nat), .int .i64 0, .int .u64 (0 : Nat), .int .i64 0, .int .i64 0]])) w1 (hw.frame0 hO)
  refine l_ext (vs := [.agg #[.int .u64 (s1_ : Nat), .int .u64 (q2_ : Nat), .int .i64 op3_, .int .u64 (le4_ : Nat), .int .i64 am5_, .int .i64 sp6_], .int .i64 e7_]) rfl rfl rfl ?_
  refine l_ext (vs := [.agg #[.int .u64 (s1_ : Nat), .int .u64 (q2_ : Nat), .int .i64 op3_, .int .u64 (le4_ : Nat), .int .i64 am5_, .int .i64 sp6_], .int .i64 e7_]) rfl rfl rfl ?_
  refine l_stN (cs := [.int .u64 (0 : Nat), .int .u64 (0 : Nat), .int .i64 0, .int .u64 (0 : Nat), .int .i64 0, .int .i64 0]) (vs := [.int .u64 (s1_ : Nat), .int .u64 (q2_ : Nat), .int .i64 op3_, .int .u64 (le4_ : Nat), .int .i64 am5_, .int .i64 sp6_]) 0 rfl rfl rfl (by kernel_rfl) (allc_cons rfl (allc_cons rfl (allc_cons rfl (allc_cons rfl (allc_cons rfl (allc_cons rfl allc_nil)))))) (Nat.le_of_ble_eq_true rfl) ?_
  refine l_as rfl ?_
  refine l_end ?_
  exact c_ret (retc2 (cs := [.int .u64 (s1_ : Nat), .int .u64 (q2_ : Nat), .int .i64 op3_, .int .u64 (le4_ : Nat), .int .i64 am5_, .int .i64 sp6_]) (v := .int .i64 e7_) rfl rfl rfl (by kernel_rfl) (Own.rowCells (i := 0) rfl) (fun w' hw => ⟨s1_, q2_, op3_, le4_, am5_, sp6_, e7_, rfl, hf1_2, hw.drop⟩))
theorem rcmdRead_s (o : Nat) (v : Value) (b : List UInt8) (a : Nat) (bad : Bool) (w : World) (hl : LenOk b.length) (ha : a ≤ b.length) (hb : Rd w (fps [Res.row o 71 [v, .int .i64 (a : Nat), .bool bad]]) (Res.sl v b.length (b.map vb))) (hin : Own w (fps [Res.row o 71 [v, .int .i64 (a : Nat), .bool bad]]) [Res.row o 71 [v, .int .i64 (a : Nat), .bool bad]] w) : Rets Tryz.prog 28 #[.pointer (some ⟨o, 0, none⟩)] w fun u_ w' => ∃ (s : Nat) (q : Nat) (op : Nat) (k : ByteArray) (am : Int) (sp : Int) (le : Nat) (a' : Nat) (bad' : Bool), u_ = .agg #[.int .u64 (s : Nat), .int .u64 (q : Nat), .int .i64 (op : Nat), .string k, .int .i64 am, .int .i64 sp, .int .u64 (le : Nat)] ∧ RdS pCmd b a bad (⟨s, q, (op : Int), k, am, sp, le⟩ : CmdD) a' bad' ∧ k.size ≤ b.length ∧ Own w (fps [Res.row o 71 [v, .int .i64 (a : Nat), .bool bad]]) [Res.row o 71 [v, .int .i64 (a' : Nat), .bool bad']] w' := by
  refine fn_enter (args := [.pointer (some ⟨o, 0, none⟩)]) Tryz.func28 rfl Tryz.ntmps28 rfl (show Own w (fps [Res.row o 71 [v, .int .i64 (a : Nat), .bool bad]]) [Res.row o 71 [v, .int .i64 (a : Nat), .bool bad]] w from hin) ?_
  refine c_reg ?_
  refine l_new (v := .agg #[.int .u64 (0 : Nat), .int .u64 (0 : Nat), .int .i64 0, .string (⟨#[]⟩ : ByteArray), .int .i64 0, .int .i64 0, .int .u64 (0 : Nat)]) (by kernel_rfl) rfl (fun b2 => ?_)
  refine l_end ?_
  refine c_reg ?_
  refine l_bld (cs := [.int .u64 (0 : Nat), .int .u64 (0 : Nat), .int .i64 0, .string (⟨#[]⟩ : ByteArray), .int .i64 0, .int .i64 0, .int .u64 (0 : Nat)]) (z := [.int .u64 (0 : Nat), .int .u64 (0 : Nat), .int .i64 0, .string (⟨#[]⟩ : ByteArray), .int .i64 0, .int .i64 0, .int .u64 (0 : Nat)]) (pl := [(0, 1), (1, 1), (2, 1), (3, 1), (4, 1), (5, 1), (6, 1)]) (by kernel_rfl) (by kernel_rfl) rfl ?_
  refine l_new (v := .agg #[.int .u64 (0 : Nat), .int .u64 (0 : Nat), .int .i64 0, .string (⟨#[]⟩ : ByteArray), .int .i64 0, .int .i64 0, .int .u64 (0 : Nat)]) (by kernel_rfl) rfl (fun b3 => ?_)
  refine l_stN (cs := [.int .u64 (0 : Nat), .int .u64 (0 : Nat), .int .i64 0, .string (⟨#[]⟩ : ByteArray), .int .i64 0, .int .i64 0, .int .u64 (0 : Nat)]) (vs := [.int .u64 (0 : Nat), .int .u64 (0 : Nat), .int .i64 0, .string (⟨#[]⟩ : ByteArray), .int .i64 0, .int .i64 0, .int .u64 (0 : Nat)]) 2 rfl rfl rfl (by kernel_rfl) (allc_cons rfl (allc_cons rfl (allc_cons rfl (allc_cons rfl (allc_cons rfl (allc_cons rfl (allc_cons rfl allc_nil))))))) (Nat.le_of_ble_eq_true rfl) ?_
  refine l_end ?_
  refine c_reg ?_
  refine l_mv rfl ?_
  refine l_call (by kernel_rfl) rfl rfl (fun w' hw => ?_)
  refine (rinNum_s o v b a bad w' (by first | assumption | omega | (simp <;> omega) | (constructor <;> (first | omega | (simp only [LenOk]; omega) | (simp <;> omega)))) (by first | assumption | omega | (simp <;> omega) | (constructor <;> (first | omega | (simp only [LenOk]; omega) | (simp <;> omega)))) (hw.rdTo hb [0] rfl) (hw.give [0] rfl (by decide))).mono ?_
  rintro _ w1 ⟨n1_, a'2_, bad'3_, rfl, hf2_1, hf2_1_1, hO⟩
  have hq1 := hf2_1.le
  refine (?_ : CL _ _ _ _ _ _ (Own w (fps [Res.row o 71 [v, .int .i64 (a : Nat), .bool bad]]) [Res.row b2 36 [.int .u64 (0 : Nat), .int .u64 (0 : Nat), .int .i64 0, .string (⟨#[]⟩ : ByteArray), .int .i64 0, .int .i64 0, .int .u64 (0 : Nat)], Res.row b3 36 [.int .u64 (0 : Nat), .int .u64 (0 : Nat), .int .i64 0, .string (⟨#[]⟩ : ByteArray), .int .i64 0, .int .i64 0, .int .u64 (0 : Nat)], Res.row o 71 [v, .int .i64 (a'2_ : Nat), .bool bad'3_]])) w1 (hw.frameL [0] rfl hO)
  refine l_fld (o := 0) rfl (by kernel_rfl) rfl ?_
  refine l_st (cs := [.int .u64 (0 : Nat), .int .u64 (0 : Nat), .int .i64 0, .string (⟨#[]⟩ : ByteArray), .int .i64 0, .int .i64 0, .int .u64 (0 : Nat)]) 1 rfl rfl rfl (by kernel_rfl) rfl (Nat.le_of_ble_eq_true rfl) ?_
  refine l_end ?_
  refine c_reg ?_
  refine l_mv rfl ?_
  refine l_call (by kernel_rfl) rfl rfl (fun w' hw => ?_)
  refine (rinNum_s o v b a'2_ bad'3_ w' (by first | assumption | omega | (simp <;> omega) | (constructor <;> (first | omega | (simp only [LenOk]; omega) | (simp <;> omega)))) (by first | assumption | omega | (simp <;> omega) | (constructor <;> (first | omega | (simp only [LenOk]; omega) | (simp <;> omega)))) (hw.rdTo hb [2] rfl) (hw.give [2] rfl (by decide))).mono ?_
  rintro _ w1 ⟨n4_, a'5_, bad'6_, rfl, hf3_1, hf3_1_1, hO⟩
  have hq2 := hf3_1.le
  refine (?_ : CL _ _ _ _ _ _ (Own w (fps [Res.row o 71 [v, .int .i64 (a : Nat), .bool bad]]) [Res.row b2 36 [.int .u64 (0 : Nat), .int .u64 (0 : Nat), .int .i64 0, .string (⟨#[]⟩ : ByteArray), .int .i64 0, .int .i64 0, .int .u64 (0 : Nat)], Res.row b3 36 [.int .u64 (n1_ : Nat), .int .u64 (0 : Nat), .int .i64 0, .string (⟨#[]⟩ : ByteArray), .int .i64 0, .int .i64 0, .int .u64 (0 : Nat)], Res.row o 71 [v, .int .i64 (a'5_ : Nat), .bool bad'6_]])) w1 (hw.frameL [2] rfl hO)
  refine l_fld (o := 1) rfl (by kernel_rfl) rfl ?_
  refine l_st (cs := [.int .u64 (n1_ : Nat), .int .u64 (0 : Nat), .int .i64 0, .string (⟨#[]⟩ : ByteArray), .int .i64 0, .int .i64 0, .int .u64 (0 : Nat)]) 1 rfl rfl rfl (by kernel_rfl) rfl (Nat.le_of_ble_eq_true rfl) ?_
  refine l_end ?_
  refine c_reg ?_
  refine l_mv rfl ?_
  refine l_call (by kernel_rfl) rfl rfl (fun w' hw => ?_)
  refine (rinInt_s o v b a'5_ bad'6_ 5 w' (by first | assumption | omega | (simp <;> omega) | (constructor <;> (first | omega | (simp only [LenOk]; omega) | (simp <;> omega)))) (by first | assumption | omega | (simp <;> omega) | (constructor <;> (first | omega | (simp only [LenOk]; omega) | (simp <;> omega)))) (by first | assumption | omega | (simp <;> omega) | (constructor <;> (first | omega | (simp only [LenOk]; omega) | (simp <;> omega)))) (hw.rdTo hb [2] rfl) (hw.give [2] rfl (by decide))).mono ?_
  rintro _ w1 ⟨n7_, a'8_, bad'9_, rfl, hf4_1, hf4_1_1, hO⟩
  have hq3 := hf4_1.le
  refine (?_ : CL _ _ _ _ _ _ (Own w (fps [Res.row o 71 [v, .int .i64 (a : Nat), .bool bad]]) [Res.row b2 36 [.int .u64 (0 : Nat), .int .u64 (0 : Nat), .int .i64 0, .string (⟨#[]⟩ : ByteArray), .int .i64 0, .int .i64 0, .int .u64 (0 : Nat)], Res.row b3 36 [.int .u64 (n1_ : Nat), .int .u64 (n4_ : Nat), .int .i64 0, .string (⟨#[]⟩ : ByteArray), .int .i64 0, .int .i64 0, .int .u64 (0 : Nat)], Res.row o 71 [v, .int .i64 (a'8_ : Nat), .bool bad'9_]])) w1 (hw.frameL [2] rfl hO)
  refine l_fld (o := 2) rfl (by kernel_rfl) rfl ?_
  refine l_st (cs := [.int .u64 (n1_ : Nat), .int .u64 (n4_ : Nat), .int .i64 0, .string (⟨#[]⟩ : ByteArray), .int .i64 0, .int .i64 0, .int .u64 (0 : Nat)]) 1 rfl rfl rfl (by kernel_rfl) rfl (Nat.le_of_ble_eq_true rfl) ?_
  refine l_end ?_
  refine c_reg ?_
  refine l_mv rfl ?_
  refine l_call (by kernel_rfl) rfl rfl (fun w' hw => ?_)
  refine (rinData_s o v b a'8_ bad'9_ w' (by first | assumption | omega | (simp <;> omega) | (constructor <;> (first | omega | (simp only [LenOk]; omega) | (simp <;> omega)))) (by first | assumption | omega | (simp <;> omega) | (constructor <;> (first | omega | (simp only [LenOk]; omega) | (simp <;> omega)))) (hw.rdTo hb [2] rfl) (hw.give [2] rfl (by decide))).mono ?_
  rintro r10_ w1 ⟨_, d11_, a'12_, bad'13_, rfl, hf5_1, hf5_1_1, hO⟩
  have hq4 := hf5_1.le
  refine (?_ : CL _ _ _ _ _ _ (Own w (fps [Res.row o 71 [v, .int .i64 (a : Nat), .bool bad]]) [Res.row b2 36 [.int .u64 (0 : Nat), .int .u64 (0 : Nat), .int .i64 0, .string (⟨#[]⟩ : ByteArray), .int .i64 0, .int .i64 0, .int .u64 (0 : Nat)], Res.row b3 36 [.int .u64 (n1_ : Nat), .int .u64 (n4_ : Nat), .int .i64 (n7_ : Nat), .string (⟨#[]⟩ : ByteArray), .int .i64 0, .int .i64 0, .int .u64 (0 : Nat)], Res.row o 71 [v, .int .i64 (a'12_ : Nat), .bool bad'13_], Res.vec 5 1 r10_ d11_.length (d11_.map vb)])) w1 (hw.frameL [2] rfl hO)
  refine l_b2s (bs := d11_) (by kernel_rfl) (by kernel_rfl) rfl (fun w' hw' => Vec.sl (Own.holds hw' 3 _ rfl)) rfl ?_
  refine l_fld (o := 3) rfl (by kernel_rfl) rfl ?_
  refine l_st (cs := [.int .u64 (n1_ : Nat), .int .u64 (n4_ : Nat), .int .i64 (n7_ : Nat), .string (⟨#[]⟩ : ByteArray), .int .i64 0, .int .i64 0, .int .u64 (0 : Nat)]) 1 rfl rfl rfl (by kernel_rfl) rfl (Nat.le_of_ble_eq_true rfl) ?_
  refine l_end ?_
  refine c_reg ?_
  refine l_mv rfl ?_
  refine l_call (by kernel_rfl) rfl rfl (fun w' hw => ?_)
  refine (rinNum_s o v b a'12_ bad'13_ w' (by first | assumption | omega | (simp <;> omega) | (constructor <;> (first | omega | (simp only [LenOk]; omega) | (simp <;> omega)))) (by first | assumption | omega | (simp <;> omega) | (constructor <;> (first | omega | (simp only [LenOk]; omega) | (simp <;> omega)))) (hw.rdTo hb [2] rfl) (hw.give [2] rfl (by decide))).mono ?_
  rintro _ w1 ⟨n14_, a'15_, bad'16_, rfl, hf6_1, hf6_1_1, hO⟩
  have hq5 := hf6_1.le
  refine (?_ : CL _ _ _ _ _ _ (Own w (fps [Res.row o 71 [v, .int .i64 (a : Nat), .bool bad]]) [Res.row b2 36 [.int .u64 (0 : Nat), .int .u64 (0 : Nat), .int .i64 0, .string (⟨#[]⟩ : ByteArray), .int .i64 0, .int .i64 0, .int .u64 (0 : Nat)], Res.row b3 36 [.int .u64 (n1_ : Nat), .int .u64 (n4_ : Nat), .int .i64 (n7_ : Nat), .string (⟨d11_.toArray⟩ : ByteArray), .int .i64 0, .int .i64 0, .int .u64 (0 : Nat)], Res.vec 5 1 r10_ d11_.length (d11_.map vb), Res.row o 71 [v, .int .i64 (a'15_ : Nat), .bool bad'16_]])) w1 (hw.frameL [2] rfl hO)
  refine l_cvt (c := toI n14_) (by kernel_rfl) rfl (wrap_toI hf6_1_1) rfl ?_ (by kernel_rfl)
  refine l_fld (o := 4) rfl (by kernel_rfl) rfl ?_
  refine l_st (cs := [.int .u64 (n1_ : Nat), .int .u64 (n4_ : Nat), .int .i64 (n7_ : Nat), .string (⟨d11_.toArray⟩ : ByteArray), .int .i64 0, .int .i64 0, .int .u64 (0 : Nat)]) 1 rfl rfl rfl (by kernel_rfl) rfl (Nat.le_of_ble_eq_true rfl) ?_
  refine l_end ?_
  refine c_reg ?_
  refine l_mv rfl ?_
  refine l_call (by kernel_rfl) rfl rfl (fun w' hw => ?_)
  refine (rinNum_s o v b a'15_ bad'16_ w' (by first | assumption | omega | (simp <;> omega) | (constructor <;> (first | omega | (simp only [LenOk]; omega) | (simp <;> omega)))) (by first | assumption | omega | (simp <;> omega) | (constructor <;> (first | omega | (simp only [LenOk]; omega) | (simp <;> omega)))) (hw.rdTo hb [3] rfl) (hw.give [3] rfl (by decide))).mono ?_
  rintro _ w1 ⟨n17_, a'18_, bad'19_, rfl, hf7_1, hf7_1_1, hO⟩
  have hq6 := hf7_1.le
  refine (?_ : CL _ _ _ _ _ _ (Own w (fps [Res.row o 71 [v, .int .i64 (a : Nat), .bool bad]]) [Res.row b2 36 [.int .u64 (0 : Nat), .int .u64 (0 : Nat), .int .i64 0, .string (⟨#[]⟩ : ByteArray), .int .i64 0, .int .i64 0, .int .u64 (0 : Nat)], Res.row b3 36 [.int .u64 (n1_ : Nat), .int .u64 (n4_ : Nat), .int .i64 (n7_ : Nat), .string (⟨d11_.toArray⟩ : ByteArray), .int .i64 (toI n14_), .int .i64 0, .int .u64 (0 : Nat)], Res.vec 5 1 r10_ d11_.length (d11_.map vb), Res.row o 71 [v, .int .i64 (a'18_ : Nat), .bool bad'19_]])) w1 (hw.frameL [3] rfl hO)
  refine l_cvt (c := toI n17_) (by kernel_rfl) rfl (wrap_toI hf7_1_1) rfl ?_ (by kernel_rfl)
  refine l_fld (o := 5) rfl (by kernel_rfl) rfl ?_
  refine l_st (cs := [.int .u64 (n1_ : Nat), .int .u64 (n4_ : Nat), .int .i64 (n7_ : Nat), .string (⟨d11_.toArray⟩ : ByteArray), .int .i64 (toI n14_), .int .i64 0, .int .u64 (0 : Nat)]) 1 rfl rfl rfl (by kernel_rfl) rfl (Nat.le_of_ble_eq_true rfl) ?_
  refine l_end ?_
  refine c_reg ?_
  refine l_mv rfl ?_
  refine l_call (by kernel_rfl) rfl rfl (fun w' hw => ?_)
  refine (rinNum_s o v b a'18_ bad'19_ w' (by first | assumption | omega | (simp <;> omega) | (constructor <;> (first | omega | (simp only [LenOk]; omega) | (simp <;> omega)))) (by first | assumption | omega | (simp <;> omega) | (constructor <;> (first | omega | (simp only [LenOk]; omega) | (simp <;> omega)))) (hw.rdTo hb [3] rfl) (hw.give [3] rfl (by decide))).mono ?_
  rintro _ w1 ⟨n20_, a'21_, bad'22_, rfl, hf8_1, hf8_1_1, hO⟩
  refine (?_ : CL _ _ _ _ _ _ (Own w (fps [Res.row o 71 [v, .int .i64 (a : Nat), .bool bad]]) [Res.row b2 36 [.int .u64 (0 : Nat), .int .u64 (0 : Nat), .int .i64 0, .string (⟨#[]⟩ : ByteArray), .int .i64 0, .int .i64 0, .int .u64 (0 : Nat)], Res.row b3 36 [.int .u64 (n1_ : Nat), .int .u64 (n4_ : Nat), .int .i64 (n7_ : Nat), .string (⟨d11_.toArray⟩ : ByteArray), .int .i64 (toI n14_), .int .i64 (toI n17_), .int .u64 (0 : Nat)], Res.vec 5 1 r10_ d11_.length (d11_.map vb), Res.row o 71 [v, .int .i64 (a'21_ : Nat), .bool bad'22_]])) w1 (hw.frameL [3] rfl hO)
  refine l_fld (o := 6) rfl (by kernel_rfl) rfl ?_
  refine l_st (cs := [.int .u64 (n1_ : Nat), .int .u64 (n4_ : Nat), .int .i64 (n7_ : Nat), .string (⟨d11_.toArray⟩ : ByteArray), .int .i64 (toI n14_), .int .i64 (toI n17_), .int .u64 (0 : Nat)]) 1 rfl rfl rfl (by kernel_rfl) rfl (Nat.le_of_ble_eq_true rfl) ?_
  refine l_end ?_
  refine c_reg ?_
  refine l_ldr (cs := [.int .u64 (n1_ : Nat), .int .u64 (n4_ : Nat), .int .i64 (n7_ : Nat), .string (⟨d11_.toArray⟩ : ByteArray), .int .i64 (toI n14_), .int .i64 (toI n17_), .int .u64 (n20_ : Nat)]) 1 rfl rfl (by kernel_rfl) rfl ?_
  refine l_stN (cs := [.int .u64 (0 : Nat), .int .u64 (0 : Nat), .int .i64 0, .string (⟨#[]⟩ : ByteArray), .int .i64 0, .int .i64 0, .int .u64 (0 : Nat)]) (vs := [.int .u64 (n1_ : Nat), .int .u64 (n4_ : Nat), .int .i64 (n7_ : Nat), .string (⟨d11_.toArray⟩ : ByteArray), .int .i64 (toI n14_), .int .i64 (toI n17_), .int .u64 (n20_ : Nat)]) 0 rfl rfl rfl (by kernel_rfl) (allc_cons rfl (allc_cons rfl (allc_cons rfl (allc_cons rfl (allc_cons rfl (allc_cons rfl (allc_cons rfl allc_nil))))))) (Nat.le_of_ble_eq_true rfl) ?_
  refine l_end ?_
  exact c_ret (retc (cs := [.int .u64 (n1_ : Nat), .int .u64 (n4_ : Nat), .int .i64 (n7_ : Nat), .string (⟨d11_.toArray⟩ : ByteArray), .int .i64 (toI n14_), .int .i64 (toI n17_), .int .u64 (n20_ : Nat)]) rfl rfl (by kernel_rfl) (Own.rowCells (i := 0) rfl) (fun w' hw => ⟨n1_, n4_, n7_, (⟨d11_.toArray⟩ : ByteArray), toI n14_, toI n17_, n20_, a'21_, bad'22_, rfl, hf2_1.bind (hf3_1.bind (RdS.bind hf4_1.int (hf5_1.bind (hf6_1.bind (hf7_1.bind (hf8_1.bind (RdS.pure _ hf8_1.le))))))), hf5_1_1, hw.sel [3] rfl (by decide)⟩))
theorem rrplRead_s (o : Nat) (v : Value) (b : List UInt8) (a : Nat) (bad : Bool) (w : World) (hl : LenOk b.length) (ha : a ≤ b.length) (hb : Rd w (fps [Res.row o 71 [v, .int .i64 (a : Nat), .bool bad]]) (Res.sl v b.length (b.map vb))) (hin : Own w (fps [Res.row o 71 [v, .int .i64 (a : Nat), .bool bad]]) [Res.row o 71 [v, .int .i64 (a : Nat), .bool bad]] w) : Rets Tryz.prog 32 #[.pointer (some ⟨o, 0, none⟩)] w fun u_ w' => ∃ (s : Nat) (q : Nat) (op : Nat) (le : Nat) (am : Int) (sp : Int) (a' : Nat) (bad' : Bool), u_ = .agg #[.int .u64 (s : Nat), .int .u64 (q : Nat), .int .i64 (op : Nat), .int .u64 (le : Nat), .int .i64 am, .int .i64 sp] ∧ RdS pRpl b a bad (⟨s, q, (op : Int), le, am, sp⟩ : RepD) a' bad' ∧ Own w (fps [Res.row o 71 [v, .int .i64 (a : Nat), .bool bad]]) [Res.row o 71 [v, .int .i64 (a' : Nat), .bool bad']] w' := by
  refine fn_enter (args := [.pointer (some ⟨o, 0, none⟩)]) Tryz.func32 rfl Tryz.ntmps32 rfl (show Own w (fps [Res.row o 71 [v, .int .i64 (a : Nat), .bool bad]]) [Res.row o 71 [v, .int .i64 (a : Nat), .bool bad]] w from hin) ?_
  refine c_reg ?_
  refine l_new (v := .agg #[.int .u64 (0 : Nat), .int .u64 (0 : Nat), .int .i64 0, .int .u64 (0 : Nat), .int .i64 0, .int .i64 0]) (by kernel_rfl) rfl (fun b2 => ?_)
  refine l_end ?_
  refine c_reg ?_
  refine l_bld (cs := [.int .u64 (0 : Nat), .int .u64 (0 : Nat), .int .i64 0, .int .u64 (0 : Nat), .int .i64 0, .int .i64 0]) (z := [.int .u64 (0 : Nat), .int .u64 (0 : Nat), .int .i64 0, .int .u64 (0 : Nat), .int .i64 0, .int .i64 0]) (pl := [(0, 1), (1, 1), (2, 1), (3, 1), (4, 1), (5, 1)]) (by kernel_rfl) (by kernel_rfl) rfl ?_
  refine l_new (v := .agg #[.int .u64 (0 : Nat), .int .u64 (0 : Nat), .int .i64 0, .int .u64 (0 : Nat), .int .i64 0, .int .i64 0]) (by kernel_rfl) rfl (fun b3 => ?_)
  refine l_stN (cs := [.int .u64 (0 : Nat), .int .u64 (0 : Nat), .int .i64 0, .int .u64 (0 : Nat), .int .i64 0, .int .i64 0]) (vs := [.int .u64 (0 : Nat), .int .u64 (0 : Nat), .int .i64 0, .int .u64 (0 : Nat), .int .i64 0, .int .i64 0]) 2 rfl rfl rfl (by kernel_rfl) (allc_cons rfl (allc_cons rfl (allc_cons rfl (allc_cons rfl (allc_cons rfl (allc_cons rfl allc_nil)))))) (Nat.le_of_ble_eq_true rfl) ?_
  refine l_end ?_
  refine c_reg ?_
  refine l_mv rfl ?_
  refine l_call (by kernel_rfl) rfl rfl (fun w' hw => ?_)
  refine (rinNum_s o v b a bad w' (by first | assumption | omega | (simp <;> omega) | (constructor <;> (first | omega | (simp only [LenOk]; omega) | (simp <;> omega)))) (by first | assumption | omega | (simp <;> omega) | (constructor <;> (first | omega | (simp only [LenOk]; omega) | (simp <;> omega)))) (hw.rdTo hb [0] rfl) (hw.give [0] rfl (by decide))).mono ?_
  rintro _ w1 ⟨n1_, a'2_, bad'3_, rfl, hf2_1, hf2_1_1, hO⟩
  have hq1 := hf2_1.le
  refine (?_ : CL _ _ _ _ _ _ (Own w (fps [Res.row o 71 [v, .int .i64 (a : Nat), .bool bad]]) [Res.row b2 42 [.int .u64 (0 : Nat), .int .u64 (0 : Nat), .int .i64 0, .int .u64 (0 : Nat), .int .i64 0, .int .i64 0], Res.row b3 42 [.int .u64 (0 : Nat), .int .u64 (0 : Nat), .int .i64 0, .int .u64 (0 : Nat), .int .i64 0, .int .i64 0], Res.row o 71 [v, .int .i64 (a'2_ : Nat), .bool bad'3_]])) w1 (hw.frameL [0] rfl hO)
  refine l_fld (o := 0) rfl (by kernel_rfl) rfl ?_
  refine l_st (cs := [.int .u64 (0 : Nat), .int .u64 (0 : Nat), .int .i64 0, .int .u64 (0 : Nat), .int .i64 0, .int .i64 0]) 1 rfl rfl rfl (by kernel_rfl) rfl (Nat.le_of_ble_eq_true rfl) ?_
  refine l_end ?_
  refine c_reg ?_
  refine l_mv rfl ?_
  refine l_call (by kernel_rfl) rfl rfl (fun w' hw => ?_)
  refine (rinNum_s o v b a'2_ bad'3_ w' (by first | assumption | omega | (simp <;> omega) | (constructor <;> (first | omega | (simp only [LenOk]; omega) | (simp <;> omega)))) (by first | assumption | omega | (simp <;> omega) | (constructor <;> (first | omega | (simp only [LenOk]; omega) | (simp <;> omega)))) (hw.rdTo hb [2] rfl) (hw.give [2] rfl (by decide))).mono ?_
  rintro _ w1 ⟨n4_, a'5_, bad'6_, rfl, hf3_1, hf3_1_1, hO⟩
  have hq2 := hf3_1.le
  refine (?_ : CL _ _ _ _ _ _ (Own w (fps [Res.row o 71 [v, .int .i64 (a : Nat), .bool bad]]) [Res.row b2 42 [.int .u64 (0 : Nat), .int .u64 (0 : Nat), .int .i64 0, .int .u64 (0 : Nat), .int .i64 0, .int .i64 0], Res.row b3 42 [.int .u64 (n1_ : Nat), .int .u64 (0 : Nat), .int .i64 0, .int .u64 (0 : Nat), .int .i64 0, .int .i64 0], Res.row o 71 [v, .int .i64 (a'5_ : Nat), .bool bad'6_]])) w1 (hw.frameL [2] rfl hO)
  refine l_fld (o := 1) rfl (by kernel_rfl) rfl ?_
  refine l_st (cs := [.int .u64 (n1_ : Nat), .int .u64 (0 : Nat), .int .i64 0, .int .u64 (0 : Nat), .int .i64 0, .int .i64 0]) 1 rfl rfl rfl (by kernel_rfl) rfl (Nat.le_of_ble_eq_true rfl) ?_
  refine l_end ?_
  refine c_reg ?_
  refine l_mv rfl ?_
  refine l_call (by kernel_rfl) rfl rfl (fun w' hw => ?_)
  refine (rinInt_s o v b a'5_ bad'6_ 20 w' (by first | assumption | omega | (simp <;> omega) | (constructor <;> (first | omega | (simp only [LenOk]; omega) | (simp <;> omega)))) (by first | assumption | omega | (simp <;> omega) | (constructor <;> (first | omega | (simp only [LenOk]; omega) | (simp <;> omega)))) (by first | assumption | omega | (simp <;> omega) | (constructor <;> (first | omega | (simp only [LenOk]; omega) | (simp <;> omega)))) (hw.rdTo hb [2] rfl) (hw.give [2] rfl (by decide))).mono ?_
  rintro _ w1 ⟨n7_, a'8_, bad'9_, rfl, hf4_1, hf4_1_1, hO⟩
  have hq3 := hf4_1.le
  refine (?_ : CL _ _ _ _ _ _ (Own w (fps [Res.row o 71 [v, .int .i64 (a : Nat), .bool bad]]) [Res.row b2 42 [.int .u64 (0 : Nat), .int .u64 (0 : Nat), .int .i64 0, .int .u64 (0 : Nat), .int .i64 0, .int .i64 0], Res.row b3 42 [.int .u64 (n1_ : Nat), .int .u64 (n4_ : Nat), .int .i64 0, .int .u64 (0 : Nat), .int .i64 0, .int .i64 0], Res.row o 71 [v, .int .i64 (a'8_ : Nat), .bool bad'9_]])) w1 (hw.frameL [2] rfl hO)
  refine l_fld (o := 2) rfl (by kernel_rfl) rfl ?_
  refine l_st (cs := [.int .u64 (n1_ : Nat), .int .u64 (n4_ : Nat), .int .i64 0, .int .u64 (0 : Nat), .int .i64 0, .int .i64 0]) 1 rfl rfl rfl (by kernel_rfl) rfl (Nat.le_of_ble_eq_true rfl) ?_
  refine l_end ?_
  refine c_reg ?_
  refine l_mv rfl ?_
  refine l_call (by kernel_rfl) rfl rfl (fun w' hw => ?_)
  refine (rinNum_s o v b a'8_ bad'9_ w' (by first | assumption | omega | (simp <;> omega) | (constructor <;> (first | omega | (simp only [LenOk]; omega) | (simp <;> omega)))) (by first | assumption | omega | (simp <;> omega) | (constructor <;> (first | omega | (simp only [LenOk]; omega) | (simp <;> omega)))) (hw.rdTo hb [2] rfl) (hw.give [2] rfl (by decide))).mono ?_
  rintro _ w1 ⟨n10_, a'11_, bad'12_, rfl, hf5_1, hf5_1_1, hO⟩
  have hq4 := hf5_1.le
  refine (?_ : CL _ _ _ _ _ _ (Own w (fps [Res.row o 71 [v, .int .i64 (a : Nat), .bool bad]]) [Res.row b2 42 [.int .u64 (0 : Nat), .int .u64 (0 : Nat), .int .i64 0, .int .u64 (0 : Nat), .int .i64 0, .int .i64 0], Res.row b3 42 [.int .u64 (n1_ : Nat), .int .u64 (n4_ : Nat), .int .i64 (n7_ : Nat), .int .u64 (0 : Nat), .int .i64 0, .int .i64 0], Res.row o 71 [v, .int .i64 (a'11_ : Nat), .bool bad'12_]])) w1 (hw.frameL [2] rfl hO)
  refine l_fld (o := 3) rfl (by kernel_rfl) rfl ?_
  refine l_st (cs := [.int .u64 (n1_ : Nat), .int .u64 (n4_ : Nat), .int .i64 (n7_ : Nat), .int .u64 (0 : Nat), .int .i64 0, .int .i64 0]) 1 rfl rfl rfl (by kernel_rfl) rfl (Nat.le_of_ble_eq_true rfl) ?_
  refine l_end ?_
  refine c_reg ?_
  refine l_mv rfl ?_
  refine l_call (by kernel_rfl) rfl rfl (fun w' hw => ?_)
  refine (rinNum_s o v b a'11_ bad'12_ w' (by first | assumption | omega | (simp <;> omega) | (constructor <;> (first | omega | (simp only [LenOk]; omega) | (simp <;> omega)))) (by first | assumption | omega | (simp <;> omega) | (constructor <;> (first | omega | (simp only [LenOk]; omega) | (simp <;> omega)))) (hw.rdTo hb [2] rfl) (hw.give [2] rfl (by decide))).mono ?_
  rintro _ w1 ⟨n13_, a'14_, bad'15_, rfl, hf6_1, hf6_1_1, hO⟩
  have hq5 := hf6_1.le
  refine (?_ : CL _ _ _ _ _ _ (Own w (fps [Res.row o 71 [v, .int .i64 (a : Nat), .bool bad]]) [Res.row b2 42 [.int .u64 (0 : Nat), .int .u64 (0 : Nat), .int .i64 0, .int .u64 (0 : Nat), .int .i64 0, .int .i64 0], Res.row b3 42 [.int .u64 (n1_ : Nat), .int .u64 (n4_ : Nat), .int .i64 (n7_ : Nat), .int .u64 (n10_ : Nat), .int .i64 0, .int .i64 0], Res.row o 71 [v, .int .i64 (a'14_ : Nat), .bool bad'15_]])) w1 (hw.frameL [2] rfl hO)
  refine l_cvt (c := toI n13_) (by kernel_rfl) rfl (wrap_toI hf6_1_1) rfl ?_ (by kernel_rfl)
  refine l_fld (o := 4) rfl (by kernel_rfl) rfl ?_
  refine l_st (cs := [.int .u64 (n1_ : Nat), .int .u64 (n4_ : Nat), .int .i64 (n7_ : Nat), .int .u64 (n10_ : Nat), .int .i64 0, .int .i64 0]) 1 rfl rfl rfl (by kernel_rfl) rfl (Nat.le_of_ble_eq_true rfl) ?_
  refine l_end ?_
  refine c_reg ?_
  refine l_mv rfl ?_
  refine l_call (by kernel_rfl) rfl rfl (fun w' hw => ?_)
  refine (rinNum_s o v b a'14_ bad'15_ w' (by first | assumption | omega | (simp <;> omega) | (constructor <;> (first | omega | (simp only [LenOk]; omega) | (simp <;> omega)))) (by first | assumption | omega | (simp <;> omega) | (constructor <;> (first | omega | (simp only [LenOk]; omega) | (simp <;> omega)))) (hw.rdTo hb [2] rfl) (hw.give [2] rfl (by decide))).mono ?_
  rintro _ w1 ⟨n16_, a'17_, bad'18_, rfl, hf7_1, hf7_1_1, hO⟩
  refine (?_ : CL _ _ _ _ _ _ (Own w (fps [Res.row o 71 [v, .int .i64 (a : Nat), .bool bad]]) [Res.row b2 42 [.int .u64 (0 : Nat), .int .u64 (0 : Nat), .int .i64 0, .int .u64 (0 : Nat), .int .i64 0, .int .i64 0], Res.row b3 42 [.int .u64 (n1_ : Nat), .int .u64 (n4_ : Nat), .int .i64 (n7_ : Nat), .int .u64 (n10_ : Nat), .int .i64 (toI n13_), .int .i64 0], Res.row o 71 [v, .int .i64 (a'17_ : Nat), .bool bad'18_]])) w1 (hw.frameL [2] rfl hO)
  refine l_cvt (c := toI n16_) (by kernel_rfl) rfl (wrap_toI hf7_1_1) rfl ?_ (by kernel_rfl)
  refine l_fld (o := 5) rfl (by kernel_rfl) rfl ?_
  refine l_st (cs := [.int .u64 (n1_ : Nat), .int .u64 (n4_ : Nat), .int .i64 (n7_ : Nat), .int .u64 (n10_ : Nat), .int .i64 (toI n13_), .int .i64 0]) 1 rfl rfl rfl (by kernel_rfl) rfl (Nat.le_of_ble_eq_true rfl) ?_
  refine l_end ?_
  refine c_reg ?_
  refine l_ldr (cs := [.int .u64 (n1_ : Nat), .int .u64 (n4_ : Nat), .int .i64 (n7_ : Nat), .int .u64 (n10_ : Nat), .int .i64 (toI n13_), .int .i64 (toI n16_)]) 1 rfl rfl (by kernel_rfl) rfl ?_
  refine l_stN (cs := [.int .u64 (0 : Nat), .int .u64 (0 : Nat), .int .i64 0, .int .u64 (0 : Nat), .int .i64 0, .int .i64 0]) (vs := [.int .u64 (n1_ : Nat), .int .u64 (n4_ : Nat), .int .i64 (n7_ : Nat), .int .u64 (n10_ : Nat), .int .i64 (toI n13_), .int .i64 (toI n16_)]) 0 rfl rfl rfl (by kernel_rfl) (allc_cons rfl (allc_cons rfl (allc_cons rfl (allc_cons rfl (allc_cons rfl (allc_cons rfl allc_nil)))))) (Nat.le_of_ble_eq_true rfl) ?_
  refine l_end ?_
  exact c_ret (retc (cs := [.int .u64 (n1_ : Nat), .int .u64 (n4_ : Nat), .int .i64 (n7_ : Nat), .int .u64 (n10_ : Nat), .int .i64 (toI n13_), .int .i64 (toI n16_)]) rfl rfl (by kernel_rfl) (Own.rowCells (i := 0) rfl) (fun w' hw => ⟨n1_, n4_, n7_, n10_, toI n13_, toI n16_, a'17_, bad'18_, rfl, hf2_1.bind (hf3_1.bind (RdS.bind hf4_1.int (hf5_1.bind (hf6_1.bind (hf7_1.bind (RdS.pure _ hf7_1.le)))))), hw.sel [2] rfl (by decide)⟩))
theorem rcmdOK_s (x : CmdD) (w : World) (hx : x.key.size ≤ 1048576) : Rets Tryz.prog 29 #[.agg (CmdD.cells x).toArray] w fun u_ w' => u_ = .bool (decide x.ok) ∧ Own w [] [] w' := by
  refine fn_enter (args := [.agg (CmdD.cells x).toArray]) Tryz.func29 rfl Tryz.ntmps29 rfl (Own.start w) ?_
  refine c_reg ?_
  refine l_box rfl rfl (fun b1 => ?_)
  refine l_as rfl ?_
  refine l_end ?_
  refine c_reg ?_
  refine l_fld (o := 2) rfl (by kernel_rfl) rfl ?_
  refine l_ldo 0 (v := .int .i64 x.op) rfl rfl rfl (by kernel_rfl) rfl ?_
  refine l_geq rfl rfl rfl ?_
  refine l_mv rfl ?_
  refine l_band (q := 1 ≤ x.op) 3 3 [9, 8, 7] (x.op ≤ 5) rfl rfl rfl rfl rfl rfl trivial rfl (fun h1_3 => ?_) (fun g1_7 => ?_)
  ·
    refine l_on rfl (gT h1_3) ?_
    refine l_fld (o := 2) rfl (by kernel_rfl) rfl ?_
    refine l_on rfl (gT h1_3) ?_
    refine l_ldo 0 (v := .int .i64 x.op) rfl rfl rfl (by kernel_rfl) rfl ?_
    refine l_on rfl (gT h1_3) ?_
    refine l_leq rfl rfl rfl ?_
    exact l_nil (fun w' hw => ⟨(by repeat (first | exact Out.refl _ _ | refine Out.upd rfl ?_ | refine Out.msk rfl ?_)), rfl, hw⟩)
  refine l_mv rfl ?_
  refine l_band (q := (1 ≤ x.op) ∧ (x.op ≤ 5)) 4 8 [15, 14, 13, 12] (((x.key.size : Nat) : Int) ≤ 64) rfl rfl rfl rfl rfl rfl trivial rfl (fun h1_8 => ?_) (fun g1_13 => ?_)
  ·
    refine l_on rfl (gT h1_8) ?_
    refine l_fld (o := 3) rfl (by kernel_rfl) rfl ?_
    refine l_on rfl (gT h1_8) ?_
    refine l_ldo 0 (v := .string x.key) rfl rfl rfl (by kernel_rfl) rfl ?_
    refine l_on rfl (gT h1_8) ?_
    refine l_lens (by kernel_rfl) rfl rfl ?_
    refine l_on rfl (gT h1_8) ?_
    refine l_leq rfl rfl rfl ?_
    exact l_nil (fun w' hw => ⟨(by repeat (first | exact Out.refl _ _ | refine Out.upd rfl ?_ | refine Out.msk rfl ?_)), rfl, hw⟩)
  refine l_as rfl ?_
  refine l_end ?_
  exact c_ret (ret1 (v := .bool (decide (((1 ≤ x.op) ∧ (x.op ≤ 5)) ∧ (((x.key.size : Nat) : Int) ≤ 64)))) rfl rfl (fun w' hw => ⟨(by congr 1; exact decide_eq_decide.2 (by unfold CmdD.ok; omega)), hw.drop⟩))
theorem rrplOK_s (x : RepD) (w : World) : Rets Tryz.prog 33 #[.agg (RepD.cells x).toArray] w fun u_ w' => u_ = .bool (decide x.ok) ∧ Own w [] [] w' := by
  refine fn_enter (args := [.agg (RepD.cells x).toArray]) Tryz.func33 rfl Tryz.ntmps33 rfl (Own.start w) ?_
  refine c_reg ?_
  refine l_box rfl rfl (fun b1 => ?_)
  refine l_as rfl ?_
  refine l_end ?_
  refine c_reg ?_
  refine l_fld (o := 2) rfl (by kernel_rfl) rfl ?_
  refine l_ldo 0 (v := .int .i64 x.e) rfl rfl rfl (by kernel_rfl) rfl ?_
  refine l_geq rfl rfl rfl ?_
  refine l_mv rfl ?_
  refine l_band (q := 0 ≤ x.e) 3 3 [9, 8, 7] (x.e ≤ 20) rfl rfl rfl rfl rfl rfl trivial rfl (fun h1_3 => ?_) (fun g1_7 => ?_)
  ·
    refine l_on rfl (gT h1_3) ?_
    refine l_fld (o := 2) rfl (by kernel_rfl) rfl ?_
    refine l_on rfl (gT h1_3) ?_
    refine l_ldo 0 (v := .int .i64 x.e) rfl rfl rfl (by kernel_rfl) rfl ?_
    refine l_on rfl (gT h1_3) ?_
    refine l_leq rfl rfl rfl ?_
    exact l_nil (fun w' hw => ⟨(by repeat (first | exact Out.refl _ _ | refine Out.upd rfl ?_ | refine Out.msk rfl ?_)), rfl, hw⟩)
  refine l_as rfl ?_
  refine l_end ?_
  exact c_ret (ret1 (v := .bool (decide ((0 ≤ x.e) ∧ (x.e ≤ 20)))) rfl rfl (fun w' hw => ⟨rfl, hw.drop⟩))
theorem rtoCmd_s (v : Value) (b : List UInt8) (w : World) (hl : b.length ≤ 1048576) (hb : Rd w [] (Res.sl v b.length (b.map vb))) : Rets Tryz.prog 7 #[v] w fun u_ w' => ∃ (s : Nat) (q : Nat) (op : Int) (k : ByteArray) (am : Int) (sp : Int) (le : Nat) (f : Bool), u_ = .tuple #[.agg #[.int .u64 (s : Nat), .int .u64 (q : Nat), .int .i64 op, .string k, .int .i64 am, .int .i64 sp, .int .u64 (le : Nat)], .bool f] ∧ RefPost (decCmd b) (⟨s, q, op, k, am, sp, le⟩ : CmdD) f ∧ Own w [] [] w' := by
  refine fn_enter (args := [v]) Tryz.func7 rfl Tryz.ntmps7 rfl (Own.start w) ?_
  refine c_reg ?_
  refine l_new (v := .agg #[.int .u64 (0 : Nat), .int .u64 (0 : Nat), .int .i64 0, .string (⟨#[]⟩ : ByteArray), .int .i64 0, .int .i64 0, .int .u64 (0 : Nat)]) (by kernel_rfl) rfl (fun b2 => ?_)
  refine l_as rfl ?_
  refine l_end ?_
  refine c_reg ?_
  refine l_mv rfl ?_
  refine l_bldc (cs := [v, .int .i64 0, .bool false]) (z := [.slice none 0 0, .int .i64 0, .bool false]) (pl := [(0, 1), (1, 1), (2, 1)]) (by kernel_rfl) ⟨(Sl.cell1 (Rd.φ hb)), trivial⟩ (by kernel_rfl) rfl ?_
  refine l_box rfl rfl (fun b8 => ?_)
  refine l_as rfl ?_
  refine l_end ?_
  refine c_reg ?_
  refine l_mv rfl ?_
  refine l_call (by kernel_rfl) rfl rfl (fun w' hw => ?_)
  refine (rcmdRead_s b8 v b 0 false w' (by first | assumption | omega | (simp <;> omega) | (constructor <;> (first | omega | (simp only [LenOk]; omega) | (simp <;> omega)))) (by first | assumption | omega | (simp <;> omega) | (constructor <;> (first | omega | (simp only [LenOk]; omega) | (simp <;> omega)))) (hw.rdTo hb [1] rfl) (hw.give [1] rfl (by decide))).mono ?_
  rintro _ w1 ⟨s1_, q2_, op3_, k4_, am5_, sp6_, le7_, a'8_, bad'9_, rfl, hf2_1, hf2_1_1, hO⟩
  refine (?_ : CL _ _ _ _ _ _ (Own w [] [Res.row b2 36 [.int .u64 (0 : Nat), .int .u64 (0 : Nat), .int .i64 0, .string (⟨#[]⟩ : ByteArray), .int .i64 0, .int .i64 0, .int .u64 (0 : Nat)], Res.row b8 71 [v, .int .i64 (a'8_ : Nat), .bool bad'9_]])) w1 (hw.frameL [1] rfl hO)
  refine l_new (v := .agg #[.int .u64 (0 : Nat), .int .u64 (0 : Nat), .int .i64 0, .string (⟨#[]⟩ : ByteArray), .int .i64 0, .int .i64 0, .int .u64 (0 : Nat)]) (by kernel_rfl) rfl (fun b5 => ?_)
  refine l_stN (cs := [.int .u64 (0 : Nat), .int .u64 (0 : Nat), .int .i64 0, .string (⟨#[]⟩ : ByteArray), .int .i64 0, .int .i64 0, .int .u64 (0 : Nat)]) (vs := [.int .u64 (s1_ : Nat), .int .u64 (q2_ : Nat), .int .i64 (op3_ : Nat), .string k4_, .int .i64 am5_, .int .i64 sp6_, .int .u64 (le7_ : Nat)]) 2 rfl rfl rfl (by kernel_rfl) (allc_cons rfl (allc_cons rfl (allc_cons rfl (allc_cons rfl (allc_cons rfl (allc_cons rfl (allc_cons rfl allc_nil))))))) (Nat.le_of_ble_eq_true rfl) ?_
  refine l_end ?_
  refine c_seq ?_
  refine c_heldo [2] rfl (by decide) (by kernel_rfl) (fun w' hw hS => ?_)
  refine h_take 0 rfl (by kernel_rfl) (by kernel_rfl) (by kernel_rfl) (v_ldr (cs := [.int .u64 (s1_ : Nat), .int .u64 (q2_ : Nat), .int .i64 (op3_ : Nat), .string k4_, .int .i64 am5_, .int .i64 sp6_, .int .u64 (le7_ : Nat)]) 0 rfl rfl (by kernel_rfl)) rfl hS ?_
  refine h_take 1 rfl (by kernel_rfl) (by kernel_rfl) (by kernel_rfl) (v_mv) rfl hS ?_
  refine h_one 2 (by kernel_rfl) rfl hw ?_
  refine l_call (by kernel_rfl) rfl rfl (fun w' hw => ?_)
  refine (whole_s b8 v b a'8_ bad'9_ w' (by first | assumption | omega | (simp <;> omega) | (constructor <;> (first | omega | (simp only [LenOk]; omega) | (simp <;> omega)))) (hw.rdTo hb [1] rfl) (hw.give [1] rfl (by decide))).mono ?_
  rintro _ w1 ⟨rfl, hO⟩
  refine (?_ : CL _ _ _ _ _ _ (Own w [] [Res.row b2 36 [.int .u64 (0 : Nat), .int .u64 (0 : Nat), .int .i64 0, .string (⟨#[]⟩ : ByteArray), .int .i64 0, .int .i64 0, .int .u64 (0 : Nat)], Res.row b5 36 [.int .u64 (s1_ : Nat), .int .u64 (q2_ : Nat), .int .i64 (op3_ : Nat), .string k4_, .int .i64 am5_, .int .i64 sp6_, .int .u64 (le7_ : Nat)], Res.row b8 71 [v, .int .i64 (a'8_ : Nat), .bool bad'9_]])) w1 (hw.frameL [1] rfl hO)
  refine l_nil (fun w' hw => ?_)
  have hS := hw.sel [1] rfl (by decide)
  refine ⟨hS, ?_⟩
  refine h_take 3 rfl (by kernel_rfl) (by kernel_rfl) (by kernel_rfl) (v_mv) rfl hS ?_
  by_cases g3_3 : bad'9_ = false ∧ a'8_ = b.length
  ·
    refine h_takeg 4 rfl rfl (gT g3_3) (by kernel_rfl) (by kernel_rfl) (by kernel_rfl) (v_ldr (cs := [.int .u64 (s1_ : Nat), .int .u64 (q2_ : Nat), .int .i64 (op3_ : Nat), .string k4_, .int .i64 am5_, .int .i64 sp6_, .int .u64 (le7_ : Nat)]) 0 rfl rfl (by kernel_rfl)) rfl hS ?_
    refine h_one 5 (by kernel_rfl) rfl hw ?_
    refine l_on rfl (gT g3_3) ?_
    refine l_call (by kernel_rfl) rfl rfl (fun w' hw => ?_)
    refine (rcmdOK_s ({ session := s1_, seq := q2_, op := ((op3_ : Nat) : Int), key := k4_, amount := am5_, span := sp6_, lease := le7_ } : CmdD) w' (by have := hf2_1_1; dsimp only; omega)).mono ?_
    rintro _ w1 ⟨rfl, hO⟩
    refine (?_ : CL _ _ _ _ _ _ (Own w [] [Res.row b2 36 [.int .u64 (0 : Nat), .int .u64 (0 : Nat), .int .i64 0, .string (⟨#[]⟩ : ByteArray), .int .i64 0, .int .i64 0, .int .u64 (0 : Nat)], Res.row b5 36 [.int .u64 (s1_ : Nat), .int .u64 (q2_ : Nat), .int .i64 (op3_ : Nat), .string k4_, .int .i64 am5_, .int .i64 sp6_, .int .u64 (le7_ : Nat)], Res.row b8 71 [v, .int .i64 (a'8_ : Nat), .bool bad'9_]])) w1 (hw.frame0 hO)
    refine l_nil (fun w' hw => ?_)
    have hS := hw.sel [1] rfl (by decide)
    refine ⟨hS, ?_⟩
    refine h_take 6 rfl (by kernel_rfl) (by kernel_rfl) (by kernel_rfl) (v_pickT (gT g3_3)) rfl hS ?_
    refine h_one 7 (by kernel_rfl) rfl hw ?_
    refine l_stN (cs := [.int .u64 (0 : Nat), .int .u64 (0 : Nat), .int .i64 0, .string (⟨#[]⟩ : ByteArray), .int .i64 0, .int .i64 0, .int .u64 (0 : Nat)]) (vs := [.int .u64 (s1_ : Nat), .int .u64 (q2_ : Nat), .int .i64 (op3_ : Nat), .string k4_, .int .i64 am5_, .int .i64 sp6_, .int .u64 (le7_ : Nat)]) 0 rfl rfl rfl (by kernel_rfl) (allc_cons rfl (allc_cons rfl (allc_cons rfl (allc_cons rfl (allc_cons rfl (allc_cons rfl (allc_cons rfl allc_nil))))))) (Nat.le_of_ble_eq_true rfl) ?_
    refine l_nil (fun w' hw => ?_)
    have hS := hw.sel [1] rfl (by decide)
    refine ⟨hS, ?_⟩
    refine h_take 8 rfl (by kernel_rfl) (by kernel_rfl) (by kernel_rfl) (v_as) rfl hS ?_
    refine h_done (by kernel_rfl) ?_
    refine (?_ : C _ _ _ _ _ _ _ (Own w [] [Res.row b2 36 [.int .u64 (s1_ : Nat), .int .u64 (q2_ : Nat), .int .i64 (op3_ : Nat), .string k4_, .int .i64 am5_, .int .i64 sp6_, .int .u64 (le7_ : Nat)], Res.row b5 36 [.int .u64 (s1_ : Nat), .int .u64 (q2_ : Nat), .int .i64 (op3_ : Nat), .string k4_, .int .i64 am5_, .int .i64 sp6_, .int .u64 (le7_ : Nat)], Res.row b8 71 [v, .int .i64 (a'8_ : Nat), .bool bad'9_]])) _ hw
    exact c_ret (retc2 (cs := [.int .u64 (s1_ : Nat), .int .u64 (q2_ : Nat), .int .i64 (op3_ : Nat), .string k4_, .int .i64 am5_, .int .i64 sp6_, .int .u64 (le7_ : Nat)]) (v := .bool (decide (({ session := s1_, seq := q2_, op := ((op3_ : Nat) : Int), key := k4_, amount := am5_, span := sp6_, lease := le7_ } : CmdD).ok))) rfl rfl rfl (by kernel_rfl) (Own.rowCells (i := 0) rfl) (fun w' hw => ⟨s1_, q2_, ((op3_ : Nat) : Int), k4_, am5_, sp6_, le7_, (decide (({ session := s1_, seq := q2_, op := ((op3_ : Nat) : Int), key := k4_, amount := am5_, span := sp6_, lease := le7_ } : CmdD).ok)), rfl, RefPost.on hf2_1 g3_3 decide_eq_true_iff, hw.drop⟩))
  ·
    refine h_offg 4 rfl rfl (gF g3_3) rfl (by kernel_rfl) (by kernel_rfl) (by kernel_rfl) rfl hS ?_
    refine h_offg 5 rfl rfl (gF g3_3) rfl (by kernel_rfl) (by kernel_rfl) (by kernel_rfl) rfl hS ?_
    refine h_take 6 rfl (by kernel_rfl) (by kernel_rfl) (by kernel_rfl) (v_pickF (gF g3_3)) rfl hS ?_
    refine h_one 7 (by kernel_rfl) rfl hw ?_
    refine l_stN (cs := [.int .u64 (0 : Nat), .int .u64 (0 : Nat), .int .i64 0, .string (⟨#[]⟩ : ByteArray), .int .i64 0, .int .i64 0, .int .u64 (0 : Nat)]) (vs := [.int .u64 (s1_ : Nat), .int .u64 (q2_ : Nat), .int .i64 (op3_ : Nat), .string k4_, .int .i64 am5_, .int .i64 sp6_, .int .u64 (le7_ : Nat)]) 0 rfl rfl rfl (by kernel_rfl) (allc_cons rfl (allc_cons rfl (allc_cons rfl (allc_cons rfl (allc_cons rfl (allc_cons rfl (allc_cons rfl allc_nil))))))) (Nat.le_of_ble_eq_true rfl) ?_
    refine l_nil (fun w' hw => ?_)
    have hS := hw.sel [1] rfl (by decide)
    refine ⟨hS, ?_⟩
    refine h_take 8 rfl (by kernel_rfl) (by kernel_rfl) (by kernel_rfl) (v_as) rfl hS ?_
    refine h_done (by kernel_rfl) ?_
    refine (?_ : C _ _ _ _ _ _ _ (Own w [] [Res.row b2 36 [.int .u64 (s1_ : Nat), .int .u64 (q2_ : Nat), .int .i64 (op3_ : Nat), .string k4_, .int .i64 am5_, .int .i64 sp6_, .int .u64 (le7_ : Nat)], Res.row b5 36 [.int .u64 (s1_ : Nat), .int .u64 (q2_ : Nat), .int .i64 (op3_ : Nat), .string k4_, .int .i64 am5_, .int .i64 sp6_, .int .u64 (le7_ : Nat)], Res.row b8 71 [v, .int .i64 (a'8_ : Nat), .bool bad'9_]])) _ hw
    exact c_ret (retc2 (cs := [.int .u64 (s1_ : Nat), .int .u64 (q2_ : Nat), .int .i64 (op3_ : Nat), .string k4_, .int .i64 am5_, .int .i64 sp6_, .int .u64 (le7_ : Nat)]) (v := .bool false) rfl rfl rfl (by kernel_rfl) (Own.rowCells (i := 0) rfl) (fun w' hw => ⟨s1_, q2_, ((op3_ : Nat) : Int), k4_, am5_, sp6_, le7_, false, rfl, RefPost.off hf2_1 g3_3, hw.drop⟩))
theorem rtoRpl_s (v : Value) (b : List UInt8) (w : World) (hl : b.length ≤ 1048576) (hb : Rd w [] (Res.sl v b.length (b.map vb))) : Rets Tryz.prog 9 #[v] w fun u_ w' => ∃ (s : Nat) (q : Nat) (op : Int) (le : Nat) (am : Int) (sp : Int) (f : Bool), u_ = .tuple #[.agg #[.int .u64 (s : Nat), .int .u64 (q : Nat), .int .i64 op, .int .u64 (le : Nat), .int .i64 am, .int .i64 sp], .bool f] ∧ RefPost (decRpl b) (⟨s, q, op, le, am, sp⟩ : RepD) f ∧ Own w [] [] w' := by
  refine fn_enter (args := [v]) Tryz.func9 rfl Tryz.ntmps9 rfl (Own.start w) ?_
  refine c_reg ?_
  refine l_new (v := .agg #[.int .u64 (0 : Nat), .int .u64 (0 : Nat), .int .i64 0, .int .u64 (0 : Nat), .int .i64 0, .int .i64 0]) (by kernel_rfl) rfl (fun b2 => ?_)
  refine l_as rfl ?_
  refine l_end ?_
  refine c_reg ?_
  refine l_mv rfl ?_
  refine l_bldc (cs := [v, .int .i64 0, .bool false]) (z := [.slice none 0 0, .int .i64 0, .bool false]) (pl := [(0, 1), (1, 1), (2, 1)]) (by kernel_rfl) ⟨(Sl.cell1 (Rd.φ hb)), trivial⟩ (by kernel_rfl) rfl ?_
  refine l_box rfl rfl (fun b8 => ?_)
  refine l_as rfl ?_
  refine l_end ?_
  refine c_reg ?_
  refine l_mv rfl ?_
  refine l_call (by kernel_rfl) rfl rfl (fun w' hw => ?_)
  refine (rrplRead_s b8 v b 0 false w' (by first | assumption | omega | (simp <;> omega) | (constructor <;> (first | omega | (simp only [LenOk]; omega) | (simp <;> omega)))) (by first | assumption | omega | (simp <;> omega) | (constructor <;> (first | omega | (simp only [LenOk]; omega) | (simp <;> omega)))) (hw.rdTo hb [1] rfl) (hw.give [1] rfl (by decide))).mono ?_
  rintro _ w1 ⟨s1_, q2_, op3_, le4_, am5_, sp6_, a'7_, bad'8_, rfl, hf2_1, hO⟩
  refine (?_ : CL _ _ _ _ _ _ (Own w [] [Res.row b2 42 [.int .u64 (0 : Nat), .int .u64 (0 : Nat), .int .i64 0, .int .u64 (0 : Nat), .int .i64 0, .int .i64 0], Res.row b8 71 [v, .int .i64 (a'7_ : Nat), .bool bad'8_]])) w1 (hw.frameL [1] rfl hO)
  refine l_new (v := .agg #[.int .u64 (0 : Nat), .int .u64 (0 : Nat), .int .i64 0, .int .u64 (0 : Nat), .int .i64 0, .int .i64 0]) (by kernel_rfl) rfl (fun b5 => ?_)
  refine l_stN (cs := [.int .u64 (0 : Nat), .int .u64 (0 : Nat), .int .i64 0, .int .u64 (0 : Nat), .int .i64 0, .int .i64 0]) (vs := [.int .u64 (s1_ : Nat), .int .u64 (q2_ : Nat), .int .i64 (op3_ : Nat), .int .u64 (le4_ : Nat), .int .i64 am5_, .int .i64 sp6_]) 2 rfl rfl rfl (by kernel_rfl) (allc_cons rfl (allc_cons rfl (allc_cons rfl (allc_cons rfl (allc_cons rfl (allc_cons rfl allc_nil)))))) (Nat.le_of_ble_eq_true rfl) ?_
  refine l_end ?_
  refine c_seq ?_
  refine c_heldo [2] rfl (by decide) (by kernel_rfl) (fun w' hw hS => ?_)
  refine h_take 0 rfl (by kernel_rfl) (by kernel_rfl) (by kernel_rfl) (v_ldr (cs := [.int .u64 (s1_ : Nat), .int .u64 (q2_ : Nat), .int .i64 (op3_ : Nat), .int .u64 (le4_ : Nat), .int .i64 am5_, .int .i64 sp6_]) 0 rfl rfl (by kernel_rfl)) rfl hS ?_
  refine h_take 1 rfl (by kernel_rfl) (by kernel_rfl) (by kernel_rfl) (v_mv) rfl hS ?_
  refine h_one 2 (by kernel_rfl) rfl hw ?_
  refine l_call (by kernel_rfl) rfl rfl (fun w' hw => ?_)
  refine (whole_s b8 v b a'7_ bad'8_ w' (by first | assumption | omega | (simp <;> omega) | (constructor <;> (first | omega | (simp only [LenOk]; omega) | (simp <;> omega)))) (hw.rdTo hb [1] rfl) (hw.give [1] rfl (by decide))).mono ?_
  rintro _ w1 ⟨rfl, hO⟩
  refine (?_ : CL _ _ _ _ _ _ (Own w [] [Res.row b2 42 [.int .u64 (0 : Nat), .int .u64 (0 : Nat), .int .i64 0, .int .u64 (0 : Nat), .int .i64 0, .int .i64 0], Res.row b5 42 [.int .u64 (s1_ : Nat), .int .u64 (q2_ : Nat), .int .i64 (op3_ : Nat), .int .u64 (le4_ : Nat), .int .i64 am5_, .int .i64 sp6_], Res.row b8 71 [v, .int .i64 (a'7_ : Nat), .bool bad'8_]])) w1 (hw.frameL [1] rfl hO)
  refine l_nil (fun w' hw => ?_)
  have hS := hw.sel [1] rfl (by decide)
  refine ⟨hS, ?_⟩
  refine h_take 3 rfl (by kernel_rfl) (by kernel_rfl) (by kernel_rfl) (v_mv) rfl hS ?_
  by_cases g3_3 : bad'8_ = false ∧ a'7_ = b.length
  ·
    refine h_takeg 4 rfl rfl (gT g3_3) (by kernel_rfl) (by kernel_rfl) (by kernel_rfl) (v_ldr (cs := [.int .u64 (s1_ : Nat), .int .u64 (q2_ : Nat), .int .i64 (op3_ : Nat), .int .u64 (le4_ : Nat), .int .i64 am5_, .int .i64 sp6_]) 0 rfl rfl (by kernel_rfl)) rfl hS ?_
    refine h_one 5 (by kernel_rfl) rfl hw ?_
    refine l_on rfl (gT g3_3) ?_
    refine l_call (by kernel_rfl) rfl rfl (fun w' hw => ?_)
    refine (rrplOK_s ({ session := s1_, seq := q2_, e := ((op3_ : Nat) : Int), lease := le4_, amount := am5_, until_ := sp6_ } : RepD) w').mono ?_
    rintro _ w1 ⟨rfl, hO⟩
    refine (?_ : CL _ _ _ _ _ _ (Own w [] [Res.row b2 42 [.int .u64 (0 : Nat), .int .u64 (0 : Nat), .int .i64 0, .int .u64 (0 : Nat), .int .i64 0, .int .i64 0], Res.row b5 42 [.int .u64 (s1_ : Nat), .int .u64 (q2_ : Nat), .int .i64 (op3_ : Nat), .int .u64 (le4_ : Nat), .int .i64 am5_, .int .i64 sp6_], Res.row b8 71 [v, .int .i64 (a'7_ : Nat), .bool bad'8_]])) w1 (hw.frame0 hO)
    refine l_nil (fun w' hw => ?_)
    have hS := hw.sel [1] rfl (by decide)
    refine ⟨hS, ?_⟩
    refine h_take 6 rfl (by kernel_rfl) (by kernel_rfl) (by kernel_rfl) (v_pickT (gT g3_3)) rfl hS ?_
    refine h_one 7 (by kernel_rfl) rfl hw ?_
    refine l_stN (cs := [.int .u64 (0 : Nat), .int .u64 (0 : Nat), .int .i64 0, .int .u64 (0 : Nat), .int .i64 0, .int .i64 0]) (vs := [.int .u64 (s1_ : Nat), .int .u64 (q2_ : Nat), .int .i64 (op3_ : Nat), .int .u64 (le4_ : Nat), .int .i64 am5_, .int .i64 sp6_]) 0 rfl rfl rfl (by kernel_rfl) (allc_cons rfl (allc_cons rfl (allc_cons rfl (allc_cons rfl (allc_cons rfl (allc_cons rfl allc_nil)))))) (Nat.le_of_ble_eq_true rfl) ?_
    refine l_nil (fun w' hw => ?_)
    have hS := hw.sel [1] rfl (by decide)
    refine ⟨hS, ?_⟩
    refine h_take 8 rfl (by kernel_rfl) (by kernel_rfl) (by kernel_rfl) (v_as) rfl hS ?_
    refine h_done (by kernel_rfl) ?_
    refine (?_ : C _ _ _ _ _ _ _ (Own w [] [Res.row b2 42 [.int .u64 (s1_ : Nat), .int .u64 (q2_ : Nat), .int .i64 (op3_ : Nat), .int .u64 (le4_ : Nat), .int .i64 am5_, .int .i64 sp6_], Res.row b5 42 [.int .u64 (s1_ : Nat), .int .u64 (q2_ : Nat), .int .i64 (op3_ : Nat), .int .u64 (le4_ : Nat), .int .i64 am5_, .int .i64 sp6_], Res.row b8 71 [v, .int .i64 (a'7_ : Nat), .bool bad'8_]])) _ hw
    exact c_ret (retc2 (cs := [.int .u64 (s1_ : Nat), .int .u64 (q2_ : Nat), .int .i64 (op3_ : Nat), .int .u64 (le4_ : Nat), .int .i64 am5_, .int .i64 sp6_]) (v := .bool (decide (({ session := s1_, seq := q2_, e := ((op3_ : Nat) : Int), lease := le4_, amount := am5_, until_ := sp6_ } : RepD).ok))) rfl rfl rfl (by kernel_rfl) (Own.rowCells (i := 0) rfl) (fun w' hw => ⟨s1_, q2_, ((op3_ : Nat) : Int), le4_, am5_, sp6_, (decide (({ session := s1_, seq := q2_, e := ((op3_ : Nat) : Int), lease := le4_, amount := am5_, until_ := sp6_ } : RepD).ok)), rfl, RefPost.on hf2_1 g3_3 decide_eq_true_iff, hw.drop⟩))
  ·
    refine h_offg 4 rfl rfl (gF g3_3) rfl (by kernel_rfl) (by kernel_rfl) (by kernel_rfl) rfl hS ?_
    refine h_offg 5 rfl rfl (gF g3_3) rfl (by kernel_rfl) (by kernel_rfl) (by kernel_rfl) rfl hS ?_
    refine h_take 6 rfl (by kernel_rfl) (by kernel_rfl) (by kernel_rfl) (v_pickF (gF g3_3)) rfl hS ?_
    refine h_one 7 (by kernel_rfl) rfl hw ?_
    refine l_stN (cs := [.int .u64 (0 : Nat), .int .u64 (0 : Nat), .int .i64 0, .int .u64 (0 : Nat), .int .i64 0, .int .i64 0]) (vs := [.int .u64 (s1_ : Nat), .int .u64 (q2_ : Nat), .int .i64 (op3_ : Nat), .int .u64 (le4_ : Nat), .int .i64 am5_, .int .i64 sp6_]) 0 rfl rfl rfl (by kernel_rfl) (allc_cons rfl (allc_cons rfl (allc_cons rfl (allc_cons rfl (allc_cons rfl (allc_cons rfl allc_nil)))))) (Nat.le_of_ble_eq_true rfl) ?_
    refine l_nil (fun w' hw => ?_)
    have hS := hw.sel [1] rfl (by decide)
    refine ⟨hS, ?_⟩
    refine h_take 8 rfl (by kernel_rfl) (by kernel_rfl) (by kernel_rfl) (v_as) rfl hS ?_
    refine h_done (by kernel_rfl) ?_
    refine (?_ : C _ _ _ _ _ _ _ (Own w [] [Res.row b2 42 [.int .u64 (s1_ : Nat), .int .u64 (q2_ : Nat), .int .i64 (op3_ : Nat), .int .u64 (le4_ : Nat), .int .i64 am5_, .int .i64 sp6_], Res.row b5 42 [.int .u64 (s1_ : Nat), .int .u64 (q2_ : Nat), .int .i64 (op3_ : Nat), .int .u64 (le4_ : Nat), .int .i64 am5_, .int .i64 sp6_], Res.row b8 71 [v, .int .i64 (a'7_ : Nat), .bool bad'8_]])) _ hw
    exact c_ret (retc2 (cs := [.int .u64 (s1_ : Nat), .int .u64 (q2_ : Nat), .int .i64 (op3_ : Nat), .int .u64 (le4_ : Nat), .int .i64 am5_, .int .i64 sp6_]) (v := .bool false) rfl rfl rfl (by kernel_rfl) (Own.rowCells (i := 0) rfl) (fun w' hw => ⟨s1_, q2_, ((op3_ : Nat) : Int), le4_, am5_, sp6_, false, rfl, RefPost.off hf2_1 g3_3, hw.drop⟩))
theorem askSound_s (x : AskD) (cb : Nat) (w : World) (hx : x.key.size ≤ 1048576) (hc : x.cmd.key.size ≤ 1048576) (hcb : Rd w [] (Res.row cb 83 [.func (.func 64) #[] #[], .func (.func 65) #[] #[], .func (.func 66) #[] #[]])) : Rets Tryz.prog 70 #[.agg (AskD.cells x).toArray, .pointer (some ⟨cb, 0, none⟩)] w fun u_ w' => u_ = .bool (decide x.ok) ∧ Own w [] [] w' := by
  refine fn_enter (args := [.agg (AskD.cells x).toArray, .pointer (some ⟨cb, 0, none⟩)]) Tryz.func70 rfl Tryz.ntmps70 rfl (Own.start w) ?_
  refine c_reg ?_
  refine l_box rfl rfl (fun b2 => ?_)
  refine l_as rfl ?_
  refine l_end ?_
  refine c_seq ?_
  refine c_reg ?_
  refine l_fld (o := 0) rfl (by kernel_rfl) rfl ?_
  refine l_ldo 0 (v := .bool x.look) rfl rfl rfl (by kernel_rfl) rfl ?_
  refine l_end ?_
  refine c_if rfl (fun c1 => ?_) (fun c1 => ?_)
  ·
    refine c_reg ?_
    refine l_fld (o := 3) rfl (by kernel_rfl) rfl ?_
    refine l_ldoN (cs := (AskD.cells x)) 0 (CmdD.cells x.cmd) rfl rfl (sub_at' 3 rfl) (by kernel_rfl) rfl ?_
    refine l_bld (cs := [.int .u64 (0 : Nat), .int .u64 (0 : Nat), .int .i64 0, .string (⟨#[]⟩ : ByteArray), .int .i64 0, .int .i64 0, .int .u64 (0 : Nat)]) (z := [.int .u64 (0 : Nat), .int .u64 (0 : Nat), .int .i64 0, .string (⟨#[]⟩ : ByteArray), .int .i64 0, .int .i64 0, .int .u64 (0 : Nat)]) (pl := [(0, 1), (1, 1), (2, 1), (3, 1), (4, 1), (5, 1), (6, 1)]) (by kernel_rfl) (by kernel_rfl) rfl ?_
    refine l_val rfl (v_stp (CmdDEq x.cmd ({ session := 0, seq := 0, op := 0, key := (⟨#[]⟩ : ByteArray), amount := 0, span := 0, lease := 0 } : CmdD)) (by kernel_rfl) (by kernel_rfl) rfl rfl rfl rfl) ?_
    refine l_mv rfl ?_
    refine l_band (q := x.cmd = ({ session := 0, seq := 0, op := 0, key := (⟨#[]⟩ : ByteArray), amount := 0, span := 0, lease := 0 } : CmdD)) 4 4 [14, 13, 12, 11] (((x.key.size : Nat) : Int) ≤ 64) rfl rfl rfl rfl rfl rfl trivial rfl (fun h2_4 => ?_) (fun g2_9 => ?_)
    ·
      refine l_on rfl (gT h2_4) ?_
      refine l_fld (o := 10) rfl (by kernel_rfl) rfl ?_
      refine l_on rfl (gT h2_4) ?_
      refine l_ldo 0 (v := .string x.key) rfl rfl rfl (by kernel_rfl) rfl ?_
      refine l_on rfl (gT h2_4) ?_
      refine l_lens (by kernel_rfl) rfl rfl ?_
      refine l_on rfl (gT h2_4) ?_
      refine l_leq rfl rfl rfl ?_
      exact l_nil (fun w' hw => ⟨(by repeat (first | exact Out.refl _ _ | refine Out.upd rfl ?_ | refine Out.msk rfl ?_)), rfl, hw⟩)
    refine l_as rfl ?_
    refine l_end ?_
    exact c_ret (ret1 (v := .bool (decide ((x.cmd = ({ session := 0, seq := 0, op := 0, key := (⟨#[]⟩ : ByteArray), amount := 0, span := 0, lease := 0 } : CmdD)) ∧ (((x.key.size : Nat) : Int) ≤ 64)))) rfl rfl (fun w' hw => ⟨(by congr 1; exact decide_eq_decide.2 (by unfold AskD.ok; rw [if_pos c1]; exact and_congr_right fun _ => by omega)), hw.drop⟩))
  ·
    refine c_skipC ?_
    refine c_reg ?_
    refine l_fld (o := 0) rfl (by kernel_rfl) rfl ?_
    refine l_ldq (v := .func (.func 64) #[] #[]) rfl (hcb.φ.cell rfl) (hcb.far _ (by simp [Res.row])) (by kernel_rfl) rfl ?_
    refine l_fld (o := 3) rfl (by kernel_rfl) rfl ?_
    refine l_ldoN (cs := (AskD.cells x)) 0 (CmdD.cells x.cmd) rfl rfl (sub_at' 3 rfl) (by kernel_rfl) rfl ?_
    refine l_callv (fst := []) (cap := []) rfl (by kernel_rfl) rfl rfl (fun w' hw => ?_)
    refine (cmdSound_s x.cmd w' (by first | assumption | omega | (simp <;> omega) | (constructor <;> (first | omega | (simp only [LenOk]; omega) | (simp <;> omega))))).mono ?_
    rintro _ w1 ⟨rfl, hO⟩
    refine (?_ : CL _ _ _ _ _ _ (Own w [] [Res.row b2 48 (AskD.cells x)])) w1 (hw.frame0 hO)
    refine l_mv rfl ?_
    refine l_band (q := x.cmd.ok) 3 5 [24, 23, 22] (x.key = (⟨#[]⟩ : ByteArray)) rfl rfl rfl rfl rfl rfl trivial rfl (fun h3_5 => ?_) (fun g3_9 => ?_)
    ·
      refine l_on rfl (gT h3_5) ?_
      refine l_fld (o := 10) rfl (by kernel_rfl) rfl ?_
      refine l_on rfl (gT h3_5) ?_
      refine l_ldo 0 (v := .string x.key) rfl rfl rfl (by kernel_rfl) rfl ?_
      refine l_on rfl (gT h3_5) ?_
      refine l_seq rfl rfl rfl ?_
      exact l_nil (fun w' hw => ⟨(by repeat (first | exact Out.refl _ _ | refine Out.upd rfl ?_ | refine Out.msk rfl ?_)), rfl, hw⟩)
    refine l_mv rfl ?_
    refine l_band (q := x.cmd.ok ∧ (x.key = (⟨#[]⟩ : ByteArray))) 3 10 [29, 28, 27] ((!x.lazy) = true) rfl rfl rfl rfl rfl rfl trivial rfl (fun h3_10 => ?_) (fun g3_14 => ?_)
    ·
      refine l_on rfl (gT h3_10) ?_
      refine l_fld (o := 1) rfl (by kernel_rfl) rfl ?_
      refine l_on rfl (gT h3_10) ?_
      refine l_ldo 0 (v := .bool x.lazy) rfl rfl rfl (by kernel_rfl) rfl ?_
      refine l_on rfl (gT h3_10) ?_
      refine l_not (b := x.lazy) rfl rfl ?_
      exact l_nil (fun w' hw => ⟨(by repeat (first | exact Out.refl _ _ | refine Out.upd rfl ?_ | refine Out.msk rfl ?_)), (bool_dec _), hw⟩)
    refine l_as rfl ?_
    refine l_end ?_
    exact c_ret (ret1 (v := .bool (decide ((x.cmd.ok ∧ (x.key = (⟨#[]⟩ : ByteArray))) ∧ ((!x.lazy) = true)))) rfl rfl (fun w' hw => ⟨(by congr 1; exact decide_eq_decide.2 (by unfold AskD.ok; rw [if_neg (by rw [c1]; decide)]; cases x.lazy <;> simp)), hw.drop⟩))
theorem tldSound_s (x : TldD) (cb : Nat) (w : World) (hcb : Rd w [] (Res.row cb 90 [.func (.func 67) #[] #[], .func (.func 68) #[] #[], .func (.func 69) #[] #[]])) : Rets Tryz.prog 73 #[.agg (TldD.cells x).toArray, .pointer (some ⟨cb, 0, none⟩)] w fun u_ w' => u_ = .bool (decide x.ok) ∧ Own w [] [] w' := by
  refine fn_enter (args := [.agg (TldD.cells x).toArray, .pointer (some ⟨cb, 0, none⟩)]) Tryz.func73 rfl Tryz.ntmps73 rfl (Own.start w) ?_
  refine c_reg ?_
  refine l_box rfl rfl (fun b2 => ?_)
  refine l_as rfl ?_
  refine l_end ?_
  refine c_reg ?_
  refine l_fld (o := 2) rfl (by kernel_rfl) rfl ?_
  refine l_ldo 0 (v := .int .i64 x.lead) rfl rfl rfl (by kernel_rfl) rfl ?_
  refine l_geq rfl rfl rfl ?_
  refine l_mv rfl ?_
  refine l_band (q := 0 ≤ x.lead) 3 3 [10, 9, 8] (x.lead ≤ 16) rfl rfl rfl rfl rfl rfl trivial rfl (fun h1_3 => ?_) (fun g1_7 => ?_)
  ·
    refine l_on rfl (gT h1_3) ?_
    refine l_fld (o := 2) rfl (by kernel_rfl) rfl ?_
    refine l_on rfl (gT h1_3) ?_
    refine l_ldo 0 (v := .int .i64 x.lead) rfl rfl rfl (by kernel_rfl) rfl ?_
    refine l_on rfl (gT h1_3) ?_
    refine l_leq rfl rfl rfl ?_
    exact l_nil (fun w' hw => ⟨(by repeat (first | exact Out.refl _ _ | refine Out.upd rfl ?_ | refine Out.msk rfl ?_)), rfl, hw⟩)
  refine l_mv rfl ?_
  refine l_band (q := (0 ≤ x.lead) ∧ (x.lead ≤ 16)) 5 8 [17, 16, 15, 14, 13] (x.reply.ok) rfl rfl rfl rfl rfl rfl trivial rfl (fun h1_8 => ?_) (fun g1_14 => ?_)
  ·
    refine l_on rfl (gT h1_8) ?_
    refine l_fld (o := 0) rfl (by kernel_rfl) rfl ?_
    refine l_on rfl (gT h1_8) ?_
    refine l_ldq (v := .func (.func 67) #[] #[]) rfl (hcb.φ.cell rfl) (hcb.far _ (by simp [Res.row])) (by kernel_rfl) rfl ?_
    refine l_on rfl (gT h1_8) ?_
    refine l_fld (o := 3) rfl (by kernel_rfl) rfl ?_
    refine l_on rfl (gT h1_8) ?_
    refine l_ldoN (cs := (TldD.cells x)) 0 (RepD.cells x.reply) rfl rfl (sub_at' 3 rfl) (by kernel_rfl) rfl ?_
    refine l_on rfl (gT h1_8) ?_
    refine l_callv (fst := []) (cap := []) rfl (by kernel_rfl) rfl rfl (fun w' hw => ?_)
    refine (repSound_s x.reply w').mono ?_
    rintro _ w1 ⟨rfl, hO⟩
    refine (?_ : CL _ _ _ _ _ _ (Own w [] [Res.row b2 54 (TldD.cells x)])) w1 (hw.frame0 hO)
    exact l_nil (fun w' hw => ⟨(by repeat (first | exact Out.refl _ _ | refine Out.upd rfl ?_ | refine Out.msk rfl ?_)), rfl, hw⟩)
  refine l_as rfl ?_
  refine l_end ?_
  exact c_ret (ret1 (v := .bool (decide (((0 ≤ x.lead) ∧ (x.lead ≤ 16)) ∧ x.reply.ok))) rfl rfl (fun w' hw => ⟨rfl, hw.drop⟩))
theorem raskOK_s (x : AskD) (w : World) (hx : x.key.size ≤ 1048576) (hc : x.cmd.key.size ≤ 1048576) : Rets Tryz.prog 36 #[.agg (AskD.cells x).toArray] w fun u_ w' => u_ = .bool (decide x.ok) ∧ Own w [] [] w' := by
  refine fn_enter (args := [.agg (AskD.cells x).toArray]) Tryz.func36 rfl Tryz.ntmps36 rfl (Own.start w) ?_
  refine c_reg ?_
  refine l_box rfl rfl (fun b1 => ?_)
  refine l_as rfl ?_
  refine l_end ?_
  refine c_seq ?_
  refine c_reg ?_
  refine l_fld (o := 0) rfl (by kernel_rfl) rfl ?_
  refine l_ldo 0 (v := .bool x.look) rfl rfl rfl (by kernel_rfl) rfl ?_
  refine l_end ?_
  refine c_if rfl (fun c1 => ?_) (fun c1 => ?_)
  ·
    refine c_reg ?_
    refine l_fld (o := 3) rfl (by kernel_rfl) rfl ?_
    refine l_ldoN (cs := (AskD.cells x)) 0 (CmdD.cells x.cmd) rfl rfl (sub_at' 3 rfl) (by kernel_rfl) rfl ?_
    refine l_bld (cs := [.int .u64 (0 : Nat), .int .u64 (0 : Nat), .int .i64 0, .string (⟨#[]⟩ : ByteArray), .int .i64 0, .int .i64 0, .int .u64 (0 : Nat)]) (z := [.int .u64 (0 : Nat), .int .u64 (0 : Nat), .int .i64 0, .string (⟨#[]⟩ : ByteArray), .int .i64 0, .int .i64 0, .int .u64 (0 : Nat)]) (pl := [(0, 1), (1, 1), (2, 1), (3, 1), (4, 1), (5, 1), (6, 1)]) (by kernel_rfl) (by kernel_rfl) rfl ?_
    refine l_val rfl (v_stp (CmdDEq x.cmd ({ session := 0, seq := 0, op := 0, key := (⟨#[]⟩ : ByteArray), amount := 0, span := 0, lease := 0 } : CmdD)) (by kernel_rfl) (by kernel_rfl) rfl rfl rfl rfl) ?_
    refine l_mv rfl ?_
    refine l_band (q := x.cmd = ({ session := 0, seq := 0, op := 0, key := (⟨#[]⟩ : ByteArray), amount := 0, span := 0, lease := 0 } : CmdD)) 4 4 [13, 12, 11, 10] (((x.key.size : Nat) : Int) ≤ 64) rfl rfl rfl rfl rfl rfl trivial rfl (fun h2_4 => ?_) (fun g2_9 => ?_)
    ·
      refine l_on rfl (gT h2_4) ?_
      refine l_fld (o := 10) rfl (by kernel_rfl) rfl ?_
      refine l_on rfl (gT h2_4) ?_
      refine l_ldo 0 (v := .string x.key) rfl rfl rfl (by kernel_rfl) rfl ?_
      refine l_on rfl (gT h2_4) ?_
      refine l_lens (by kernel_rfl) rfl rfl ?_
      refine l_on rfl (gT h2_4) ?_
      refine l_leq rfl rfl rfl ?_
      exact l_nil (fun w' hw => ⟨(by repeat (first | exact Out.refl _ _ | refine Out.upd rfl ?_ | refine Out.msk rfl ?_)), rfl, hw⟩)
    refine l_as rfl ?_
    refine l_end ?_
    exact c_ret (ret1 (v := .bool (decide ((x.cmd = ({ session := 0, seq := 0, op := 0, key := (⟨#[]⟩ : ByteArray), amount := 0, span := 0, lease := 0 } : CmdD)) ∧ (((x.key.size : Nat) : Int) ≤ 64)))) rfl rfl (fun w' hw => ⟨(by congr 1; exact decide_eq_decide.2 (by unfold AskD.ok; rw [if_pos c1]; exact and_congr_right fun _ => by omega)), hw.drop⟩))
  ·
    refine c_skipC ?_
    refine c_reg ?_
    refine l_fld (o := 3) rfl (by kernel_rfl) rfl ?_
    refine l_ldoN (cs := (AskD.cells x)) 0 (CmdD.cells x.cmd) rfl rfl (sub_at' 3 rfl) (by kernel_rfl) rfl ?_
    refine l_call (by kernel_rfl) rfl rfl (fun w' hw => ?_)
    refine (rcmdOK_s x.cmd w' (by first | assumption | omega | (simp <;> omega) | (constructor <;> (first | omega | (simp only [LenOk]; omega) | (simp <;> omega))))).mono ?_
    rintro _ w1 ⟨rfl, hO⟩
    refine (?_ : CL _ _ _ _ _ _ (Own w [] [Res.row b1 48 (AskD.cells x)])) w1 (hw.frame0 hO)
    refine l_mv rfl ?_
    refine l_band (q := x.cmd.ok) 3 3 [21, 20, 19] (x.key = (⟨#[]⟩ : ByteArray)) rfl rfl rfl rfl rfl rfl trivial rfl (fun h3_3 => ?_) (fun g3_7 => ?_)
    ·
      refine l_on rfl (gT h3_3) ?_
      refine l_fld (o := 10) rfl (by kernel_rfl) rfl ?_
      refine l_on rfl (gT h3_3) ?_
      refine l_ldo 0 (v := .string x.key) rfl rfl rfl (by kernel_rfl) rfl ?_
      refine l_on rfl (gT h3_3) ?_
      refine l_seq rfl rfl rfl ?_
      exact l_nil (fun w' hw => ⟨(by repeat (first | exact Out.refl _ _ | refine Out.upd rfl ?_ | refine Out.msk rfl ?_)), rfl, hw⟩)
    refine l_mv rfl ?_
    refine l_band (q := x.cmd.ok ∧ (x.key = (⟨#[]⟩ : ByteArray))) 3 8 [26, 25, 24] ((!x.lazy) = true) rfl rfl rfl rfl rfl rfl trivial rfl (fun h3_8 => ?_) (fun g3_12 => ?_)
    ·
      refine l_on rfl (gT h3_8) ?_
      refine l_fld (o := 1) rfl (by kernel_rfl) rfl ?_
      refine l_on rfl (gT h3_8) ?_
      refine l_ldo 0 (v := .bool x.lazy) rfl rfl rfl (by kernel_rfl) rfl ?_
      refine l_on rfl (gT h3_8) ?_
      refine l_not (b := x.lazy) rfl rfl ?_
      exact l_nil (fun w' hw => ⟨(by repeat (first | exact Out.refl _ _ | refine Out.upd rfl ?_ | refine Out.msk rfl ?_)), (bool_dec _), hw⟩)
    refine l_as rfl ?_
    refine l_end ?_
    exact c_ret (ret1 (v := .bool (decide ((x.cmd.ok ∧ (x.key = (⟨#[]⟩ : ByteArray))) ∧ ((!x.lazy) = true)))) rfl rfl (fun w' hw => ⟨(by congr 1; exact decide_eq_decide.2 (by unfold AskD.ok; rw [if_neg (by rw [c1]; decide)]; cases x.lazy <;> simp)), hw.drop⟩))
theorem rtldOK_s (x : TldD) (w : World) : Rets Tryz.prog 39 #[.agg (TldD.cells x).toArray] w fun u_ w' => u_ = .bool (decide x.ok) ∧ Own w [] [] w' := by
  refine fn_enter (args := [.agg (TldD.cells x).toArray]) Tryz.func39 rfl Tryz.ntmps39 rfl (Own.start w) ?_
  refine c_reg ?_
  refine l_box rfl rfl (fun b1 => ?_)
  refine l_as rfl ?_
  refine l_end ?_
  refine c_reg ?_
  refine l_fld (o := 2) rfl (by kernel_rfl) rfl ?_
  refine l_ldo 0 (v := .int .i64 x.lead) rfl rfl rfl (by kernel_rfl) rfl ?_
  refine l_geq rfl rfl rfl ?_
  refine l_mv rfl ?_
  refine l_band (q := 0 ≤ x.lead) 3 3 [9, 8, 7] (x.lead ≤ 16) rfl rfl rfl rfl rfl rfl trivial rfl (fun h1_3 => ?_) (fun g1_7 => ?_)
  ·
    refine l_on rfl (gT h1_3) ?_
    refine l_fld (o := 2) rfl (by kernel_rfl) rfl ?_
    refine l_on rfl (gT h1_3) ?_
    refine l_ldo 0 (v := .int .i64 x.lead) rfl rfl rfl (by kernel_rfl) rfl ?_
    refine l_on rfl (gT h1_3) ?_
    refine l_leq rfl rfl rfl ?_
    exact l_nil (fun w' hw => ⟨(by repeat (first | exact Out.refl _ _ | refine Out.upd rfl ?_ | refine Out.msk rfl ?_)), rfl, hw⟩)
  refine l_mv rfl ?_
  refine l_band (q := (0 ≤ x.lead) ∧ (x.lead ≤ 16)) 3 8 [14, 13, 12] (x.reply.ok) rfl rfl rfl rfl rfl rfl trivial rfl (fun h1_8 => ?_) (fun g1_12 => ?_)
  ·
    refine l_on rfl (gT h1_8) ?_
    refine l_fld (o := 3) rfl (by kernel_rfl) rfl ?_
    refine l_on rfl (gT h1_8) ?_
    refine l_ldoN (cs := (TldD.cells x)) 0 (RepD.cells x.reply) rfl rfl (sub_at' 3 rfl) (by kernel_rfl) rfl ?_
    refine l_on rfl (gT h1_8) ?_
    refine l_call (by kernel_rfl) rfl rfl (fun w' hw => ?_)
    refine (rrplOK_s x.reply w').mono ?_
    rintro _ w1 ⟨rfl, hO⟩
    refine (?_ : CL _ _ _ _ _ _ (Own w [] [Res.row b1 54 (TldD.cells x)])) w1 (hw.frame0 hO)
    exact l_nil (fun w' hw => ⟨(by repeat (first | exact Out.refl _ _ | refine Out.upd rfl ?_ | refine Out.msk rfl ?_)), rfl, hw⟩)
  refine l_as rfl ?_
  refine l_end ?_
  exact c_ret (ret1 (v := .bool (decide (((0 ≤ x.lead) ∧ (x.lead ≤ 16)) ∧ x.reply.ok))) rfl rfl (fun w' hw => ⟨rfl, hw.drop⟩))
theorem askRead_s (o : Nat) (v : Value) (b : List UInt8) (a : Nat) (bad : Bool) (cb : Nat) (w : World) (hl : LenOk b.length) (ha : a ≤ b.length) (hcb : Rd w (fps [Res.row o 133 [v, .int .i64 (a : Nat), .bool bad]]) (Res.row cb 83 [.func (.func 64) #[] #[], .func (.func 65) #[] #[], .func (.func 66) #[] #[]])) (hb : Rd w (fps [Res.row o 133 [v, .int .i64 (a : Nat), .bool bad]]) (Res.sl v b.length (b.map vb))) (hin : Own w (fps [Res.row o 133 [v, .int .i64 (a : Nat), .bool bad]]) [Res.row o 133 [v, .int .i64 (a : Nat), .bool bad]] w) : Rets Tryz.prog 72 #[.pointer (some ⟨o, 0, none⟩), .pointer (some ⟨cb, 0, none⟩)] w fun u_ w' => ∃ (lo : Bool) (la : Bool) (sq : Nat) (s : Nat) (q : Nat) (op : Nat) (k : ByteArray) (am : Int) (sp : Int) (le : Nat) (k2 : ByteArray) (a' : Nat) (bad' : Bool), u_ = .agg #[.bool lo, .bool la, .int .u64 (sq : Nat), .int .u64 (s : Nat), .int .u64 (q : Nat), .int .i64 (op : Nat), .string k, .int .i64 am, .int .i64 sp, .int .u64 (le : Nat), .string k2] ∧ RdS pAsk b a bad (⟨lo, la, sq, ⟨s, q, (op : Int), k, am, sp, le⟩, k2⟩ : AskD) a' bad' ∧ k.size ≤ b.length ∧ k2.size ≤ b.length ∧ Own w (fps [Res.row o 133 [v, .int .i64 (a : Nat), .bool bad]]) [Res.row o 133 [v, .int .i64 (a' : Nat), .bool bad']] w' := by
  refine fn_enter (args := [.pointer (some ⟨o, 0, none⟩), .pointer (some ⟨cb, 0, none⟩)]) Tryz.func72 rfl Tryz.ntmps72 rfl (show Own w (fps [Res.row o 133 [v, .int .i64 (a : Nat), .bool bad]]) [Res.row o 133 [v, .int .i64 (a : Nat), .bool bad]] w from hin) ?_
  refine c_reg ?_
  refine l_new (v := .agg #[.bool false, .bool false, .int .u64 (0 : Nat), .int .u64 (0 : Nat), .int .u64 (0 : Nat), .int .i64 0, .string (⟨#[]⟩ : ByteArray), .int .i64 0, .int .i64 0, .int .u64 (0 : Nat), .string (⟨#[]⟩ : ByteArray)]) (by kernel_rfl) rfl (fun b3 => ?_)
  refine l_end ?_
  refine c_seq ?_
  refine c_heldo [] rfl (by decide) (by kernel_rfl) (fun w' hw hS => ?_)
  refine h_take 0 rfl (by kernel_rfl) (by kernel_rfl) (by kernel_rfl) (v_mv) rfl hS ?_
  refine h_take 2 rfl (by kernel_rfl) (by kernel_rfl) (by kernel_rfl) (v_mv) rfl hS ?_
  refine h_take 4 rfl (by kernel_rfl) (by kernel_rfl) (by kernel_rfl) (v_mv) rfl hS ?_
  refine h_take 6 rfl (by kernel_rfl) (by kernel_rfl) (by kernel_rfl) (v_fld (o := 2) rfl (by kernel_rfl)) rfl hS ?_
  refine h_take 7 rfl (by kernel_rfl) (by kernel_rfl) (by kernel_rfl) (v_ldq (v := .func (.func 66) #[] #[]) rfl (hcb.φ.cell rfl) (hcb.far _ (by simp [Res.row])) (by kernel_rfl)) rfl hS ?_
  refine h_take 8 rfl (by kernel_rfl) (by kernel_rfl) (by kernel_rfl) (v_mv) rfl hS ?_
  refine h_take 10 rfl (by kernel_rfl) (by kernel_rfl) (by kernel_rfl) (v_mv) rfl hS ?_
  refine h_one 1 (by kernel_rfl) rfl hw ?_
  refine l_call (by kernel_rfl) rfl rfl (fun w' hw => ?_)
  refine (inFlag_s o v b a bad w' (by first | assumption | omega | (simp <;> omega) | (constructor <;> (first | omega | (simp only [LenOk]; omega) | (simp <;> omega)))) (by first | assumption | omega | (simp <;> omega) | (constructor <;> (first | omega | (simp only [LenOk]; omega) | (simp <;> omega)))) (hw.rdTo hb [0] rfl) (hw.give [0] rfl (by decide))).mono ?_
  rintro _ w1 ⟨f1_, a'2_, bad'3_, rfl, hf1_1, hO⟩
  have hq1 := hf1_1.le
  refine (?_ : CL _ _ _ _ _ _ (Own w (fps [Res.row o 133 [v, .int .i64 (a : Nat), .bool bad]]) [Res.row b3 48 [.bool false, .bool false, .int .u64 (0 : Nat), .int .u64 (0 : Nat), .int .u64 (0 : Nat), .int .i64 0, .string (⟨#[]⟩ : ByteArray), .int .i64 0, .int .i64 0, .int .u64 (0 : Nat), .string (⟨#[]⟩ : ByteArray)], Res.row o 133 [v, .int .i64 (a'2_ : Nat), .bool bad'3_]])) w1 (hw.frameL [0] rfl hO)
  refine l_nil (fun w' hw => ?_)
  have hS := hw.sel [] rfl (by decide)
  refine ⟨hS, ?_⟩
  refine h_one 3 (by kernel_rfl) rfl hw ?_
  refine l_call (by kernel_rfl) rfl rfl (fun w' hw => ?_)
  refine (inFlag_s o v b a'2_ bad'3_ w' (by first | assumption | omega | (simp <;> omega) | (constructor <;> (first | omega | (simp only [LenOk]; omega) | (simp <;> omega)))) (by first | assumption | omega | (simp <;> omega) | (constructor <;> (first | omega | (simp only [LenOk]; omega) | (simp <;> omega)))) (hw.rdTo hb [1] rfl) (hw.give [1] rfl (by decide))).mono ?_
  rintro _ w1 ⟨f4_, a'5_, bad'6_, rfl, hf1_3, hO⟩
  have hq2 := hf1_3.le
  refine (?_ : CL _ _ _ _ _ _ (Own w (fps [Res.row o 133 [v, .int .i64 (a : Nat), .bool bad]]) [Res.row b3 48 [.bool false, .bool false, .int .u64 (0 : Nat), .int .u64 (0 : Nat), .int .u64 (0 : Nat), .int .i64 0, .string (⟨#[]⟩ : ByteArray), .int .i64 0, .int .i64 0, .int .u64 (0 : Nat), .string (⟨#[]⟩ : ByteArray)], Res.row o 133 [v, .int .i64 (a'5_ : Nat), .bool bad'6_]])) w1 (hw.frameL [1] rfl hO)
  refine l_nil (fun w' hw => ?_)
  have hS := hw.sel [] rfl (by decide)
  refine ⟨hS, ?_⟩
  refine h_one 5 (by kernel_rfl) rfl hw ?_
  refine l_call (by kernel_rfl) rfl rfl (fun w' hw => ?_)
  refine (inNum_s o v b a'5_ bad'6_ w' (by first | assumption | omega | (simp <;> omega) | (constructor <;> (first | omega | (simp only [LenOk]; omega) | (simp <;> omega)))) (by first | assumption | omega | (simp <;> omega) | (constructor <;> (first | omega | (simp only [LenOk]; omega) | (simp <;> omega)))) (hw.rdTo hb [1] rfl) (hw.give [1] rfl (by decide))).mono ?_
  rintro _ w1 ⟨n7_, a'8_, bad'9_, rfl, hf1_5, hf1_5_1, hO⟩
  have hq3 := hf1_5.le
  refine (?_ : CL _ _ _ _ _ _ (Own w (fps [Res.row o 133 [v, .int .i64 (a : Nat), .bool bad]]) [Res.row b3 48 [.bool false, .bool false, .int .u64 (0 : Nat), .int .u64 (0 : Nat), .int .u64 (0 : Nat), .int .i64 0, .string (⟨#[]⟩ : ByteArray), .int .i64 0, .int .i64 0, .int .u64 (0 : Nat), .string (⟨#[]⟩ : ByteArray)], Res.row o 133 [v, .int .i64 (a'8_ : Nat), .bool bad'9_]])) w1 (hw.frameL [1] rfl hO)
  refine l_nil (fun w' hw => ?_)
  have hS := hw.sel [] rfl (by decide)
  refine ⟨hS, ?_⟩
  refine h_one 9 (by kernel_rfl) rfl hw ?_
  refine l_callv (fst := []) (cap := []) rfl (by kernel_rfl) rfl rfl (fun w' hw => ?_)
  refine (cmdRead_s o v b a'8_ bad'9_ w' (by first | assumption | omega | (simp <;> omega) | (constructor <;> (first | omega | (simp only [LenOk]; omega) | (simp <;> omega)))) (by first | assumption | omega | (simp <;> omega) | (constructor <;> (first | omega | (simp only [LenOk]; omega) | (simp <;> omega)))) (hw.rdTo hb [1] rfl) (hw.give [1] rfl (by decide))).mono ?_
  rintro _ w1 ⟨s10_, q11_, op12_, k13_, am14_, sp15_, le16_, a'17_, bad'18_, rfl, hf1_9, hf1_9_1, hO⟩
  have hq4 := hf1_9.le
  refine (?_ : CL _ _ _ _ _ _ (Own w (fps [Res.row o 133 [v, .int .i64 (a : Nat), .bool bad]]) [Res.row b3 48 [.bool false, .bool false, .int .u64 (0 : Nat), .int .u64 (0 : Nat), .int .u64 (0 : Nat), .int .i64 0, .string (⟨#[]⟩ : ByteArray), .int .i64 0, .int .i64 0, .int .u64 (0 : Nat), .string (⟨#[]⟩ : ByteArray)], Res.row o 133 [v, .int .i64 (a'17_ : Nat), .bool bad'18_]])) w1 (hw.frameL [1] rfl hO)
  refine l_nil (fun w' hw => ?_)
  have hS := hw.sel [] rfl (by decide)
  refine ⟨hS, ?_⟩
  refine h_one 11 (by kernel_rfl) rfl hw ?_
  refine l_call (by kernel_rfl) rfl rfl (fun w' hw => ?_)
  refine (inData_s o v b a'17_ bad'18_ w' (by first | assumption | omega | (simp <;> omega) | (constructor <;> (first | omega | (simp only [LenOk]; omega) | (simp <;> omega)))) (by first | assumption | omega | (simp <;> omega) | (constructor <;> (first | omega | (simp only [LenOk]; omega) | (simp <;> omega)))) (hw.rdTo hb [1] rfl) (hw.give [1] rfl (by decide))).mono ?_
  rintro r19_ w1 ⟨_, d20_, a'21_, bad'22_, rfl, hf1_11, hf1_11_1, hO⟩
  refine (?_ : CL _ _ _ _ _ _ (Own w (fps [Res.row o 133 [v, .int .i64 (a : Nat), .bool bad]]) [Res.row b3 48 [.bool false, .bool false, .int .u64 (0 : Nat), .int .u64 (0 : Nat), .int .u64 (0 : Nat), .int .i64 0, .string (⟨#[]⟩ : ByteArray), .int .i64 0, .int .i64 0, .int .u64 (0 : Nat), .string (⟨#[]⟩ : ByteArray)], Res.row o 133 [v, .int .i64 (a'21_ : Nat), .bool bad'22_], Res.vec 5 1 r19_ d20_.length (d20_.map vb)])) w1 (hw.frameL [1] rfl hO)
  refine l_nil (fun w' hw => ?_)
  have hS := hw.sel [] rfl (by decide)
  refine ⟨hS, ?_⟩
  refine h_one 12 (by kernel_rfl) rfl hw ?_
  refine l_b2s (bs := d20_) (by kernel_rfl) (by kernel_rfl) rfl (fun w' hw' => Vec.sl (Own.holds hw' 2 _ rfl)) rfl ?_
  refine l_nil (fun w' hw => ?_)
  have hS := hw.sel [] rfl (by decide)
  refine ⟨hS, ?_⟩
  refine h_take 13 rfl (by kernel_rfl) (by kernel_rfl) (by kernel_rfl) (v_bld (cs := [.bool f1_, .bool f4_, .int .u64 (n7_ : Nat), .int .u64 (s10_ : Nat), .int .u64 (q11_ : Nat), .int .i64 (op12_ : Nat), .string k13_, .int .i64 am14_, .int .i64 sp15_, .int .u64 (le16_ : Nat), .string (⟨d20_.toArray⟩ : ByteArray)]) (z := [.bool false, .bool false, .int .u64 (0 : Nat), .int .u64 (0 : Nat), .int .u64 (0 : Nat), .int .i64 0, .string (⟨#[]⟩ : ByteArray), .int .i64 0, .int .i64 0, .int .u64 (0 : Nat), .string (⟨#[]⟩ : ByteArray)]) (pl := [(0, 1), (1, 1), (2, 1), (3, 7), (10, 1)]) (by kernel_rfl) (by kernel_rfl)) rfl hS ?_
  refine h_one 14 (by kernel_rfl) rfl hw ?_
  refine l_stN (cs := [.bool false, .bool false, .int .u64 (0 : Nat), .int .u64 (0 : Nat), .int .u64 (0 : Nat), .int .i64 0, .string (⟨#[]⟩ : ByteArray), .int .i64 0, .int .i64 0, .int .u64 (0 : Nat), .string (⟨#[]⟩ : ByteArray)]) (vs := [.bool f1_, .bool f4_, .int .u64 (n7_ : Nat), .int .u64 (s10_ : Nat), .int .u64 (q11_ : Nat), .int .i64 (op12_ : Nat), .string k13_, .int .i64 am14_, .int .i64 sp15_, .int .u64 (le16_ : Nat), .string (⟨d20_.toArray⟩ : ByteArray)]) 0 rfl rfl rfl (by kernel_rfl) (allc_cons rfl (allc_cons rfl (allc_cons rfl (allc_cons rfl (allc_cons rfl (allc_cons rfl (allc_cons rfl (allc_cons rfl (allc_cons rfl (allc_cons rfl (allc_cons rfl allc_nil))))))))))) (Nat.le_of_ble_eq_true rfl) ?_
  refine l_nil (fun w' hw => ?_)
  have hS := hw.sel [] rfl (by decide)
  refine ⟨hS, ?_⟩
  refine h_done (by kernel_rfl) ?_
  refine (?_ : C _ _ _ _ _ _ _ (Own w (fps [Res.row o 133 [v, .int .i64 (a : Nat), .bool bad]]) [Res.row b3 48 [.bool f1_, .bool f4_, .int .u64 (n7_ : Nat), .int .u64 (s10_ : Nat), .int .u64 (q11_ : Nat), .int .i64 (op12_ : Nat), .string k13_, .int .i64 am14_, .int .i64 sp15_, .int .u64 (le16_ : Nat), .string (⟨d20_.toArray⟩ : ByteArray)], Res.row o 133 [v, .int .i64 (a'21_ : Nat), .bool bad'22_], Res.vec 5 1 r19_ d20_.length (d20_.map vb)])) _ hw
  exact c_ret (retc (cs := [.bool f1_, .bool f4_, .int .u64 (n7_ : Nat), .int .u64 (s10_ : Nat), .int .u64 (q11_ : Nat), .int .i64 (op12_ : Nat), .string k13_, .int .i64 am14_, .int .i64 sp15_, .int .u64 (le16_ : Nat), .string (⟨d20_.toArray⟩ : ByteArray)]) rfl rfl (by kernel_rfl) (Own.rowCells (i := 0) rfl) (fun w' hw => ⟨f1_, f4_, n7_, s10_, q11_, op12_, k13_, am14_, sp15_, le16_, (⟨d20_.toArray⟩ : ByteArray), a'21_, bad'22_, rfl, hf1_1.bind (hf1_3.bind (hf1_5.bind (hf1_9.bind (hf1_11.bind (RdS.pure _ hf1_11.le))))), hf1_9_1, hf1_11_1, hw.sel [1] rfl (by decide)⟩))
theorem tldRead_s (o : Nat) (v : Value) (b : List UInt8) (a : Nat) (bad : Bool) (cb : Nat) (w : World) (hl : LenOk b.length) (ha : a ≤ b.length) (hcb : Rd w (fps [Res.row o 133 [v, .int .i64 (a : Nat), .bool bad]]) (Res.row cb 90 [.func (.func 67) #[] #[], .func (.func 68) #[] #[], .func (.func 69) #[] #[]])) (hb : Rd w (fps [Res.row o 133 [v, .int .i64 (a : Nat), .bool bad]]) (Res.sl v b.length (b.map vb))) (hin : Own w (fps [Res.row o 133 [v, .int .i64 (a : Nat), .bool bad]]) [Res.row o 133 [v, .int .i64 (a : Nat), .bool bad]] w) : Rets Tryz.prog 75 #[.pointer (some ⟨o, 0, none⟩), .pointer (some ⟨cb, 0, none⟩)] w fun u_ w' => ∃ (sq : Nat) (rt : Bool) (ld : Nat) (s : Nat) (q : Nat) (op : Nat) (le : Nat) (am : Int) (sp : Int) (mo : Int) (ln : Int) (a' : Nat) (bad' : Bool), u_ = .agg #[.int .u64 (sq : Nat), .bool rt, .int .i64 (ld : Nat), .int .u64 (s : Nat), .int .u64 (q : Nat), .int .i64 (op : Nat), .int .u64 (le : Nat), .int .i64 am, .int .i64 sp, .int .i64 mo, .int .i64 ln] ∧ RdS pTld b a bad (⟨sq, rt, (ld : Int), ⟨s, q, (op : Int), le, am, sp⟩, mo, ln⟩ : TldD) a' bad' ∧ Own w (fps [Res.row o 133 [v, .int .i64 (a : Nat), .bool bad]]) [Res.row o 133 [v, .int .i64 (a' : Nat), .bool bad']] w' := by
  refine fn_enter (args := [.pointer (some ⟨o, 0, none⟩), .pointer (some ⟨cb, 0, none⟩)]) Tryz.func75 rfl Tryz.ntmps75 rfl (show Own w (fps [Res.row o 133 [v, .int .i64 (a : Nat), .bool bad]]) [Res.row o 133 [v, .int .i64 (a : Nat), .bool bad]] w from hin) ?_
  refine c_reg ?_
  refine l_new (v := .agg #[.int .u64 (0 : Nat), .bool false, .int .i64 0, .int .u64 (0 : Nat), .int .u64 (0 : Nat), .int .i64 0, .int .u64 (0 : Nat), .int .i64 0, .int .i64 0, .int .i64 0, .int .i64 0]) (by kernel_rfl) rfl (fun b3 => ?_)
  refine l_end ?_
  refine c_seq ?_
  refine c_heldo [] rfl (by decide) (by kernel_rfl) (fun w' hw hS => ?_)
  refine h_take 0 rfl (by kernel_rfl) (by kernel_rfl) (by kernel_rfl) (v_mv) rfl hS ?_
  refine h_take 2 rfl (by kernel_rfl) (by kernel_rfl) (by kernel_rfl) (v_mv) rfl hS ?_
  refine h_take 4 rfl (by kernel_rfl) (by kernel_rfl) (by kernel_rfl) (v_mv) rfl hS ?_
  refine h_take 6 rfl (by kernel_rfl) (by kernel_rfl) (by kernel_rfl) (v_fld (o := 2) rfl (by kernel_rfl)) rfl hS ?_
  refine h_take 7 rfl (by kernel_rfl) (by kernel_rfl) (by kernel_rfl) (v_ldq (v := .func (.func 69) #[] #[]) rfl (hcb.φ.cell rfl) (hcb.far _ (by simp [Res.row])) (by kernel_rfl)) rfl hS ?_
  refine h_take 8 rfl (by kernel_rfl) (by kernel_rfl) (by kernel_rfl) (v_mv) rfl hS ?_
  refine h_take 10 rfl (by kernel_rfl) (by kernel_rfl) (by kernel_rfl) (v_mv) rfl hS ?_
  refine h_take 13 rfl (by kernel_rfl) (by kernel_rfl) (by kernel_rfl) (v_mv) rfl hS ?_
  refine h_one 1 (by kernel_rfl) rfl hw ?_
  refine l_call (by kernel_rfl) rfl rfl (fun w' hw => ?_)
  refine (inNum_s o v b a bad w' (by first | assumption | omega | (simp <;> omega) | (constructor <;> (first | omega | (simp only [LenOk]; omega) | (simp <;> omega)))) (by first | assumption | omega | (simp <;> omega) | (constructor <;> (first | omega | (simp only [LenOk]; omega) | (simp <;> omega)))) (hw.rdTo hb [0] rfl) (hw.give [0] rfl (by decide))).mono ?_
  rintro _ w1 ⟨n1_, a'2_, bad'3_, rfl, hf1_1, hf1_1_1, hO⟩
  have hq1 := hf1_1.le
  refine (?_ : CL _ _ _ _ _ _ (Own w (fps [Res.row o 133 [v, .int .i64 (a : Nat), .bool bad]]) [Res.row b3 54 [.int .u64 (0 : Nat), .bool false, .int .i64 0, .int .u64 (0 : Nat), .int .u64 (0 : Nat), .int .i64 0, .int .u64 (0 : Nat), .int .i64 0, .int .i64 0, .int .i64 0, .int .i64 0], Res.row o 133 [v, .int .i64 (a'2_ : Nat), .bool bad'3_]])) w1 (hw.frameL [0] rfl hO)
  refine l_nil (fun w' hw => ?_)
  have hS := hw.sel [] rfl (by decide)
  refine ⟨hS, ?_⟩
  refine h_one 3 (by kernel_rfl) rfl hw ?_
  refine l_call (by kernel_rfl) rfl rfl (fun w' hw => ?_)
  refine (inFlag_s o v b a'2_ bad'3_ w' (by first | assumption | omega | (simp <;> omega) | (constructor <;> (first | omega | (simp only [LenOk]; omega) | (simp <;> omega)))) (by first | assumption | omega | (simp <;> omega) | (constructor <;> (first | omega | (simp only [LenOk]; omega) | (simp <;> omega)))) (hw.rdTo hb [1] rfl) (hw.give [1] rfl (by decide))).mono ?_
  rintro _ w1 ⟨f4_, a'5_, bad'6_, rfl, hf1_3, hO⟩
  have hq2 := hf1_3.le
  refine (?_ : CL _ _ _ _ _ _ (Own w (fps [Res.row o 133 [v, .int .i64 (a : Nat), .bool bad]]) [Res.row b3 54 [.int .u64 (0 : Nat), .bool false, .int .i64 0, .int .u64 (0 : Nat), .int .u64 (0 : Nat), .int .i64 0, .int .u64 (0 : Nat), .int .i64 0, .int .i64 0, .int .i64 0, .int .i64 0], Res.row o 133 [v, .int .i64 (a'5_ : Nat), .bool bad'6_]])) w1 (hw.frameL [1] rfl hO)
  refine l_nil (fun w' hw => ?_)
  have hS := hw.sel [] rfl (by decide)
  refine ⟨hS, ?_⟩
  refine h_one 5 (by kernel_rfl) rfl hw ?_
  refine l_call (by kernel_rfl) rfl rfl (fun w' hw => ?_)
  refine (inUpto_s o v b a'5_ bad'6_ 16 w' (by first | assumption | omega | (simp <;> omega) | (constructor <;> (first | omega | (simp only [LenOk]; omega) | (simp <;> omega)))) (by first | assumption | omega | (simp <;> omega) | (constructor <;> (first | omega | (simp only [LenOk]; omega) | (simp <;> omega)))) (by first | assumption | omega | (simp <;> omega) | (constructor <;> (first | omega | (simp only [LenOk]; omega) | (simp <;> omega)))) (hw.rdTo hb [1] rfl) (hw.give [1] rfl (by decide))).mono ?_
  rintro _ w1 ⟨n7_, a'8_, bad'9_, rfl, hf1_5, hf1_5_1, hO⟩
  have hq3 := hf1_5.le
  refine (?_ : CL _ _ _ _ _ _ (Own w (fps [Res.row o 133 [v, .int .i64 (a : Nat), .bool bad]]) [Res.row b3 54 [.int .u64 (0 : Nat), .bool false, .int .i64 0, .int .u64 (0 : Nat), .int .u64 (0 : Nat), .int .i64 0, .int .u64 (0 : Nat), .int .i64 0, .int .i64 0, .int .i64 0, .int .i64 0], Res.row o 133 [v, .int .i64 (a'8_ : Nat), .bool bad'9_]])) w1 (hw.frameL [1] rfl hO)
  refine l_nil (fun w' hw => ?_)
  have hS := hw.sel [] rfl (by decide)
  refine ⟨hS, ?_⟩
  refine h_one 9 (by kernel_rfl) rfl hw ?_
  refine l_callv (fst := []) (cap := []) rfl (by kernel_rfl) rfl rfl (fun w' hw => ?_)
  refine (replyRead_s o v b a'8_ bad'9_ w' (by first | assumption | omega | (simp <;> omega) | (constructor <;> (first | omega | (simp only [LenOk]; omega) | (simp <;> omega)))) (by first | assumption | omega | (simp <;> omega) | (constructor <;> (first | omega | (simp only [LenOk]; omega) | (simp <;> omega)))) (hw.rdTo hb [1] rfl) (hw.give [1] rfl (by decide))).mono ?_
  rintro _ w1 ⟨s10_, q11_, op12_, le13_, am14_, sp15_, a'16_, bad'17_, rfl, hf1_9, hO⟩
  have hq4 := hf1_9.le
  refine (?_ : CL _ _ _ _ _ _ (Own w (fps [Res.row o 133 [v, .int .i64 (a : Nat), .bool bad]]) [Res.row b3 54 [.int .u64 (0 : Nat), .bool false, .int .i64 0, .int .u64 (0 : Nat), .int .u64 (0 : Nat), .int .i64 0, .int .u64 (0 : Nat), .int .i64 0, .int .i64 0, .int .i64 0, .int .i64 0], Res.row o 133 [v, .int .i64 (a'16_ : Nat), .bool bad'17_]])) w1 (hw.frameL [1] rfl hO)
  refine l_nil (fun w' hw => ?_)
  have hS := hw.sel [] rfl (by decide)
  refine ⟨hS, ?_⟩
  refine h_one 11 (by kernel_rfl) rfl hw ?_
  refine l_call (by kernel_rfl) rfl rfl (fun w' hw => ?_)
  refine (inNum_s o v b a'16_ bad'17_ w' (by first | assumption | omega | (simp <;> omega) | (constructor <;> (first | omega | (simp only [LenOk]; omega) | (simp <;> omega)))) (by first | assumption | omega | (simp <;> omega) | (constructor <;> (first | omega | (simp only [LenOk]; omega) | (simp <;> omega)))) (hw.rdTo hb [1] rfl) (hw.give [1] rfl (by decide))).mono ?_
  rintro _ w1 ⟨n18_, a'19_, bad'20_, rfl, hf1_11, hf1_11_1, hO⟩
  have hq5 := hf1_11.le
  refine (?_ : CL _ _ _ _ _ _ (Own w (fps [Res.row o 133 [v, .int .i64 (a : Nat), .bool bad]]) [Res.row b3 54 [.int .u64 (0 : Nat), .bool false, .int .i64 0, .int .u64 (0 : Nat), .int .u64 (0 : Nat), .int .i64 0, .int .u64 (0 : Nat), .int .i64 0, .int .i64 0, .int .i64 0, .int .i64 0], Res.row o 133 [v, .int .i64 (a'19_ : Nat), .bool bad'20_]])) w1 (hw.frameL [1] rfl hO)
  refine l_nil (fun w' hw => ?_)
  have hS := hw.sel [] rfl (by decide)
  refine ⟨hS, ?_⟩
  refine h_take 12 rfl (by kernel_rfl) (by kernel_rfl) (by kernel_rfl) (v_cvt (c := toI n18_) (by kernel_rfl) rfl (wrap_toI hf1_11_1) (by kernel_rfl)) rfl hS ?_
  refine h_one 14 (by kernel_rfl) rfl hw ?_
  refine l_call (by kernel_rfl) rfl rfl (fun w' hw => ?_)
  refine (inNum_s o v b a'19_ bad'20_ w' (by first | assumption | omega | (simp <;> omega) | (constructor <;> (first | omega | (simp only [LenOk]; omega) | (simp <;> omega)))) (by first | assumption | omega | (simp <;> omega) | (constructor <;> (first | omega | (simp only [LenOk]; omega) | (simp <;> omega)))) (hw.rdTo hb [1] rfl) (hw.give [1] rfl (by decide))).mono ?_
  rintro _ w1 ⟨n21_, a'22_, bad'23_, rfl, hf1_14, hf1_14_1, hO⟩
  refine (?_ : CL _ _ _ _ _ _ (Own w (fps [Res.row o 133 [v, .int .i64 (a : Nat), .bool bad]]) [Res.row b3 54 [.int .u64 (0 : Nat), .bool false, .int .i64 0, .int .u64 (0 : Nat), .int .u64 (0 : Nat), .int .i64 0, .int .u64 (0 : Nat), .int .i64 0, .int .i64 0, .int .i64 0, .int .i64 0], Res.row o 133 [v, .int .i64 (a'22_ : Nat), .bool bad'23_]])) w1 (hw.frameL [1] rfl hO)
  refine l_nil (fun w' hw => ?_)
  have hS := hw.sel [] rfl (by decide)
  refine ⟨hS, ?_⟩
  refine h_take 15 rfl (by kernel_rfl) (by kernel_rfl) (by kernel_rfl) (v_cvt (c := toI n21_) (by kernel_rfl) rfl (wrap_toI hf1_14_1) (by kernel_rfl)) rfl hS ?_
  refine h_take 16 rfl (by kernel_rfl) (by kernel_rfl) (by kernel_rfl) (v_bld (cs := [.int .u64 (n1_ : Nat), .bool f4_, .int .i64 (n7_ : Nat), .int .u64 (s10_ : Nat), .int .u64 (q11_ : Nat), .int .i64 (op12_ : Nat), .int .u64 (le13_ : Nat), .int .i64 am14_, .int .i64 sp15_, .int .i64 (toI n18_), .int .i64 (toI n21_)]) (z := [.int .u64 (0 : Nat), .bool false, .int .i64 0, .int .u64 (0 : Nat), .int .u64 (0 : Nat), .int .i64 0, .int .u64 (0 : Nat), .int .i64 0, .int .i64 0, .int .i64 0, .int .i64 0]) (pl := [(0, 1), (1, 1), (2, 1), (3, 6), (9, 1), (10, 1)]) (by kernel_rfl) (by kernel_rfl)) rfl hS ?_
  refine h_one 17 (by kernel_rfl) rfl hw ?_
  refine l_stN (cs := [.int .u64 (0 : Nat), .bool false, .int .i64 0, .int .u64 (0 : Nat), .int .u64 (0 : Nat), .int .i64 0, .int .u64 (0 : Nat), .int .i64 0, .int .i64 0, .int .i64 0, .int .i64 0]) (vs := [.int .u64 (n1_ : Nat), .bool f4_, .int .i64 (n7_ : Nat), .int .u64 (s10_ : Nat), .int .u64 (q11_ : Nat), .int .i64 (op12_ : Nat), .int .u64 (le13_ : Nat), .int .i64 am14_, .int .i64 sp15_, .int .i64 (toI n18_), .int .i64 (toI n21_)]) 0 rfl rfl rfl (by kernel_rfl) (allc_cons rfl (allc_cons rfl (allc_cons rfl (allc_cons rfl (allc_cons rfl (allc_cons rfl (allc_cons rfl (allc_cons rfl (allc_cons rfl (allc_cons rfl (allc_cons rfl allc_nil))))))))))) (Nat.le_of_ble_eq_true rfl) ?_
  refine l_nil (fun w' hw => ?_)
  have hS := hw.sel [] rfl (by decide)
  refine ⟨hS, ?_⟩
  refine h_done (by kernel_rfl) ?_
  refine (?_ : C _ _ _ _ _ _ _ (Own w (fps [Res.row o 133 [v, .int .i64 (a : Nat), .bool bad]]) [Res.row b3 54 [.int .u64 (n1_ : Nat), .bool f4_, .int .i64 (n7_ : Nat), .int .u64 (s10_ : Nat), .int .u64 (q11_ : Nat), .int .i64 (op12_ : Nat), .int .u64 (le13_ : Nat), .int .i64 am14_, .int .i64 sp15_, .int .i64 (toI n18_), .int .i64 (toI n21_)], Res.row o 133 [v, .int .i64 (a'22_ : Nat), .bool bad'23_]])) _ hw
  exact c_ret (retc (cs := [.int .u64 (n1_ : Nat), .bool f4_, .int .i64 (n7_ : Nat), .int .u64 (s10_ : Nat), .int .u64 (q11_ : Nat), .int .i64 (op12_ : Nat), .int .u64 (le13_ : Nat), .int .i64 am14_, .int .i64 sp15_, .int .i64 (toI n18_), .int .i64 (toI n21_)]) rfl rfl (by kernel_rfl) (Own.rowCells (i := 0) rfl) (fun w' hw => ⟨n1_, f4_, n7_, s10_, q11_, op12_, le13_, am14_, sp15_, toI n18_, toI n21_, a'22_, bad'23_, rfl, hf1_1.bind (hf1_3.bind (RdS.bind hf1_5.int (hf1_9.bind (hf1_11.bind (hf1_14.bind (RdS.pure _ hf1_14.le)))))), hw.sel [1] rfl (by decide)⟩))
theorem asks_s (w : World) : Rets Tryz.prog 34 #[] w fun u_ w' => ∃ (cb : Nat), u_ = .agg #[.func (.func 70) #[] #[.pointer (some ⟨cb, 0, none⟩)], .func (.func 71) #[] #[.pointer (some ⟨cb, 0, none⟩)], .func (.func 72) #[] #[.pointer (some ⟨cb, 0, none⟩)]] ∧ Own w [] [Res.row cb 83 [.func (.func 64) #[] #[], .func (.func 65) #[] #[], .func (.func 66) #[] #[]]] w' := by
  refine fn_enter (args := []) Tryz.func34 rfl Tryz.ntmps34 rfl (Own.start w) ?_
  refine c_reg ?_
  refine l_new (v := .agg #[.nilFunc, .nilFunc, .nilFunc]) (by kernel_rfl) rfl (fun b0 => ?_)
  refine l_end ?_
  refine c_reg ?_
  refine l_call (by kernel_rfl) rfl rfl (fun w' hw => ?_)
  refine (commands_s w').mono ?_
  rintro _ w1 ⟨rfl, hO⟩
  refine (?_ : CL _ _ _ _ _ _ (Own w [] [Res.row b0 97 [.nilFunc, .nilFunc, .nilFunc]])) w1 (hw.frame0 hO)
  refine l_new (v := .agg #[.nilFunc, .nilFunc, .nilFunc]) (by kernel_rfl) rfl (fun b1 => ?_)
  refine l_stN (cs := [.nilFunc, .nilFunc, .nilFunc]) (vs := [.func (.func 64) #[] #[], .func (.func 65) #[] #[], .func (.func 66) #[] #[]]) 1 rfl rfl rfl (by kernel_rfl) (allc_cons rfl (allc_cons rfl (allc_cons rfl allc_nil))) (Nat.le_of_ble_eq_true rfl) ?_
  refine l_end ?_
  refine c_reg ?_
  refine l_fn (va := []) (vb := [.pointer (some ⟨b1, 0, none⟩)]) rfl rfl rfl ?_
  refine l_fn (va := []) (vb := [.pointer (some ⟨b1, 0, none⟩)]) rfl rfl rfl ?_
  refine l_fn (va := []) (vb := [.pointer (some ⟨b1, 0, none⟩)]) rfl rfl rfl ?_
  refine l_bld (cs := [.func (.func 70) #[] #[.pointer (some ⟨b1, 0, none⟩)], .func (.func 71) #[] #[.pointer (some ⟨b1, 0, none⟩)], .func (.func 72) #[] #[.pointer (some ⟨b1, 0, none⟩)]]) (z := [.nilFunc, .nilFunc, .nilFunc]) (pl := [(0, 1), (1, 1), (2, 1)]) (by kernel_rfl) (by kernel_rfl) rfl ?_
  refine l_stN (cs := [.nilFunc, .nilFunc, .nilFunc]) (vs := [.func (.func 70) #[] #[.pointer (some ⟨b1, 0, none⟩)], .func (.func 71) #[] #[.pointer (some ⟨b1, 0, none⟩)], .func (.func 72) #[] #[.pointer (some ⟨b1, 0, none⟩)]]) 0 rfl rfl rfl (by kernel_rfl) (allc_cons rfl (allc_cons rfl (allc_cons rfl allc_nil))) (Nat.le_of_ble_eq_true rfl) ?_
  refine l_end ?_
  exact c_ret (retc (cs := [.func (.func 70) #[] #[.pointer (some ⟨b1, 0, none⟩)], .func (.func 71) #[] #[.pointer (some ⟨b1, 0, none⟩)], .func (.func 72) #[] #[.pointer (some ⟨b1, 0, none⟩)]]) rfl rfl (by kernel_rfl) (Own.rowCells (i := 0) rfl) (fun w' hw => ⟨b1, rfl, hw.sel [1] rfl (by decide)⟩))
theorem tolds_s (w : World) : Rets Tryz.prog 37 #[] w fun u_ w' => ∃ (cb : Nat), u_ = .agg #[.func (.func 73) #[] #[.pointer (some ⟨cb, 0, none⟩)], .func (.func 74) #[] #[.pointer (some ⟨cb, 0, none⟩)], .func (.func 75) #[] #[.pointer (some ⟨cb, 0, none⟩)]] ∧ Own w [] [Res.row cb 90 [.func (.func 67) #[] #[], .func (.func 68) #[] #[], .func (.func 69) #[] #[]]] w' := by
  refine fn_enter (args := []) Tryz.func37 rfl Tryz.ntmps37 rfl (Own.start w) ?_
  refine c_reg ?_
  refine l_new (v := .agg #[.nilFunc, .nilFunc, .nilFunc]) (by kernel_rfl) rfl (fun b0 => ?_)
  refine l_end ?_
  refine c_reg ?_
  refine l_call (by kernel_rfl) rfl rfl (fun w' hw => ?_)
  refine (replies_s w').mono ?_
  rintro _ w1 ⟨rfl, hO⟩
  refine (?_ : CL _ _ _ _ _ _ (Own w [] [Res.row b0 103 [.nilFunc, .nilFunc, .nilFunc]])) w1 (hw.frame0 hO)
  refine l_new (v := .agg #[.nilFunc, .nilFunc, .nilFunc]) (by kernel_rfl) rfl (fun b1 => ?_)
  refine l_stN (cs := [.nilFunc, .nilFunc, .nilFunc]) (vs := [.func (.func 67) #[] #[], .func (.func 68) #[] #[], .func (.func 69) #[] #[]]) 1 rfl rfl rfl (by kernel_rfl) (allc_cons rfl (allc_cons rfl (allc_cons rfl allc_nil))) (Nat.le_of_ble_eq_true rfl) ?_
  refine l_end ?_
  refine c_reg ?_
  refine l_fn (va := []) (vb := [.pointer (some ⟨b1, 0, none⟩)]) rfl rfl rfl ?_
  refine l_fn (va := []) (vb := [.pointer (some ⟨b1, 0, none⟩)]) rfl rfl rfl ?_
  refine l_fn (va := []) (vb := [.pointer (some ⟨b1, 0, none⟩)]) rfl rfl rfl ?_
  refine l_bld (cs := [.func (.func 73) #[] #[.pointer (some ⟨b1, 0, none⟩)], .func (.func 74) #[] #[.pointer (some ⟨b1, 0, none⟩)], .func (.func 75) #[] #[.pointer (some ⟨b1, 0, none⟩)]]) (z := [.nilFunc, .nilFunc, .nilFunc]) (pl := [(0, 1), (1, 1), (2, 1)]) (by kernel_rfl) (by kernel_rfl) rfl ?_
  refine l_stN (cs := [.nilFunc, .nilFunc, .nilFunc]) (vs := [.func (.func 73) #[] #[.pointer (some ⟨b1, 0, none⟩)], .func (.func 74) #[] #[.pointer (some ⟨b1, 0, none⟩)], .func (.func 75) #[] #[.pointer (some ⟨b1, 0, none⟩)]]) 0 rfl rfl rfl (by kernel_rfl) (allc_cons rfl (allc_cons rfl (allc_cons rfl allc_nil))) (Nat.le_of_ble_eq_true rfl) ?_
  refine l_end ?_
  exact c_ret (retc (cs := [.func (.func 73) #[] #[.pointer (some ⟨b1, 0, none⟩)], .func (.func 74) #[] #[.pointer (some ⟨b1, 0, none⟩)], .func (.func 75) #[] #[.pointer (some ⟨b1, 0, none⟩)]]) rfl rfl (by kernel_rfl) (Own.rowCells (i := 0) rfl) (fun w' hw => ⟨b1, rfl, hw.sel [1] rfl (by decide)⟩))
theorem askValue_s (v : Value) (b : List UInt8) (cb : Nat) (w : World) (hl : b.length ≤ 1048576) (hcb : Rd w [] (Res.row cb 83 [.func (.func 64) #[] #[], .func (.func 65) #[] #[], .func (.func 66) #[] #[]])) (hb : Rd w [] (Res.sl v b.length (b.map vb))) : Rets Tryz.prog 35 #[.agg #[.func (.func 70) #[] #[.pointer (some ⟨cb, 0, none⟩)], .func (.func 71) #[] #[.pointer (some ⟨cb, 0, none⟩)], .func (.func 72) #[] #[.pointer (some ⟨cb, 0, none⟩)]], v] w fun u_ w' => ∃ (lo : Bool) (la : Bool) (sq : Nat) (s : Nat) (q : Nat) (op : Int) (k : ByteArray) (am : Int) (sp : Int) (le : Nat) (k2 : ByteArray) (e : Int), u_ = .tuple #[.agg #[.bool lo, .bool la, .int .u64 (sq : Nat), .int .u64 (s : Nat), .int .u64 (q : Nat), .int .i64 op, .string k, .int .i64 am, .int .i64 sp, .int .u64 (le : Nat), .string k2], .int .i64 e] ∧ ValPost (decAsk b) (⟨lo, la, sq, ⟨s, q, op, k, am, sp, le⟩, k2⟩ : AskD) askZ e ∧ Own w [] [] w' := by
  refine fn_enter (args := [.agg #[.func (.func 70) #[] #[.pointer (some ⟨cb, 0, none⟩)], .func (.func 71) #[] #[.pointer (some ⟨cb, 0, none⟩)], .func (.func 72) #[] #[.pointer (some ⟨cb, 0, none⟩)]], v]) Tryz.func35 rfl Tryz.ntmps35 rfl (Own.start w) ?_
  refine c_reg ?_
  refine l_box rfl rfl (fun b2 => ?_)
  refine l_new (v := .agg #[.bool false, .bool false, .int .u64 (0 : Nat), .int .u64 (0 : Nat), .int .u64 (0 : Nat), .int .i64 0, .string (⟨#[]⟩ : ByteArray), .int .i64 0, .int .i64 0, .int .u64 (0 : Nat), .string (⟨#[]⟩ : ByteArray)]) (by kernel_rfl) rfl (fun b4 => ?_)
  refine l_as rfl ?_
  refine l_end ?_
  refine c_reg ?_
  refine l_mv rfl ?_
  refine l_bldc (cs := [v, .int .i64 0, .bool false]) (z := [.slice none 0 0, .int .i64 0, .bool false]) (pl := [(0, 1), (1, 1), (2, 1)]) (by kernel_rfl) ⟨(Sl.cell1 (Rd.φ hb)), trivial⟩ (by kernel_rfl) rfl ?_
  refine l_box rfl rfl (fun b10 => ?_)
  refine l_as rfl ?_
  refine l_end ?_
  refine c_reg ?_
  refine l_fld (o := 2) rfl (by kernel_rfl) rfl ?_
  refine l_ldo 0 (v := .func (.func 72) #[] #[.pointer (some ⟨cb, 0, none⟩)]) rfl rfl rfl (by kernel_rfl) rfl ?_
  refine l_mv rfl ?_
  refine l_callv (fst := []) (cap := [.pointer (some ⟨cb, 0, none⟩)]) rfl (by kernel_rfl) rfl rfl (fun w' hw => ?_)
  refine (askRead_s b10 v b 0 false cb w' (by first | assumption | omega | (simp <;> omega) | (constructor <;> (first | omega | (simp only [LenOk]; omega) | (simp <;> omega)))) (by first | assumption | omega | (simp <;> omega) | (constructor <;> (first | omega | (simp only [LenOk]; omega) | (simp <;> omega)))) (hw.rdTo hcb [2] rfl) (hw.rdTo hb [2] rfl) (hw.give [2] rfl (by decide))).mono ?_
  rintro _ w1 ⟨lo1_, la2_, sq3_, s4_, q5_, op6_, k7_, am8_, sp9_, le10_, k211_, a'12_, bad'13_, rfl, hf2_3, hf2_3_1, hf2_3_2, hO⟩
  refine (?_ : CL _ _ _ _ _ _ (Own w [] [Res.row b2 97 [.func (.func 70) #[] #[.pointer (some ⟨cb, 0, none⟩)], .func (.func 71) #[] #[.pointer (some ⟨cb, 0, none⟩)], .func (.func 72) #[] #[.pointer (some ⟨cb, 0, none⟩)]], Res.row b4 48 [.bool false, .bool false, .int .u64 (0 : Nat), .int .u64 (0 : Nat), .int .u64 (0 : Nat), .int .i64 0, .string (⟨#[]⟩ : ByteArray), .int .i64 0, .int .i64 0, .int .u64 (0 : Nat), .string (⟨#[]⟩ : ByteArray)], Res.row b10 133 [v, .int .i64 (a'12_ : Nat), .bool bad'13_]])) w1 (hw.frameL [2] rfl hO)
  refine l_stN (cs := [.bool false, .bool false, .int .u64 (0 : Nat), .int .u64 (0 : Nat), .int .u64 (0 : Nat), .int .i64 0, .string (⟨#[]⟩ : ByteArray), .int .i64 0, .int .i64 0, .int .u64 (0 : Nat), .string (⟨#[]⟩ : ByteArray)]) (vs := [.bool lo1_, .bool la2_, .int .u64 (sq3_ : Nat), .int .u64 (s4_ : Nat), .int .u64 (q5_ : Nat), .int .i64 (op6_ : Nat), .string k7_, .int .i64 am8_, .int .i64 sp9_, .int .u64 (le10_ : Nat), .string k211_]) 1 rfl rfl rfl (by kernel_rfl) (allc_cons rfl (allc_cons rfl (allc_cons rfl (allc_cons rfl (allc_cons rfl (allc_cons rfl (allc_cons rfl (allc_cons rfl (allc_cons rfl (allc_cons rfl (allc_cons rfl allc_nil))))))))))) (Nat.le_of_ble_eq_true rfl) ?_
  refine l_end ?_
  refine c_seq ?_
  refine c_reg ?_
  refine l_mv rfl ?_
  refine l_nck rfl rfl ?_
  refine l_fld (o := 2) rfl (by kernel_rfl) rfl ?_
  refine l_ldo 2 (v := .bool bad'13_) rfl rfl rfl (by kernel_rfl) rfl ?_
  refine l_mv rfl ?_
  refine l_bor (q := bad'13_ = true) 7 4 [26, 25, 24, 23, 22, 21, 20] (((a'12_ : Nat) : Int) ≠ ((b.length : Nat) : Int)) rfl rfl (bool_dec _) rfl rfl rfl trivial rfl (fun h3_4 => ?_) (fun g3_12 => ?_)
  ·
    refine l_on rfl (bF h3_4) ?_
    refine l_mv rfl ?_
    refine l_on rfl (bF h3_4) ?_
    refine l_nck rfl rfl ?_
    refine l_on rfl (bF h3_4) ?_
    refine l_fld (o := 1) rfl (by kernel_rfl) rfl ?_
    refine l_on rfl (bF h3_4) ?_
    refine l_ldo 2 (v := .int .i64 (a'12_ : Nat)) rfl rfl rfl (by kernel_rfl) rfl ?_
    refine l_on rfl (bF h3_4) ?_
    refine l_mv rfl ?_
    refine l_on rfl (bF h3_4) ?_
    refine l_lenS (len := b.length) (cs := (b.map vb)) (by kernel_rfl) rfl (fun w' hw' => Own.rd hb hw') rfl ?_
    refine l_on rfl (bF h3_4) ?_
    refine l_ne rfl rfl rfl ?_
    exact l_nil (fun w' hw => ⟨(by repeat (first | exact Out.refl _ _ | refine Out.upd rfl ?_ | refine Out.msk rfl ?_)), rfl, hw⟩)
  refine l_mv rfl ?_
  refine l_bor (q := (bad'13_ = true) ∨ (((a'12_ : Nat) : Int) ≠ ((b.length : Nat) : Int))) 5 13 [33, 32, 31, 30, 29] (¬ (({ look := lo1_, lazy := la2_, seq := sq3_, cmd := ({ session := s4_, seq := q5_, op := ((op6_ : Nat) : Int), key := k7_, amount := am8_, span := sp9_, lease := le10_ } : CmdD), key := k211_ } : AskD).ok)) rfl rfl rfl rfl rfl rfl trivial rfl (fun h3_13 => ?_) (fun g3_19 => ?_)
  ·
    refine l_on rfl (gF h3_13) ?_
    refine l_fld (o := 0) rfl (by kernel_rfl) rfl ?_
    refine l_on rfl (gF h3_13) ?_
    refine l_ldo 0 (v := .func (.func 70) #[] #[.pointer (some ⟨cb, 0, none⟩)]) rfl rfl rfl (by kernel_rfl) rfl ?_
    refine l_on rfl (gF h3_13) ?_
    refine l_ldr (cs := [.bool lo1_, .bool la2_, .int .u64 (sq3_ : Nat), .int .u64 (s4_ : Nat), .int .u64 (q5_ : Nat), .int .i64 (op6_ : Nat), .string k7_, .int .i64 am8_, .int .i64 sp9_, .int .u64 (le10_ : Nat), .string k211_]) 1 rfl rfl (by kernel_rfl) rfl ?_
    refine l_on rfl (gF h3_13) ?_
    refine l_callv (fst := []) (cap := [.pointer (some ⟨cb, 0, none⟩)]) rfl (by kernel_rfl) rfl rfl (fun w' hw => ?_)
    refine (askSound_s ({ look := lo1_, lazy := la2_, seq := sq3_, cmd := ({ session := s4_, seq := q5_, op := ((op6_ : Nat) : Int), key := k7_, amount := am8_, span := sp9_, lease := le10_ } : CmdD), key := k211_ } : AskD) cb w' (by have := hf2_3_2; dsimp only; omega) (by have := hf2_3_1; dsimp only; omega) (hw.rd0 hcb)).mono ?_
    rintro _ w1 ⟨rfl, hO⟩
    refine (?_ : CL _ _ _ _ _ _ (Own w [] [Res.row b2 97 [.func (.func 70) #[] #[.pointer (some ⟨cb, 0, none⟩)], .func (.func 71) #[] #[.pointer (some ⟨cb, 0, none⟩)], .func (.func 72) #[] #[.pointer (some ⟨cb, 0, none⟩)]], Res.row b4 48 [.bool lo1_, .bool la2_, .int .u64 (sq3_ : Nat), .int .u64 (s4_ : Nat), .int .u64 (q5_ : Nat), .int .i64 (op6_ : Nat), .string k7_, .int .i64 am8_, .int .i64 sp9_, .int .u64 (le10_ : Nat), .string k211_], Res.row b10 133 [v, .int .i64 (a'12_ : Nat), .bool bad'13_]])) w1 (hw.frame0 hO)
    refine l_on rfl (gF h3_13) ?_
    refine l_notp (q := ({ look := lo1_, lazy := la2_, seq := sq3_, cmd := ({ session := s4_, seq := q5_, op := ((op6_ : Nat) : Int), key := k7_, amount := am8_, span := sp9_, lease := le10_ } : CmdD), key := k211_ } : AskD).ok) rfl rfl ?_
    exact l_nil (fun w' hw => ⟨(by repeat (first | exact Out.refl _ _ | refine Out.upd rfl ?_ | refine Out.msk rfl ?_)), rfl, hw⟩)
  refine l_end ?_
  refine c_dec rfl (fun c1 => ?_) (fun c1 => ?_)
  ·
    refine c_reg ?_
    refine l_new (v := .agg #[.bool false, .bool false, .int .u64 (0 : Nat), .int .u64 (0 : Nat), .int .u64 (0 : Nat), .int .i64 0, .string (⟨#[]⟩ : ByteArray), .int .i64 0, .int .i64 0, .int .u64 (0 : Nat), .string (⟨#[]⟩ : ByteArray)]) (by kernel_rfl) rfl (fun b7 => ?_)
    refine l_end ?_
    refine c_reg ?_
    refine l_ldr (cs := [.bool false, .bool false, .int .u64 (0 : Nat), .int .u64 (0 : Nat), .int .u64 (0 : Nat), .int .i64 0, .string (⟨#[]⟩ : ByteArray), .int .i64 0, .int .i64 0, .int .u64 (0 : Nat), .string (⟨#[]⟩ : ByteArray)]) 3 rfl rfl (by kernel_rfl) rfl ?_
    refine l_stN (cs := [.bool lo1_, .bool la2_, .int .u64 (sq3_ : Nat), .int .u64 (s4_ : Nat), .int .u64 (q5_ : Nat), .int .i64 (op6_ : Nat), .string k7_, .int .i64 am8_, .int .i64 sp9_, .int .u64 (le10_ : Nat), .string k211_]) (vs := [.bool false, .bool false, .int .u64 (0 : Nat), .int .u64 (0 : Nat), .int .u64 (0 : Nat), .int .i64 0, .string (⟨#[]⟩ : ByteArray), .int .i64 0, .int .i64 0, .int .u64 (0 : Nat), .string (⟨#[]⟩ : ByteArray)]) 1 rfl rfl rfl (by kernel_rfl) (allc_cons rfl (allc_cons rfl (allc_cons rfl (allc_cons rfl (allc_cons rfl (allc_cons rfl (allc_cons rfl (allc_cons rfl (allc_cons rfl (allc_cons rfl (allc_cons rfl allc_nil))))))))))) (Nat.le_of_ble_eq_true rfl) ?_
    refine l_as rfl ?_
    refine l_end ?_
    exact c_ret (retc2 (cs := [.bool false, .bool false, .int .u64 (0 : Nat), .int .u64 (0 : Nat), .int .u64 (0 : Nat), .int .i64 0, .string (⟨#[]⟩ : ByteArray), .int .i64 0, .int .i64 0, .int .u64 (0 : Nat), .string (⟨#[]⟩ : ByteArray)]) (v := .int .i64 4) rfl rfl rfl (by kernel_rfl) (Own.rowCells (i := 1) rfl) (fun w' hw => ⟨false, false, 0, 0, 0, 0, ⟨#[]⟩, 0, 0, 0, ⟨#[]⟩, 4, rfl, .inr ⟨rfl, whole_no hf2_3 (fun h1 h2 h3 => c1.elim (fun h => h.elim (fun h => (by rw [h1] at h; cases h)) (fun h => h (by omega))) (fun h => h h3)), rfl⟩, hw.drop⟩))
  ·
    refine c_skipC ?_
    refine c_reg ?_
    refine l_ldr (cs := [.bool lo1_, .bool la2_, .int .u64 (sq3_ : Nat), .int .u64 (s4_ : Nat), .int .u64 (q5_ : Nat), .int .i64 (op6_ : Nat), .string k7_, .int .i64 am8_, .int .i64 sp9_, .int .u64 (le10_ : Nat), .string k211_]) 1 rfl rfl (by kernel_rfl) rfl ?_
    refine l_stN (cs := [.bool lo1_, .bool la2_, .int .u64 (sq3_ : Nat), .int .u64 (s4_ : Nat), .int .u64 (q5_ : Nat), .int .i64 (op6_ : Nat), .string k7_, .int .i64 am8_, .int .i64 sp9_, .int .u64 (le10_ : Nat), .string k211_]) (vs := [.bool lo1_, .bool la2_, .int .u64 (sq3_ : Nat), .int .u64 (s4_ : Nat), .int .u64 (q5_ : Nat), .int .i64 (op6_ : Nat), .string k7_, .int .i64 am8_, .int .i64 sp9_, .int .u64 (le10_ : Nat), .string k211_]) 1 rfl rfl rfl (by kernel_rfl) (allc_cons rfl (allc_cons rfl (allc_cons rfl (allc_cons rfl (allc_cons rfl (allc_cons rfl (allc_cons rfl (allc_cons rfl (allc_cons rfl (allc_cons rfl (allc_cons rfl allc_nil))))))))))) (Nat.le_of_ble_eq_true rfl) ?_
    refine l_as rfl ?_
    refine l_end ?_
    exact c_ret (retc2 (cs := [.bool lo1_, .bool la2_, .int .u64 (sq3_ : Nat), .int .u64 (s4_ : Nat), .int .u64 (q5_ : Nat), .int .i64 (op6_ : Nat), .string k7_, .int .i64 am8_, .int .i64 sp9_, .int .u64 (le10_ : Nat), .string k211_]) (v := .int .i64 0) rfl rfl rfl (by kernel_rfl) (Own.rowCells (i := 1) rfl) (fun w' hw => ⟨lo1_, la2_, sq3_, s4_, q5_, ((op6_ : Nat) : Int), k7_, am8_, sp9_, le10_, k211_, 0, rfl, .inl ⟨rfl, whole_yes hf2_3 (by cases h : bad'13_; rfl; exact absurd (.inl (.inl h)) c1) (by have : ¬ (a'12_ : Int) ≠ b.length := fun h => c1 (.inl (.inr h)); omega) (Decidable.not_not.1 fun h => c1 (.inr h))⟩, hw.drop⟩))
theorem tldValue_s (v : Value) (b : List UInt8) (cb : Nat) (w : World) (hl : b.length ≤ 1048576) (hcb : Rd w [] (Res.row cb 90 [.func (.func 67) #[] #[], .func (.func 68) #[] #[], .func (.func 69) #[] #[]])) (hb : Rd w [] (Res.sl v b.length (b.map vb))) : Rets Tryz.prog 38 #[.agg #[.func (.func 73) #[] #[.pointer (some ⟨cb, 0, none⟩)], .func (.func 74) #[] #[.pointer (some ⟨cb, 0, none⟩)], .func (.func 75) #[] #[.pointer (some ⟨cb, 0, none⟩)]], v] w fun u_ w' => ∃ (sq : Nat) (rt : Bool) (ld : Int) (s : Nat) (q : Nat) (op : Int) (le : Nat) (am : Int) (sp : Int) (mo : Int) (ln : Int) (e : Int), u_ = .tuple #[.agg #[.int .u64 (sq : Nat), .bool rt, .int .i64 ld, .int .u64 (s : Nat), .int .u64 (q : Nat), .int .i64 op, .int .u64 (le : Nat), .int .i64 am, .int .i64 sp, .int .i64 mo, .int .i64 ln], .int .i64 e] ∧ ValPost (decTld b) (⟨sq, rt, ld, ⟨s, q, op, le, am, sp⟩, mo, ln⟩ : TldD) tldZ e ∧ Own w [] [] w' := by
  refine fn_enter (args := [.agg #[.func (.func 73) #[] #[.pointer (some ⟨cb, 0, none⟩)], .func (.func 74) #[] #[.pointer (some ⟨cb, 0, none⟩)], .func (.func 75) #[] #[.pointer (some ⟨cb, 0, none⟩)]], v]) Tryz.func38 rfl Tryz.ntmps38 rfl (Own.start w) ?_
  refine c_reg ?_
  refine l_box rfl rfl (fun b2 => ?_)
  refine l_new (v := .agg #[.int .u64 (0 : Nat), .bool false, .int .i64 0, .int .u64 (0 : Nat), .int .u64 (0 : Nat), .int .i64 0, .int .u64 (0 : Nat), .int .i64 0, .int .i64 0, .int .i64 0, .int .i64 0]) (by kernel_rfl) rfl (fun b4 => ?_)
  refine l_as rfl ?_
  refine l_end ?_
  refine c_reg ?_
  refine l_mv rfl ?_
  refine l_bldc (cs := [v, .int .i64 0, .bool false]) (z := [.slice none 0 0, .int .i64 0, .bool false]) (pl := [(0, 1), (1, 1), (2, 1)]) (by kernel_rfl) ⟨(Sl.cell1 (Rd.φ hb)), trivial⟩ (by kernel_rfl) rfl ?_
  refine l_box rfl rfl (fun b10 => ?_)
  refine l_as rfl ?_
  refine l_end ?_
  refine c_reg ?_
  refine l_fld (o := 2) rfl (by kernel_rfl) rfl ?_
  refine l_ldo 0 (v := .func (.func 75) #[] #[.pointer (some ⟨cb, 0, none⟩)]) rfl rfl rfl (by kernel_rfl) rfl ?_
  refine l_mv rfl ?_
  refine l_callv (fst := []) (cap := [.pointer (some ⟨cb, 0, none⟩)]) rfl (by kernel_rfl) rfl rfl (fun w' hw => ?_)
  refine (tldRead_s b10 v b 0 false cb w' (by first | assumption | omega | (simp <;> omega) | (constructor <;> (first | omega | (simp only [LenOk]; omega) | (simp <;> omega)))) (by first | assumption | omega | (simp <;> omega) | (constructor <;> (first | omega | (simp only [LenOk]; omega) | (simp <;> omega)))) (hw.rdTo hcb [2] rfl) (hw.rdTo hb [2] rfl) (hw.give [2] rfl (by decide))).mono ?_
  rintro _ w1 ⟨sq1_, rt2_, ld3_, s4_, q5_, op6_, le7_, am8_, sp9_, mo10_, ln11_, a'12_, bad'13_, rfl, hf2_3, hO⟩
  refine (?_ : CL _ _ _ _ _ _ (Own w [] [Res.row b2 103 [.func (.func 73) #[] #[.pointer (some ⟨cb, 0, none⟩)], .func (.func 74) #[] #[.pointer (some ⟨cb, 0, none⟩)], .func (.func 75) #[] #[.pointer (some ⟨cb, 0, none⟩)]], Res.row b4 54 [.int .u64 (0 : Nat), .bool false, .int .i64 0, .int .u64 (0 : Nat), .int .u64 (0 : Nat), .int .i64 0, .int .u64 (0 : Nat), .int .i64 0, .int .i64 0, .int .i64 0, .int .i64 0], Res.row b10 133 [v, .int .i64 (a'12_ : Nat), .bool bad'13_]])) w1 (hw.frameL [2] rfl hO)
  refine l_stN (cs := [.int .u64 (0 : Nat), .bool false, .int .i64 0, .int .u64 (0 : Nat), .int .u64 (0 : Nat), .int .i64 0, .int .u64 (0 : Nat), .int .i64 0, .int .i64 0, .int .i64 0, .int .i64 0]) (vs := [.int .u64 (sq1_ : Nat), .bool rt2_, .int .i64 (ld3_ : Nat), .int .u64 (s4_ : Nat), .int .u64 (q5_ : Nat), .int .i64 (op6_ : Nat), .int .u64 (le7_ : Nat), .int .i64 am8_, .int .i64 sp9_, .int .i64 mo10_, .int .i64 ln11_]) 1 rfl rfl rfl (by kernel_rfl) (allc_cons rfl (allc_cons rfl (allc_cons rfl (allc_cons rfl (allc_cons rfl (allc_cons rfl (allc_cons rfl (allc_cons rfl (allc_cons rfl (allc_cons rfl (allc_cons rfl allc_nil))))))))))) (Nat.le_of_ble_eq_true rfl) ?_
  refine l_end ?_
  refine c_seq ?_
  refine c_reg ?_
  refine l_mv rfl ?_
  refine l_nck rfl rfl ?_
  refine l_fld (o := 2) rfl (by kernel_rfl) rfl ?_
  refine l_ldo 2 (v := .bool bad'13_) rfl rfl rfl (by kernel_rfl) rfl ?_
  refine l_mv rfl ?_
  refine l_bor (q := bad'13_ = true) 7 4 [26, 25, 24, 23, 22, 21, 20] (((a'12_ : Nat) : Int) ≠ ((b.length : Nat) : Int)) rfl rfl (bool_dec _) rfl rfl rfl trivial rfl (fun h3_4 => ?_) (fun g3_12 => ?_)
  ·
    refine l_on rfl (bF h3_4) ?_
    refine l_mv rfl ?_
    refine l_on rfl (bF h3_4) ?_
    refine l_nck rfl rfl ?_
    refine l_on rfl (bF h3_4) ?_
    refine l_fld (o := 1) rfl (by kernel_rfl) rfl ?_
    refine l_on rfl (bF h3_4) ?_
    refine l_ldo 2 (v := .int .i64 (a'12_ : Nat)) rfl rfl rfl (by kernel_rfl) rfl ?_
    refine l_on rfl (bF h3_4) ?_
    refine l_mv rfl ?_
    refine l_on rfl (bF h3_4) ?_
    refine l_lenS (len := b.length) (cs := (b.map vb)) (by kernel_rfl) rfl (fun w' hw' => Own.rd hb hw') rfl ?_
    refine l_on rfl (bF h3_4) ?_
    refine l_ne rfl rfl rfl ?_
    exact l_nil (fun w' hw => ⟨(by repeat (first | exact Out.refl _ _ | refine Out.upd rfl ?_ | refine Out.msk rfl ?_)), rfl, hw⟩)
  refine l_mv rfl ?_
  refine l_bor (q := (bad'13_ = true) ∨ (((a'12_ : Nat) : Int) ≠ ((b.length : Nat) : Int))) 5 13 [33, 32, 31, 30, 29] (¬ (({ seq := sq1_, retry := rt2_, lead := ((ld3_ : Nat) : Int), reply := ({ session := s4_, seq := q5_, e := ((op6_ : Nat) : Int), lease := le7_, amount := am8_, until_ := sp9_ } : RepD), most := mo10_, lent := ln11_ } : TldD).ok)) rfl rfl rfl rfl rfl rfl trivial rfl (fun h3_13 => ?_) (fun g3_19 => ?_)
  ·
    refine l_on rfl (gF h3_13) ?_
    refine l_fld (o := 0) rfl (by kernel_rfl) rfl ?_
    refine l_on rfl (gF h3_13) ?_
    refine l_ldo 0 (v := .func (.func 73) #[] #[.pointer (some ⟨cb, 0, none⟩)]) rfl rfl rfl (by kernel_rfl) rfl ?_
    refine l_on rfl (gF h3_13) ?_
    refine l_ldr (cs := [.int .u64 (sq1_ : Nat), .bool rt2_, .int .i64 (ld3_ : Nat), .int .u64 (s4_ : Nat), .int .u64 (q5_ : Nat), .int .i64 (op6_ : Nat), .int .u64 (le7_ : Nat), .int .i64 am8_, .int .i64 sp9_, .int .i64 mo10_, .int .i64 ln11_]) 1 rfl rfl (by kernel_rfl) rfl ?_
    refine l_on rfl (gF h3_13) ?_
    refine l_callv (fst := []) (cap := [.pointer (some ⟨cb, 0, none⟩)]) rfl (by kernel_rfl) rfl rfl (fun w' hw => ?_)
    refine (tldSound_s ({ seq := sq1_, retry := rt2_, lead := ((ld3_ : Nat) : Int), reply := ({ session := s4_, seq := q5_, e := ((op6_ : Nat) : Int), lease := le7_, amount := am8_, until_ := sp9_ } : RepD), most := mo10_, lent := ln11_ } : TldD) cb w' (hw.rd0 hcb)).mono ?_
    rintro _ w1 ⟨rfl, hO⟩
    refine (?_ : CL _ _ _ _ _ _ (Own w [] [Res.row b2 103 [.func (.func 73) #[] #[.pointer (some ⟨cb, 0, none⟩)], .func (.func 74) #[] #[.pointer (some ⟨cb, 0, none⟩)], .func (.func 75) #[] #[.pointer (some ⟨cb, 0, none⟩)]], Res.row b4 54 [.int .u64 (sq1_ : Nat), .bool rt2_, .int .i64 (ld3_ : Nat), .int .u64 (s4_ : Nat), .int .u64 (q5_ : Nat), .int .i64 (op6_ : Nat), .int .u64 (le7_ : Nat), .int .i64 am8_, .int .i64 sp9_, .int .i64 mo10_, .int .i64 ln11_], Res.row b10 133 [v, .int .i64 (a'12_ : Nat), .bool bad'13_]])) w1 (hw.frame0 hO)
    refine l_on rfl (gF h3_13) ?_
    refine l_notp (q := ({ seq := sq1_, retry := rt2_, lead := ((ld3_ : Nat) : Int), reply := ({ session := s4_, seq := q5_, e := ((op6_ : Nat) : Int), lease := le7_, amount := am8_, until_ := sp9_ } : RepD), most := mo10_, lent := ln11_ } : TldD).ok) rfl rfl ?_
    exact l_nil (fun w' hw => ⟨(by repeat (first | exact Out.refl _ _ | refine Out.upd rfl ?_ | refine Out.msk rfl ?_)), rfl, hw⟩)
  refine l_end ?_
  refine c_dec rfl (fun c1 => ?_) (fun c1 => ?_)
  ·
    refine c_reg ?_
    refine l_new (v := .agg #[.int .u64 (0 : Nat), .bool false, .int .i64 0, .int .u64 (0 : Nat), .int .u64 (0 : Nat), .int .i64 0, .int .u64 (0 : Nat), .int .i64 0, .int .i64 0, .int .i64 0, .int .i64 0]) (by kernel_rfl) rfl (fun b7 => ?_)
    refine l_end ?_
    refine c_reg ?_
    refine l_ldr (cs := [.int .u64 (0 : Nat), .bool false, .int .i64 0, .int .u64 (0 : Nat), .int .u64 (0 : Nat), .int .i64 0, .int .u64 (0 : Nat), .int .i64 0, .int .i64 0, .int .i64 0, .int .i64 0]) 3 rfl rfl (by kernel_rfl) rfl ?_
    refine l_stN (cs := [.int .u64 (sq1_ : Nat), .bool rt2_, .int .i64 (ld3_ : Nat), .int .u64 (s4_ : Nat), .int .u64 (q5_ : Nat), .int .i64 (op6_ : Nat), .int .u64 (le7_ : Nat), .int .i64 am8_, .int .i64 sp9_, .int .i64 mo10_, .int .i64 ln11_]) (vs := [.int .u64 (0 : Nat), .bool false, .int .i64 0, .int .u64 (0 : Nat), .int .u64 (0 : Nat), .int .i64 0, .int .u64 (0 : Nat), .int .i64 0, .int .i64 0, .int .i64 0, .int .i64 0]) 1 rfl rfl rfl (by kernel_rfl) (allc_cons rfl (allc_cons rfl (allc_cons rfl (allc_cons rfl (allc_cons rfl (allc_cons rfl (allc_cons rfl (allc_cons rfl (allc_cons rfl (allc_cons rfl (allc_cons rfl allc_nil))))))))))) (Nat.le_of_ble_eq_true rfl) ?_
    refine l_as rfl ?_
    refine l_end ?_
    exact c_ret (retc2 (cs := [.int .u64 (0 : Nat), .bool false, .int .i64 0, .int .u64 (0 : Nat), .int .u64 (0 : Nat), .int .i64 0, .int .u64 (0 : Nat), .int .i64 0, .int .i64 0, .int .i64 0, .int .i64 0]) (v := .int .i64 4) rfl rfl rfl (by kernel_rfl) (Own.rowCells (i := 1) rfl) (fun w' hw => ⟨0, false, 0, 0, 0, 0, 0, 0, 0, 0, 0, 4, rfl, .inr ⟨rfl, whole_no hf2_3 (fun h1 h2 h3 => c1.elim (fun h => h.elim (fun h => (by rw [h1] at h; cases h)) (fun h => h (by omega))) (fun h => h h3)), rfl⟩, hw.drop⟩))
  ·
    refine c_skipC ?_
    refine c_reg ?_
    refine l_ldr (cs := [.int .u64 (sq1_ : Nat), .bool rt2_, .int .i64 (ld3_ : Nat), .int .u64 (s4_ : Nat), .int .u64 (q5_ : Nat), .int .i64 (op6_ : Nat), .int .u64 (le7_ : Nat), .int .i64 am8_, .int .i64 sp9_, .int .i64 mo10_, .int .i64 ln11_]) 1 rfl rfl (by kernel_rfl) rfl ?_
    refine l_stN (cs := [.int .u64 (sq1_ : Nat), .bool rt2_, .int .i64 (ld3_ : Nat), .int .u64 (s4_ : Nat), .int .u64 (q5_ : Nat), .int .i64 (op6_ : Nat), .int .u64 (le7_ : Nat), .int .i64 am8_, .int .i64 sp9_, .int .i64 mo10_, .int .i64 ln11_]) (vs := [.int .u64 (sq1_ : Nat), .bool rt2_, .int .i64 (ld3_ : Nat), .int .u64 (s4_ : Nat), .int .u64 (q5_ : Nat), .int .i64 (op6_ : Nat), .int .u64 (le7_ : Nat), .int .i64 am8_, .int .i64 sp9_, .int .i64 mo10_, .int .i64 ln11_]) 1 rfl rfl rfl (by kernel_rfl) (allc_cons rfl (allc_cons rfl (allc_cons rfl (allc_cons rfl (allc_cons rfl (allc_cons rfl (allc_cons rfl (allc_cons rfl (allc_cons rfl (allc_cons rfl (allc_cons rfl allc_nil))))))))))) (Nat.le_of_ble_eq_true rfl) ?_
    refine l_as rfl ?_
    refine l_end ?_
    exact c_ret (retc2 (cs := [.int .u64 (sq1_ : Nat), .bool rt2_, .int .i64 (ld3_ : Nat), .int .u64 (s4_ : Nat), .int .u64 (q5_ : Nat), .int .i64 (op6_ : Nat), .int .u64 (le7_ : Nat), .int .i64 am8_, .int .i64 sp9_, .int .i64 mo10_, .int .i64 ln11_]) (v := .int .i64 0) rfl rfl rfl (by kernel_rfl) (Own.rowCells (i := 1) rfl) (fun w' hw => ⟨sq1_, rt2_, ((ld3_ : Nat) : Int), s4_, q5_, ((op6_ : Nat) : Int), le7_, am8_, sp9_, mo10_, ln11_, 0, rfl, .inl ⟨rfl, whole_yes hf2_3 (by cases h : bad'13_; rfl; exact absurd (.inl (.inl h)) c1) (by have : ¬ (a'12_ : Int) ≠ b.length := fun h => c1 (.inl (.inr h)); omega) (Decidable.not_not.1 fun h => c1 (.inr h))⟩, hw.drop⟩))
theorem toAsk_s (v : Value) (b : List UInt8) (w : World) (hl : b.length ≤ 1048576) (hb : Rd w [] (Res.sl v b.length (b.map vb))) : Rets Tryz.prog 10 #[v] w fun u_ w' => ∃ (lo : Bool) (la : Bool) (sq : Nat) (s : Nat) (q : Nat) (op : Int) (k : ByteArray) (am : Int) (sp : Int) (le : Nat) (k2 : ByteArray) (e : Int), u_ = .tuple #[.agg #[.bool lo, .bool la, .int .u64 (sq : Nat), .int .u64 (s : Nat), .int .u64 (q : Nat), .int .i64 op, .string k, .int .i64 am, .int .i64 sp, .int .u64 (le : Nat), .string k2], .int .i64 e] ∧ ValPost (decAsk b) (⟨lo, la, sq, ⟨s, q, op, k, am, sp, le⟩, k2⟩ : AskD) askZ e ∧ Own w [] [] w' := by
  refine fn_enter (args := [v]) Tryz.func10 rfl Tryz.ntmps10 rfl (Own.start w) ?_
  refine c_reg ?_
  refine l_new (v := .agg #[.bool false, .bool false, .int .u64 (0 : Nat), .int .u64 (0 : Nat), .int .u64 (0 : Nat), .int .i64 0, .string (⟨#[]⟩ : ByteArray), .int .i64 0, .int .i64 0, .int .u64 (0 : Nat), .string (⟨#[]⟩ : ByteArray)]) (by kernel_rfl) rfl (fun b2 => ?_)
  refine l_as rfl ?_
  refine l_end ?_
  refine c_reg ?_
  refine l_call (by kernel_rfl) rfl rfl (fun w' hw => ?_)
  refine (asks_s w').mono ?_
  rintro _ w1 ⟨cb1_, rfl, hO⟩
  refine (?_ : CL _ _ _ _ _ _ (Own w [] [Res.row b2 48 [.bool false, .bool false, .int .u64 (0 : Nat), .int .u64 (0 : Nat), .int .u64 (0 : Nat), .int .i64 0, .string (⟨#[]⟩ : ByteArray), .int .i64 0, .int .i64 0, .int .u64 (0 : Nat), .string (⟨#[]⟩ : ByteArray)], Res.row cb1_ 83 [.func (.func 64) #[] #[], .func (.func 65) #[] #[], .func (.func 66) #[] #[]]])) w1 (hw.frame0 hO)
  refine l_mv rfl ?_
  refine l_call (by kernel_rfl) rfl rfl (fun w' hw => ?_)
  refine (askValue_s v b cb1_ w' (by first | assumption | omega | (simp <;> omega) | (constructor <;> (first | omega | (simp only [LenOk]; omega) | (simp <;> omega)))) (hw.rdRes0 1 rfl) (hw.rd0 hb)).mono ?_
  rintro _ w1 ⟨lo2_, la3_, sq4_, s5_, q6_, op7_, k8_, am9_, sp10_, le11_, k212_, e13_, rfl, hf1_2, hO⟩
  refine (?_ : CL _ _ _ _ _ _ (Own w [] [Res.row b2 48 [.bool false, .bool false, .int .u64 (0 : Nat), .int .u64 (0 : Nat), .int .u64 (0 : Nat), .int .i64 0, .string (⟨#[]⟩ : ByteArray), .int .i64 0, .int .i64 0, .int .u64 (0 : Nat), .string (⟨#[]⟩ : ByteArray)], Res.row cb1_ 83 [.func (.func 64) #[] #[], .func (.func 65) #[] #[], .func (.func 66) #[] #[]]])) w1 (hw.frame0 hO)
  refine l_ext (vs := [.agg #[.bool lo2_, .bool la3_, .int .u64 (sq4_ : Nat), .int .u64 (s5_ : Nat), .int .u64 (q6_ : Nat), .int .i64 op7_, .string k8_, .int .i64 am9_, .int .i64 sp10_, .int .u64 (le11_ : Nat), .string k212_], .int .i64 e13_]) rfl rfl rfl ?_
  refine l_ext (vs := [.agg #[.bool lo2_, .bool la3_, .int .u64 (sq4_ : Nat), .int .u64 (s5_ : Nat), .int .u64 (q6_ : Nat), .int .i64 op7_, .string k8_, .int .i64 am9_, .int .i64 sp10_, .int .u64 (le11_ : Nat), .string k212_], .int .i64 e13_]) rfl rfl rfl ?_
  refine l_stN (cs := [.bool false, .bool false, .int .u64 (0 : Nat), .int .u64 (0 : Nat), .int .u64 (0 : Nat), .int .i64 0, .string (⟨#[]⟩ : ByteArray), .int .i64 0, .int .i64 0, .int .u64 (0 : Nat), .string (⟨#[]⟩ : ByteArray)]) (vs := [.bool lo2_, .bool la3_, .int .u64 (sq4_ : Nat), .int .u64 (s5_ : Nat), .int .u64 (q6_ : Nat), .int .i64 op7_, .string k8_, .int .i64 am9_, .int .i64 sp10_, .int .u64 (le11_ : Nat), .string k212_]) 0 rfl rfl rfl (by kernel_rfl) (allc_cons rfl (allc_cons rfl (allc_cons rfl (allc_cons rfl (allc_cons rfl (allc_cons rfl (allc_cons rfl (allc_cons rfl (allc_cons rfl (allc_cons rfl (allc_cons rfl allc_nil))))))))))) (Nat.le_of_ble_eq_true rfl) ?_
  refine l_as rfl ?_
  refine l_end ?_
  exact c_ret (retc2 (cs := [.bool lo2_, .bool la3_, .int .u64 (sq4_ : Nat), .int .u64 (s5_ : Nat), .int .u64 (q6_ : Nat), .int .i64 op7_, .string k8_, .int .i64 am9_, .int .i64 sp10_, .int .u64 (le11_ : Nat), .string k212_]) (v := .int .i64 e13_) rfl rfl rfl (by kernel_rfl) (Own.rowCells (i := 0) rfl) (fun w' hw => ⟨lo2_, la3_, sq4_, s5_, q6_, op7_, k8_, am9_, sp10_, le11_, k212_, e13_, rfl, hf1_2, hw.drop⟩))
theorem toTld_s (v : Value) (b : List UInt8) (w : World) (hl : b.length ≤ 1048576) (hb : Rd w [] (Res.sl v b.length (b.map vb))) : Rets Tryz.prog 12 #[v] w fun u_ w' => ∃ (sq : Nat) (rt : Bool) (ld : Int) (s : Nat) (q : Nat) (op : Int) (le : Nat) (am : Int) (sp : Int) (mo : Int) (ln : Int) (e : Int), u_ = .tuple #[.agg #[.int .u64 (sq : Nat), .bool rt, .int .i64 ld, .int .u64 (s : Nat), .int .u64 (q : Nat), .int .i64 op, .int .u64 (le : Nat), .int .i64 am, .int .i64 sp, .int .i64 mo, .int .i64 ln], .int .i64 e] ∧ ValPost (decTld b) (⟨sq, rt, ld, ⟨s, q, op, le, am, sp⟩, mo, ln⟩ : TldD) tldZ e ∧ Own w [] [] w' := by
  refine fn_enter (args := [v]) Tryz.func12 rfl Tryz.ntmps12 rfl (Own.start w) ?_
  refine c_reg ?_
  refine l_new (v := .agg #[.int .u64 (0 : Nat), .bool false, .int .i64 0, .int .u64 (0 : Nat), .int .u64 (0 : Nat), .int .i64 0, .int .u64 (0 : Nat), .int .i64 0, .int .i64 0, .int .i64 0, .int .i64 0]) (by kernel_rfl) rfl (fun b2 => ?_)
  refine l_as rfl ?_
  refine l_end ?_
  refine c_reg ?_
  refine l_call (by kernel_rfl) rfl rfl (fun w' hw => ?_)
  refine (tolds_s w').mono ?_
  rintro _ w1 ⟨cb1_, rfl, hO⟩
  refine (?_ : CL _ _ _ _ _ _ (Own w [] [Res.row b2 54 [.int .u64 (0 : Nat), .bool false, .int .i64 0, .int .u64 (0 : Nat), .int .u64 (0 : Nat), .int .i64 0, .int .u64 (0 : Nat), .int .i64 0, .int .i64 0, .int .i64 0, .int .i64 0], Res.row cb1_ 90 [.func (.func 67) #[] #[], .func (.func 68) #[] #[], .func (.func 69) #[] #[]]])) w1 (hw.frame0 hO)
  refine l_mv rfl ?_
  refine l_call (by kernel_rfl) rfl rfl (fun w' hw => ?_)
  refine (tldValue_s v b cb1_ w' (by first | assumption | omega | (simp <;> omega) | (constructor <;> (first | omega | (simp only [LenOk]; omega) | (simp <;> omega)))) (hw.rdRes0 1 rfl) (hw.rd0 hb)).mono ?_
  rintro _ w1 ⟨sq2_, rt3_, ld4_, s5_, q6_, op7_, le8_, am9_, sp10_, mo11_, ln12_, e13_, rfl, hf1_2, hO⟩
  refine (?_ : CL _ _ _ _ _ _ (Own w [] [Res.row b2 54 [.int .u64 (0 : Nat), .bool false, .int .i64 0, .int .u64 (0 : Nat), .int .u64 (0 : Nat), .int .i64 0, .int .u64 (0 : Nat), .int .i64 0, .int .i64 0, .int .i64 0, .int .i64 0], Res.row cb1_ 90 [.func (.func 67) #[] #[], .func (.func 68) #[] #[], .func (.func 69) #[] #[]]])) w1 (hw.frame0 hO)
  refine l_ext (vs := [.agg #[.int .u64 (sq2_ : Nat), .bool rt3_, .int .i64 ld4_, .int .u64 (s5_ : Nat), .int .u64 (q6_ : Nat), .int .i64 op7_, .int .u64 (le8_ : Nat), .int .i64 am9_, .int .i64 sp10_, .int .i64 mo11_, .int .i64 ln12_], .int .i64 e13_]) rfl rfl rfl ?_
  refine l_ext (vs := [.agg #[.int .u64 (sq2_ : Nat), .bool rt3_, .int .i64 ld4_, .int .u64 (s5_ : Nat), .int .u64 (q6_ : Nat), .int .i64 op7_, .int .u64 (le8_ : Nat), .int .i64 am9_, .int .i64 sp10_, .int .i64 mo11_, .int .i64 ln12_], .int .i64 e13_]) rfl rfl rfl ?_
  refine l_stN (cs := [.int .u64 (0 : Nat), .bool false, .int .i64 0, .int .u64 (0 : Nat), .int .u64 (0 : Nat), .int .i64 0, .int .u64 (0 : Nat), .int .i64 0, .int .i64 0, .int .i64 0, .int .i64 0]) (vs := [.int .u64 (sq2_ : Nat), .bool rt3_, .int .i64 ld4_, .int .u64 (s5_ : Nat), .int .u64 (q6_ : Nat), .int .i64 op7_, .int .u64 (le8_ : Nat), .int .i64 am9_, .int .i64 sp10_, .int .i64 mo11_, .int .i64 ln12_]) 0 rfl rfl rfl (by kernel_rfl) (allc_cons rfl (allc_cons rfl (allc_cons rfl (allc_cons rfl (allc_cons rfl (allc_cons rfl (allc_cons rfl (allc_cons rfl (allc_cons rfl (allc_cons rfl (allc_cons rfl allc_nil))))))))))) (Nat.le_of_ble_eq_true rfl) ?_
  refine l_as rfl ?_
  refine l_end ?_
  exact c_ret (retc2 (cs := [.int .u64 (sq2_ : Nat), .bool rt3_, .int .i64 ld4_, .int .u64 (s5_ : Nat), .int .u64 (q6_ : Nat), .int .i64 op7_, .int .u64 (le8_ : Nat), .int .i64 am9_, .int .i64 sp10_, .int .i64 mo11_, .int .i64 ln12_]) (v := .int .i64 e13_) rfl rfl rfl (by kernel_rfl) (Own.rowCells (i := 0) rfl) (fun w' hw => ⟨sq2_, rt3_, ld4_, s5_, q6_, op7_, le8_, am9_, sp10_, mo11_, ln12_, e13_, rfl, hf1_2, hw.drop⟩))
theorem rtoAsk_s (v : Value) (b : List UInt8) (w : World) (hl : b.length ≤ 1048576) (hb : Rd w [] (Res.sl v b.length (b.map vb))) : Rets Tryz.prog 11 #[v] w fun u_ w' => ∃ (lo : Bool) (la : Bool) (sq : Nat) (s : Nat) (q : Nat) (op : Int) (k : ByteArray) (am : Int) (sp : Int) (le : Nat) (k2 : ByteArray) (f : Bool), u_ = .tuple #[.agg #[.bool lo, .bool la, .int .u64 (sq : Nat), .int .u64 (s : Nat), .int .u64 (q : Nat), .int .i64 op, .string k, .int .i64 am, .int .i64 sp, .int .u64 (le : Nat), .string k2], .bool f] ∧ RefPost (decAsk b) (⟨lo, la, sq, ⟨s, q, op, k, am, sp, le⟩, k2⟩ : AskD) f ∧ Own w [] [] w' := by
  refine fn_enter (args := [v]) Tryz.func11 rfl Tryz.ntmps11 rfl (Own.start w) ?_
  refine c_reg ?_
  refine l_new (v := .agg #[.bool false, .bool false, .int .u64 (0 : Nat), .int .u64 (0 : Nat), .int .u64 (0 : Nat), .int .i64 0, .string (⟨#[]⟩ : ByteArray), .int .i64 0, .int .i64 0, .int .u64 (0 : Nat), .string (⟨#[]⟩ : ByteArray)]) (by kernel_rfl) rfl (fun b2 => ?_)
  refine l_as rfl ?_
  refine l_end ?_
  refine c_reg ?_
  refine l_mv rfl ?_
  refine l_bldc (cs := [v, .int .i64 0, .bool false]) (z := [.slice none 0 0, .int .i64 0, .bool false]) (pl := [(0, 1), (1, 1), (2, 1)]) (by kernel_rfl) ⟨(Sl.cell1 (Rd.φ hb)), trivial⟩ (by kernel_rfl) rfl ?_
  refine l_box rfl rfl (fun b8 => ?_)
  refine l_as rfl ?_
  refine l_end ?_
  refine c_reg ?_
  refine l_bld (cs := [.bool false, .bool false, .int .u64 (0 : Nat), .int .u64 (0 : Nat), .int .u64 (0 : Nat), .int .i64 0, .string (⟨#[]⟩ : ByteArray), .int .i64 0, .int .i64 0, .int .u64 (0 : Nat), .string (⟨#[]⟩ : ByteArray)]) (z := [.bool false, .bool false, .int .u64 (0 : Nat), .int .u64 (0 : Nat), .int .u64 (0 : Nat), .int .i64 0, .string (⟨#[]⟩ : ByteArray), .int .i64 0, .int .i64 0, .int .u64 (0 : Nat), .string (⟨#[]⟩ : ByteArray)]) (pl := [(0, 1), (1, 1), (2, 1), (3, 7), (10, 1)]) (by kernel_rfl) (by kernel_rfl) rfl ?_
  refine l_new (v := .agg #[.bool false, .bool false, .int .u64 (0 : Nat), .int .u64 (0 : Nat), .int .u64 (0 : Nat), .int .i64 0, .string (⟨#[]⟩ : ByteArray), .int .i64 0, .int .i64 0, .int .u64 (0 : Nat), .string (⟨#[]⟩ : ByteArray)]) (by kernel_rfl) rfl (fun b5 => ?_)
  refine l_stN (cs := [.bool false, .bool false, .int .u64 (0 : Nat), .int .u64 (0 : Nat), .int .u64 (0 : Nat), .int .i64 0, .string (⟨#[]⟩ : ByteArray), .int .i64 0, .int .i64 0, .int .u64 (0 : Nat), .string (⟨#[]⟩ : ByteArray)]) (vs := [.bool false, .bool false, .int .u64 (0 : Nat), .int .u64 (0 : Nat), .int .u64 (0 : Nat), .int .i64 0, .string (⟨#[]⟩ : ByteArray), .int .i64 0, .int .i64 0, .int .u64 (0 : Nat), .string (⟨#[]⟩ : ByteArray)]) 2 rfl rfl rfl (by kernel_rfl) (allc_cons rfl (allc_cons rfl (allc_cons rfl (allc_cons rfl (allc_cons rfl (allc_cons rfl (allc_cons rfl (allc_cons rfl (allc_cons rfl (allc_cons rfl (allc_cons rfl allc_nil))))))))))) (Nat.le_of_ble_eq_true rfl) ?_
  refine l_end ?_
  refine c_reg ?_
  refine l_mv rfl ?_
  refine l_call (by kernel_rfl) rfl rfl (fun w' hw => ?_)
  refine (rinInt_s b8 v b 0 false 1 w' (by first | assumption | omega | (simp <;> omega) | (constructor <;> (first | omega | (simp only [LenOk]; omega) | (simp <;> omega)))) (by first | assumption | omega | (simp <;> omega) | (constructor <;> (first | omega | (simp only [LenOk]; omega) | (simp <;> omega)))) (by first | assumption | omega | (simp <;> omega) | (constructor <;> (first | omega | (simp only [LenOk]; omega) | (simp <;> omega)))) (hw.rdTo hb [1] rfl) (hw.give [1] rfl (by decide))).mono ?_
  rintro _ w1 ⟨n1_, a'2_, bad'3_, rfl, hf3_1, hf3_1_1, hO⟩
  have hq1 := hf3_1.le
  refine (?_ : CL _ _ _ _ _ _ (Own w [] [Res.row b2 48 [.bool false, .bool false, .int .u64 (0 : Nat), .int .u64 (0 : Nat), .int .u64 (0 : Nat), .int .i64 0, .string (⟨#[]⟩ : ByteArray), .int .i64 0, .int .i64 0, .int .u64 (0 : Nat), .string (⟨#[]⟩ : ByteArray)], Res.row b5 48 [.bool false, .bool false, .int .u64 (0 : Nat), .int .u64 (0 : Nat), .int .u64 (0 : Nat), .int .i64 0, .string (⟨#[]⟩ : ByteArray), .int .i64 0, .int .i64 0, .int .u64 (0 : Nat), .string (⟨#[]⟩ : ByteArray)], Res.row b8 71 [v, .int .i64 (a'2_ : Nat), .bool bad'3_]])) w1 (hw.frameL [1] rfl hO)
  refine l_eq rfl rfl rfl ?_
  refine l_fld (o := 0) rfl (by kernel_rfl) rfl ?_
  refine l_st (cs := [.bool false, .bool false, .int .u64 (0 : Nat), .int .u64 (0 : Nat), .int .u64 (0 : Nat), .int .i64 0, .string (⟨#[]⟩ : ByteArray), .int .i64 0, .int .i64 0, .int .u64 (0 : Nat), .string (⟨#[]⟩ : ByteArray)]) 1 rfl rfl rfl (by kernel_rfl) rfl (Nat.le_of_ble_eq_true rfl) ?_
  refine l_end ?_
  refine c_reg ?_
  refine l_mv rfl ?_
  refine l_call (by kernel_rfl) rfl rfl (fun w' hw => ?_)
  refine (rinInt_s b8 v b a'2_ bad'3_ 1 w' (by first | assumption | omega | (simp <;> omega) | (constructor <;> (first | omega | (simp only [LenOk]; omega) | (simp <;> omega)))) (by first | assumption | omega | (simp <;> omega) | (constructor <;> (first | omega | (simp only [LenOk]; omega) | (simp <;> omega)))) (by first | assumption | omega | (simp <;> omega) | (constructor <;> (first | omega | (simp only [LenOk]; omega) | (simp <;> omega)))) (hw.rdTo hb [2] rfl) (hw.give [2] rfl (by decide))).mono ?_
  rintro _ w1 ⟨n4_, a'5_, bad'6_, rfl, hf4_1, hf4_1_1, hO⟩
  have hq2 := hf4_1.le
  refine (?_ : CL _ _ _ _ _ _ (Own w [] [Res.row b2 48 [.bool false, .bool false, .int .u64 (0 : Nat), .int .u64 (0 : Nat), .int .u64 (0 : Nat), .int .i64 0, .string (⟨#[]⟩ : ByteArray), .int .i64 0, .int .i64 0, .int .u64 (0 : Nat), .string (⟨#[]⟩ : ByteArray)], Res.row b5 48 [.bool (decide (((n1_ : Nat) : Int) = 1)), .bool false, .int .u64 (0 : Nat), .int .u64 (0 : Nat), .int .u64 (0 : Nat), .int .i64 0, .string (⟨#[]⟩ : ByteArray), .int .i64 0, .int .i64 0, .int .u64 (0 : Nat), .string (⟨#[]⟩ : ByteArray)], Res.row b8 71 [v, .int .i64 (a'5_ : Nat), .bool bad'6_]])) w1 (hw.frameL [2] rfl hO)
  refine l_eq rfl rfl rfl ?_
  refine l_fld (o := 1) rfl (by kernel_rfl) rfl ?_
  refine l_st (cs := [.bool (decide (((n1_ : Nat) : Int) = 1)), .bool false, .int .u64 (0 : Nat), .int .u64 (0 : Nat), .int .u64 (0 : Nat), .int .i64 0, .string (⟨#[]⟩ : ByteArray), .int .i64 0, .int .i64 0, .int .u64 (0 : Nat), .string (⟨#[]⟩ : ByteArray)]) 1 rfl rfl rfl (by kernel_rfl) rfl (Nat.le_of_ble_eq_true rfl) ?_
  refine l_end ?_
  refine c_reg ?_
  refine l_mv rfl ?_
  refine l_call (by kernel_rfl) rfl rfl (fun w' hw => ?_)
  refine (rinNum_s b8 v b a'5_ bad'6_ w' (by first | assumption | omega | (simp <;> omega) | (constructor <;> (first | omega | (simp only [LenOk]; omega) | (simp <;> omega)))) (by first | assumption | omega | (simp <;> omega) | (constructor <;> (first | omega | (simp only [LenOk]; omega) | (simp <;> omega)))) (hw.rdTo hb [2] rfl) (hw.give [2] rfl (by decide))).mono ?_
  rintro _ w1 ⟨n7_, a'8_, bad'9_, rfl, hf5_1, hf5_1_1, hO⟩
  have hq3 := hf5_1.le
  refine (?_ : CL _ _ _ _ _ _ (Own w [] [Res.row b2 48 [.bool false, .bool false, .int .u64 (0 : Nat), .int .u64 (0 : Nat), .int .u64 (0 : Nat), .int .i64 0, .string (⟨#[]⟩ : ByteArray), .int .i64 0, .int .i64 0, .int .u64 (0 : Nat), .string (⟨#[]⟩ : ByteArray)], Res.row b5 48 [.bool (decide (((n1_ : Nat) : Int) = 1)), .bool (decide (((n4_ : Nat) : Int) = 1)), .int .u64 (0 : Nat), .int .u64 (0 : Nat), .int .u64 (0 : Nat), .int .i64 0, .string (⟨#[]⟩ : ByteArray), .int .i64 0, .int .i64 0, .int .u64 (0 : Nat), .string (⟨#[]⟩ : ByteArray)], Res.row b8 71 [v, .int .i64 (a'8_ : Nat), .bool bad'9_]])) w1 (hw.frameL [2] rfl hO)
  refine l_fld (o := 2) rfl (by kernel_rfl) rfl ?_
  refine l_st (cs := [.bool (decide (((n1_ : Nat) : Int) = 1)), .bool (decide (((n4_ : Nat) : Int) = 1)), .int .u64 (0 : Nat), .int .u64 (0 : Nat), .int .u64 (0 : Nat), .int .i64 0, .string (⟨#[]⟩ : ByteArray), .int .i64 0, .int .i64 0, .int .u64 (0 : Nat), .string (⟨#[]⟩ : ByteArray)]) 1 rfl rfl rfl (by kernel_rfl) rfl (Nat.le_of_ble_eq_true rfl) ?_
  refine l_end ?_
  refine c_reg ?_
  refine l_mv rfl ?_
  refine l_call (by kernel_rfl) rfl rfl (fun w' hw => ?_)
  refine (rcmdRead_s b8 v b a'8_ bad'9_ w' (by first | assumption | omega | (simp <;> omega) | (constructor <;> (first | omega | (simp only [LenOk]; omega) | (simp <;> omega)))) (by first | assumption | omega | (simp <;> omega) | (constructor <;> (first | omega | (simp only [LenOk]; omega) | (simp <;> omega)))) (hw.rdTo hb [2] rfl) (hw.give [2] rfl (by decide))).mono ?_
  rintro _ w1 ⟨s10_, q11_, op12_, k13_, am14_, sp15_, le16_, a'17_, bad'18_, rfl, hf6_1, hf6_1_1, hO⟩
  have hq4 := hf6_1.le
  refine (?_ : CL _ _ _ _ _ _ (Own w [] [Res.row b2 48 [.bool false, .bool false, .int .u64 (0 : Nat), .int .u64 (0 : Nat), .int .u64 (0 : Nat), .int .i64 0, .string (⟨#[]⟩ : ByteArray), .int .i64 0, .int .i64 0, .int .u64 (0 : Nat), .string (⟨#[]⟩ : ByteArray)], Res.row b5 48 [.bool (decide (((n1_ : Nat) : Int) = 1)), .bool (decide (((n4_ : Nat) : Int) = 1)), .int .u64 (n7_ : Nat), .int .u64 (0 : Nat), .int .u64 (0 : Nat), .int .i64 0, .string (⟨#[]⟩ : ByteArray), .int .i64 0, .int .i64 0, .int .u64 (0 : Nat), .string (⟨#[]⟩ : ByteArray)], Res.row b8 71 [v, .int .i64 (a'17_ : Nat), .bool bad'18_]])) w1 (hw.frameL [2] rfl hO)
  refine l_fld (o := 3) rfl (by kernel_rfl) rfl ?_
  refine l_stN (cs := [.bool (decide (((n1_ : Nat) : Int) = 1)), .bool (decide (((n4_ : Nat) : Int) = 1)), .int .u64 (n7_ : Nat), .int .u64 (0 : Nat), .int .u64 (0 : Nat), .int .i64 0, .string (⟨#[]⟩ : ByteArray), .int .i64 0, .int .i64 0, .int .u64 (0 : Nat), .string (⟨#[]⟩ : ByteArray)]) (vs := [.int .u64 (s10_ : Nat), .int .u64 (q11_ : Nat), .int .i64 (op12_ : Nat), .string k13_, .int .i64 am14_, .int .i64 sp15_, .int .u64 (le16_ : Nat)]) 1 rfl rfl rfl (by kernel_rfl) (allc_cons rfl (allc_cons rfl (allc_cons rfl (allc_cons rfl (allc_cons rfl (allc_cons rfl (allc_cons rfl allc_nil))))))) (Nat.le_of_ble_eq_true rfl) ?_
  refine l_end ?_
  refine c_reg ?_
  refine l_mv rfl ?_
  refine l_call (by kernel_rfl) rfl rfl (fun w' hw => ?_)
  refine (rinData_s b8 v b a'17_ bad'18_ w' (by first | assumption | omega | (simp <;> omega) | (constructor <;> (first | omega | (simp only [LenOk]; omega) | (simp <;> omega)))) (by first | assumption | omega | (simp <;> omega) | (constructor <;> (first | omega | (simp only [LenOk]; omega) | (simp <;> omega)))) (hw.rdTo hb [2] rfl) (hw.give [2] rfl (by decide))).mono ?_
  rintro r19_ w1 ⟨_, d20_, a'21_, bad'22_, rfl, hf7_1, hf7_1_1, hO⟩
  have hR : RdS pAsk b 0 false (⟨decide (((n1_ : Nat) : Int) = 1), decide (((n4_ : Nat) : Int) = 1), n7_, ⟨s10_, q11_, ((op12_ : Nat) : Int), k13_, am14_, sp15_, le16_⟩, strOf d20_⟩ : AskD) a'21_ bad'22_ := (RdS.flag hf3_1).bind ((RdS.flag hf4_1).bind (hf5_1.bind (hf6_1.bind (hf7_1.bind (RdS.pure _ hf7_1.le)))))
  refine (?_ : CL _ _ _ _ _ _ (Own w [] [Res.row b2 48 [.bool false, .bool false, .int .u64 (0 : Nat), .int .u64 (0 : Nat), .int .u64 (0 : Nat), .int .i64 0, .string (⟨#[]⟩ : ByteArray), .int .i64 0, .int .i64 0, .int .u64 (0 : Nat), .string (⟨#[]⟩ : ByteArray)], Res.row b5 48 [.bool (decide (((n1_ : Nat) : Int) = 1)), .bool (decide (((n4_ : Nat) : Int) = 1)), .int .u64 (n7_ : Nat), .int .u64 (s10_ : Nat), .int .u64 (q11_ : Nat), .int .i64 (op12_ : Nat), .string k13_, .int .i64 am14_, .int .i64 sp15_, .int .u64 (le16_ : Nat), .string (⟨#[]⟩ : ByteArray)], Res.row b8 71 [v, .int .i64 (a'21_ : Nat), .bool bad'22_], Res.vec 5 1 r19_ d20_.length (d20_.map vb)])) w1 (hw.frameL [2] rfl hO)
  refine l_b2s (bs := d20_) (by kernel_rfl) (by kernel_rfl) rfl (fun w' hw' => Vec.sl (Own.holds hw' 3 _ rfl)) rfl ?_
  refine l_fld (o := 10) rfl (by kernel_rfl) rfl ?_
  refine l_st (cs := [.bool (decide (((n1_ : Nat) : Int) = 1)), .bool (decide (((n4_ : Nat) : Int) = 1)), .int .u64 (n7_ : Nat), .int .u64 (s10_ : Nat), .int .u64 (q11_ : Nat), .int .i64 (op12_ : Nat), .string k13_, .int .i64 am14_, .int .i64 sp15_, .int .u64 (le16_ : Nat), .string (⟨#[]⟩ : ByteArray)]) 1 rfl rfl rfl (by kernel_rfl) rfl (Nat.le_of_ble_eq_true rfl) ?_
  refine l_end ?_
  refine c_seq ?_
  refine c_heldo [1, 3] rfl (by decide) (by kernel_rfl) (fun w' hw hS => ?_)
  refine h_take 0 rfl (by kernel_rfl) (by kernel_rfl) (by kernel_rfl) (v_ldr (cs := [.bool (decide (((n1_ : Nat) : Int) = 1)), .bool (decide (((n4_ : Nat) : Int) = 1)), .int .u64 (n7_ : Nat), .int .u64 (s10_ : Nat), .int .u64 (q11_ : Nat), .int .i64 (op12_ : Nat), .string k13_, .int .i64 am14_, .int .i64 sp15_, .int .u64 (le16_ : Nat), .string (⟨d20_.toArray⟩ : ByteArray)]) 0 rfl rfl (by kernel_rfl)) rfl hS ?_
  refine h_take 1 rfl (by kernel_rfl) (by kernel_rfl) (by kernel_rfl) (v_mv) rfl hS ?_
  refine h_one 2 (by kernel_rfl) rfl hw ?_
  refine l_call (by kernel_rfl) rfl rfl (fun w' hw => ?_)
  refine (whole_s b8 v b a'21_ bad'22_ w' (by first | assumption | omega | (simp <;> omega) | (constructor <;> (first | omega | (simp only [LenOk]; omega) | (simp <;> omega)))) (hw.rdTo hb [2] rfl) (hw.give [2] rfl (by decide))).mono ?_
  rintro _ w1 ⟨rfl, hO⟩
  refine (?_ : CL _ _ _ _ _ _ (Own w [] [Res.row b2 48 [.bool false, .bool false, .int .u64 (0 : Nat), .int .u64 (0 : Nat), .int .u64 (0 : Nat), .int .i64 0, .string (⟨#[]⟩ : ByteArray), .int .i64 0, .int .i64 0, .int .u64 (0 : Nat), .string (⟨#[]⟩ : ByteArray)], Res.row b5 48 [.bool (decide (((n1_ : Nat) : Int) = 1)), .bool (decide (((n4_ : Nat) : Int) = 1)), .int .u64 (n7_ : Nat), .int .u64 (s10_ : Nat), .int .u64 (q11_ : Nat), .int .i64 (op12_ : Nat), .string k13_, .int .i64 am14_, .int .i64 sp15_, .int .u64 (le16_ : Nat), .string (⟨d20_.toArray⟩ : ByteArray)], Res.vec 5 1 r19_ d20_.length (d20_.map vb), Res.row b8 71 [v, .int .i64 (a'21_ : Nat), .bool bad'22_]])) w1 (hw.frameL [2] rfl hO)
  refine l_nil (fun w' hw => ?_)
  have hS := hw.sel [1, 2] rfl (by decide)
  refine ⟨hS, ?_⟩
  refine h_take 3 rfl (by kernel_rfl) (by kernel_rfl) (by kernel_rfl) (v_mv) rfl hS ?_
  by_cases g8_3 : bad'22_ = false ∧ a'21_ = b.length
  ·
    refine h_takeg 4 rfl rfl (gT g8_3) (by kernel_rfl) (by kernel_rfl) (by kernel_rfl) (v_ldr (cs := [.bool (decide (((n1_ : Nat) : Int) = 1)), .bool (decide (((n4_ : Nat) : Int) = 1)), .int .u64 (n7_ : Nat), .int .u64 (s10_ : Nat), .int .u64 (q11_ : Nat), .int .i64 (op12_ : Nat), .string k13_, .int .i64 am14_, .int .i64 sp15_, .int .u64 (le16_ : Nat), .string (⟨d20_.toArray⟩ : ByteArray)]) 0 rfl rfl (by kernel_rfl)) rfl hS ?_
    refine h_one 5 (by kernel_rfl) rfl hw ?_
    refine l_on rfl (gT g8_3) ?_
    refine l_call (by kernel_rfl) rfl rfl (fun w' hw => ?_)
    refine (raskOK_s ({ look := decide (((n1_ : Nat) : Int) = 1), lazy := decide (((n4_ : Nat) : Int) = 1), seq := n7_, cmd := ({ session := s10_, seq := q11_, op := ((op12_ : Nat) : Int), key := k13_, amount := am14_, span := sp15_, lease := le16_ } : CmdD), key := (⟨d20_.toArray⟩ : ByteArray) } : AskD) w' (by have := hf7_1_1; have := strOf_size d20_; show (strOf d20_).size ≤ 1048576; omega) (by have := hf6_1_1; dsimp only; omega)).mono ?_
    rintro _ w1 ⟨rfl, hO⟩
    refine (?_ : CL _ _ _ _ _ _ (Own w [] [Res.row b2 48 [.bool false, .bool false, .int .u64 (0 : Nat), .int .u64 (0 : Nat), .int .u64 (0 : Nat), .int .i64 0, .string (⟨#[]⟩ : ByteArray), .int .i64 0, .int .i64 0, .int .u64 (0 : Nat), .string (⟨#[]⟩ : ByteArray)], Res.row b5 48 [.bool (decide (((n1_ : Nat) : Int) = 1)), .bool (decide (((n4_ : Nat) : Int) = 1)), .int .u64 (n7_ : Nat), .int .u64 (s10_ : Nat), .int .u64 (q11_ : Nat), .int .i64 (op12_ : Nat), .string k13_, .int .i64 am14_, .int .i64 sp15_, .int .u64 (le16_ : Nat), .string (⟨d20_.toArray⟩ : ByteArray)], Res.vec 5 1 r19_ d20_.length (d20_.map vb), Res.row b8 71 [v, .int .i64 (a'21_ : Nat), .bool bad'22_]])) w1 (hw.frame0 hO)
    refine l_nil (fun w' hw => ?_)
    have hS := hw.sel [1, 2] rfl (by decide)
    refine ⟨hS, ?_⟩
    refine h_take 6 rfl (by kernel_rfl) (by kernel_rfl) (by kernel_rfl) (v_pickT (gT g8_3)) rfl hS ?_
    refine h_one 7 (by kernel_rfl) rfl hw ?_
    refine l_stN (cs := [.bool false, .bool false, .int .u64 (0 : Nat), .int .u64 (0 : Nat), .int .u64 (0 : Nat), .int .i64 0, .string (⟨#[]⟩ : ByteArray), .int .i64 0, .int .i64 0, .int .u64 (0 : Nat), .string (⟨#[]⟩ : ByteArray)]) (vs := [.bool (decide (((n1_ : Nat) : Int) = 1)), .bool (decide (((n4_ : Nat) : Int) = 1)), .int .u64 (n7_ : Nat), .int .u64 (s10_ : Nat), .int .u64 (q11_ : Nat), .int .i64 (op12_ : Nat), .string k13_, .int .i64 am14_, .int .i64 sp15_, .int .u64 (le16_ : Nat), .string (⟨d20_.toArray⟩ : ByteArray)]) 0 rfl rfl rfl (by kernel_rfl) (allc_cons rfl (allc_cons rfl (allc_cons rfl (allc_cons rfl (allc_cons rfl (allc_cons rfl (allc_cons rfl (allc_cons rfl (allc_cons rfl (allc_cons rfl (allc_cons rfl allc_nil))))))))))) (Nat.le_of_ble_eq_true rfl) ?_
    refine l_nil (fun w' hw => ?_)
    have hS := hw.sel [1, 2] rfl (by decide)
    refine ⟨hS, ?_⟩
    refine h_take 8 rfl (by kernel_rfl) (by kernel_rfl) (by kernel_rfl) (v_as) rfl hS ?_
    refine h_done (by kernel_rfl) ?_
    refine (?_ : C _ _ _ _ _ _ _ (Own w [] [Res.row b2 48 [.bool (decide (((n1_ : Nat) : Int) = 1)), .bool (decide (((n4_ : Nat) : Int) = 1)), .int .u64 (n7_ : Nat), .int .u64 (s10_ : Nat), .int .u64 (q11_ : Nat), .int .i64 (op12_ : Nat), .string k13_, .int .i64 am14_, .int .i64 sp15_, .int .u64 (le16_ : Nat), .string (⟨d20_.toArray⟩ : ByteArray)], Res.row b5 48 [.bool (decide (((n1_ : Nat) : Int) = 1)), .bool (decide (((n4_ : Nat) : Int) = 1)), .int .u64 (n7_ : Nat), .int .u64 (s10_ : Nat), .int .u64 (q11_ : Nat), .int .i64 (op12_ : Nat), .string k13_, .int .i64 am14_, .int .i64 sp15_, .int .u64 (le16_ : Nat), .string (⟨d20_.toArray⟩ : ByteArray)], Res.vec 5 1 r19_ d20_.length (d20_.map vb), Res.row b8 71 [v, .int .i64 (a'21_ : Nat), .bool bad'22_]])) _ hw
    exact c_ret (retc2 (cs := [.bool (decide (((n1_ : Nat) : Int) = 1)), .bool (decide (((n4_ : Nat) : Int) = 1)), .int .u64 (n7_ : Nat), .int .u64 (s10_ : Nat), .int .u64 (q11_ : Nat), .int .i64 (op12_ : Nat), .string k13_, .int .i64 am14_, .int .i64 sp15_, .int .u64 (le16_ : Nat), .string (⟨d20_.toArray⟩ : ByteArray)]) (v := .bool (decide (({ look := decide (((n1_ : Nat) : Int) = 1), lazy := decide (((n4_ : Nat) : Int) = 1), seq := n7_, cmd := ({ session := s10_, seq := q11_, op := ((op12_ : Nat) : Int), key := k13_, amount := am14_, span := sp15_, lease := le16_ } : CmdD), key := (⟨d20_.toArray⟩ : ByteArray) } : AskD).ok))) rfl rfl rfl (by kernel_rfl) (Own.rowCells (i := 0) rfl) (fun w' hw => ⟨(decide (((n1_ : Nat) : Int) = 1)), (decide (((n4_ : Nat) : Int) = 1)), n7_, s10_, q11_, ((op12_ : Nat) : Int), k13_, am14_, sp15_, le16_, (⟨d20_.toArray⟩ : ByteArray), (decide (({ look := decide (((n1_ : Nat) : Int) = 1), lazy := decide (((n4_ : Nat) : Int) = 1), seq := n7_, cmd := ({ session := s10_, seq := q11_, op := ((op12_ : Nat) : Int), key := k13_, amount := am14_, span := sp15_, lease := le16_ } : CmdD), key := (⟨d20_.toArray⟩ : ByteArray) } : AskD).ok)), rfl, RefPost.on hR g8_3 decide_eq_true_iff, hw.drop⟩))
  ·
    refine h_offg 4 rfl rfl (gF g8_3) rfl (by kernel_rfl) (by kernel_rfl) (by kernel_rfl) rfl hS ?_
    refine h_offg 5 rfl rfl (gF g8_3) rfl (by kernel_rfl) (by kernel_rfl) (by kernel_rfl) rfl hS ?_
    refine h_take 6 rfl (by kernel_rfl) (by kernel_rfl) (by kernel_rfl) (v_pickF (gF g8_3)) rfl hS ?_
    refine h_one 7 (by kernel_rfl) rfl hw ?_
    refine l_stN (cs := [.bool false, .bool false, .int .u64 (0 : Nat), .int .u64 (0 : Nat), .int .u64 (0 : Nat), .int .i64 0, .string (⟨#[]⟩ : ByteArray), .int .i64 0, .int .i64 0, .int .u64 (0 : Nat), .string (⟨#[]⟩ : ByteArray)]) (vs := [.bool (decide (((n1_ : Nat) : Int) = 1)), .bool (decide (((n4_ : Nat) : Int) = 1)), .int .u64 (n7_ : Nat), .int .u64 (s10_ : Nat), .int .u64 (q11_ : Nat), .int .i64 (op12_ : Nat), .string k13_, .int .i64 am14_, .int .i64 sp15_, .int .u64 (le16_ : Nat), .string (⟨d20_.toArray⟩ : ByteArray)]) 0 rfl rfl rfl (by kernel_rfl) (allc_cons rfl (allc_cons rfl (allc_cons rfl (allc_cons rfl (allc_cons rfl (allc_cons rfl (allc_cons rfl (allc_cons rfl (allc_cons rfl (allc_cons rfl (allc_cons rfl allc_nil))))))))))) (Nat.le_of_ble_eq_true rfl) ?_
    refine l_nil (fun w' hw => ?_)
    have hS := hw.sel [1, 2] rfl (by decide)
    refine ⟨hS, ?_⟩
    refine h_take 8 rfl (by kernel_rfl) (by kernel_rfl) (by kernel_rfl) (v_as) rfl hS ?_
    refine h_done (by kernel_rfl) ?_
    refine (?_ : C _ _ _ _ _ _ _ (Own w [] [Res.row b2 48 [.bool (decide (((n1_ : Nat) : Int) = 1)), .bool (decide (((n4_ : Nat) : Int) = 1)), .int .u64 (n7_ : Nat), .int .u64 (s10_ : Nat), .int .u64 (q11_ : Nat), .int .i64 (op12_ : Nat), .string k13_, .int .i64 am14_, .int .i64 sp15_, .int .u64 (le16_ : Nat), .string (⟨d20_.toArray⟩ : ByteArray)], Res.row b5 48 [.bool (decide (((n1_ : Nat) : Int) = 1)), .bool (decide (((n4_ : Nat) : Int) = 1)), .int .u64 (n7_ : Nat), .int .u64 (s10_ : Nat), .int .u64 (q11_ : Nat), .int .i64 (op12_ : Nat), .string k13_, .int .i64 am14_, .int .i64 sp15_, .int .u64 (le16_ : Nat), .string (⟨d20_.toArray⟩ : ByteArray)], Res.vec 5 1 r19_ d20_.length (d20_.map vb), Res.row b8 71 [v, .int .i64 (a'21_ : Nat), .bool bad'22_]])) _ hw
    exact c_ret (retc2 (cs := [.bool (decide (((n1_ : Nat) : Int) = 1)), .bool (decide (((n4_ : Nat) : Int) = 1)), .int .u64 (n7_ : Nat), .int .u64 (s10_ : Nat), .int .u64 (q11_ : Nat), .int .i64 (op12_ : Nat), .string k13_, .int .i64 am14_, .int .i64 sp15_, .int .u64 (le16_ : Nat), .string (⟨d20_.toArray⟩ : ByteArray)]) (v := .bool false) rfl rfl rfl (by kernel_rfl) (Own.rowCells (i := 0) rfl) (fun w' hw => ⟨(decide (((n1_ : Nat) : Int) = 1)), (decide (((n4_ : Nat) : Int) = 1)), n7_, s10_, q11_, ((op12_ : Nat) : Int), k13_, am14_, sp15_, le16_, (⟨d20_.toArray⟩ : ByteArray), false, rfl, RefPost.off hR g8_3, hw.drop⟩))
theorem rtoTld_s (v : Value) (b : List UInt8) (w : World) (hl : b.length ≤ 1048576) (hb : Rd w [] (Res.sl v b.length (b.map vb))) : Rets Tryz.prog 13 #[v] w fun u_ w' => ∃ (sq : Nat) (rt : Bool) (ld : Int) (s : Nat) (q : Nat) (op : Int) (le : Nat) (am : Int) (sp : Int) (mo : Int) (ln : Int) (f : Bool), u_ = .tuple #[.agg #[.int .u64 (sq : Nat), .bool rt, .int .i64 ld, .int .u64 (s : Nat), .int .u64 (q : Nat), .int .i64 op, .int .u64 (le : Nat), .int .i64 am, .int .i64 sp, .int .i64 mo, .int .i64 ln], .bool f] ∧ RefPost (decTld b) (⟨sq, rt, ld, ⟨s, q, op, le, am, sp⟩, mo, ln⟩ : TldD) f ∧ Own w [] [] w' := by
  refine fn_enter (args := [v]) Tryz.func13 rfl Tryz.ntmps13 rfl (Own.start w) ?_
  refine c_reg ?_
  refine l_new (v := .agg #[.int .u64 (0 : Nat), .bool false, .int .i64 0, .int .u64 (0 : Nat), .int .u64 (0 : Nat), .int .i64 0, .int .u64 (0 : Nat), .int .i64 0, .int .i64 0, .int .i64 0, .int .i64 0]) (by kernel_rfl) rfl (fun b2 => ?_)
  refine l_as rfl ?_
  refine l_end ?_
  refine c_reg ?_
  refine l_mv rfl ?_
  refine l_bldc (cs := [v, .int .i64 0, .bool false]) (z := [.slice none 0 0, .int .i64 0, .bool false]) (pl := [(0, 1), (1, 1), (2, 1)]) (by kernel_rfl) ⟨(Sl.cell1 (Rd.φ hb)), trivial⟩ (by kernel_rfl) rfl ?_
  refine l_box rfl rfl (fun b8 => ?_)
  refine l_as rfl ?_
  refine l_end ?_
  refine c_reg ?_
  refine l_bld (cs := [.int .u64 (0 : Nat), .bool false, .int .i64 0, .int .u64 (0 : Nat), .int .u64 (0 : Nat), .int .i64 0, .int .u64 (0 : Nat), .int .i64 0, .int .i64 0, .int .i64 0, .int .i64 0]) (z := [.int .u64 (0 : Nat), .bool false, .int .i64 0, .int .u64 (0 : Nat), .int .u64 (0 : Nat), .int .i64 0, .int .u64 (0 : Nat), .int .i64 0, .int .i64 0, .int .i64 0, .int .i64 0]) (pl := [(0, 1), (1, 1), (2, 1), (3, 6), (9, 1), (10, 1)]) (by kernel_rfl) (by kernel_rfl) rfl ?_
  refine l_new (v := .agg #[.int .u64 (0 : Nat), .bool false, .int .i64 0, .int .u64 (0 : Nat), .int .u64 (0 : Nat), .int .i64 0, .int .u64 (0 : Nat), .int .i64 0, .int .i64 0, .int .i64 0, .int .i64 0]) (by kernel_rfl) rfl (fun b5 => ?_)
  refine l_stN (cs := [.int .u64 (0 : Nat), .bool false, .int .i64 0, .int .u64 (0 : Nat), .int .u64 (0 : Nat), .int .i64 0, .int .u64 (0 : Nat), .int .i64 0, .int .i64 0, .int .i64 0, .int .i64 0]) (vs := [.int .u64 (0 : Nat), .bool false, .int .i64 0, .int .u64 (0 : Nat), .int .u64 (0 : Nat), .int .i64 0, .int .u64 (0 : Nat), .int .i64 0, .int .i64 0, .int .i64 0, .int .i64 0]) 2 rfl rfl rfl (by kernel_rfl) (allc_cons rfl (allc_cons rfl (allc_cons rfl (allc_cons rfl (allc_cons rfl (allc_cons rfl (allc_cons rfl (allc_cons rfl (allc_cons rfl (allc_cons rfl (allc_cons rfl allc_nil))))))))))) (Nat.le_of_ble_eq_true rfl) ?_
  refine l_end ?_
  refine c_reg ?_
  refine l_mv rfl ?_
  refine l_call (by kernel_rfl) rfl rfl (fun w' hw => ?_)
  refine (rinNum_s b8 v b 0 false w' (by first | assumption | omega | (simp <;> omega) | (constructor <;> (first | omega | (simp only [LenOk]; omega) | (simp <;> omega)))) (by first | assumption | omega | (simp <;> omega) | (constructor <;> (first | omega | (simp only [LenOk]; omega) | (simp <;> omega)))) (hw.rdTo hb [1] rfl) (hw.give [1] rfl (by decide))).mono ?_
  rintro _ w1 ⟨n1_, a'2_, bad'3_, rfl, hf3_1, hf3_1_1, hO⟩
  have hq1 := hf3_1.le
  refine (?_ : CL _ _ _ _ _ _ (Own w [] [Res.row b2 54 [.int .u64 (0 : Nat), .bool false, .int .i64 0, .int .u64 (0 : Nat), .int .u64 (0 : Nat), .int .i64 0, .int .u64 (0 : Nat), .int .i64 0, .int .i64 0, .int .i64 0, .int .i64 0], Res.row b5 54 [.int .u64 (0 : Nat), .bool false, .int .i64 0, .int .u64 (0 : Nat), .int .u64 (0 : Nat), .int .i64 0, .int .u64 (0 : Nat), .int .i64 0, .int .i64 0, .int .i64 0, .int .i64 0], Res.row b8 71 [v, .int .i64 (a'2_ : Nat), .bool bad'3_]])) w1 (hw.frameL [1] rfl hO)
  refine l_fld (o := 0) rfl (by kernel_rfl) rfl ?_
  refine l_st (cs := [.int .u64 (0 : Nat), .bool false, .int .i64 0, .int .u64 (0 : Nat), .int .u64 (0 : Nat), .int .i64 0, .int .u64 (0 : Nat), .int .i64 0, .int .i64 0, .int .i64 0, .int .i64 0]) 1 rfl rfl rfl (by kernel_rfl) rfl (Nat.le_of_ble_eq_true rfl) ?_
  refine l_end ?_
  refine c_reg ?_
  refine l_mv rfl ?_
  refine l_call (by kernel_rfl) rfl rfl (fun w' hw => ?_)
  refine (rinInt_s b8 v b a'2_ bad'3_ 1 w' (by first | assumption | omega | (simp <;> omega) | (constructor <;> (first | omega | (simp only [LenOk]; omega) | (simp <;> omega)))) (by first | assumption | omega | (simp <;> omega) | (constructor <;> (first | omega | (simp only [LenOk]; omega) | (simp <;> omega)))) (by first | assumption | omega | (simp <;> omega) | (constructor <;> (first | omega | (simp only [LenOk]; omega) | (simp <;> omega)))) (hw.rdTo hb [2] rfl) (hw.give [2] rfl (by decide))).mono ?_
  rintro _ w1 ⟨n4_, a'5_, bad'6_, rfl, hf4_1, hf4_1_1, hO⟩
  have hq2 := hf4_1.le
  refine (?_ : CL _ _ _ _ _ _ (Own w [] [Res.row b2 54 [.int .u64 (0 : Nat), .bool false, .int .i64 0, .int .u64 (0 : Nat), .int .u64 (0 : Nat), .int .i64 0, .int .u64 (0 : Nat), .int .i64 0, .int .i64 0, .int .i64 0, .int .i64 0], Res.row b5 54 [.int .u64 (n1_ : Nat), .bool false, .int .i64 0, .int .u64 (0 : Nat), .int .u64 (0 : Nat), .int .i64 0, .int .u64 (0 : Nat), .int .i64 0, .int .i64 0, .int .i64 0, .int .i64 0], Res.row b8 71 [v, .int .i64 (a'5_ : Nat), .bool bad'6_]])) w1 (hw.frameL [2] rfl hO)
  refine l_eq rfl rfl rfl ?_
  refine l_fld (o := 1) rfl (by kernel_rfl) rfl ?_
  refine l_st (cs := [.int .u64 (n1_ : Nat), .bool false, .int .i64 0, .int .u64 (0 : Nat), .int .u64 (0 : Nat), .int .i64 0, .int .u64 (0 : Nat), .int .i64 0, .int .i64 0, .int .i64 0, .int .i64 0]) 1 rfl rfl rfl (by kernel_rfl) rfl (Nat.le_of_ble_eq_true rfl) ?_
  refine l_end ?_
  refine c_reg ?_
  refine l_mv rfl ?_
  refine l_call (by kernel_rfl) rfl rfl (fun w' hw => ?_)
  refine (rinInt_s b8 v b a'5_ bad'6_ 16 w' (by first | assumption | omega | (simp <;> omega) | (constructor <;> (first | omega | (simp only [LenOk]; omega) | (simp <;> omega)))) (by first | assumption | omega | (simp <;> omega) | (constructor <;> (first | omega | (simp only [LenOk]; omega) | (simp <;> omega)))) (by first | assumption | omega | (simp <;> omega) | (constructor <;> (first | omega | (simp only [LenOk]; omega) | (simp <;> omega)))) (hw.rdTo hb [2] rfl) (hw.give [2] rfl (by decide))).mono ?_
  rintro _ w1 ⟨n7_, a'8_, bad'9_, rfl, hf5_1, hf5_1_1, hO⟩
  have hq3 := hf5_1.le
  refine (?_ : CL _ _ _ _ _ _ (Own w [] [Res.row b2 54 [.int .u64 (0 : Nat), .bool false, .int .i64 0, .int .u64 (0 : Nat), .int .u64 (0 : Nat), .int .i64 0, .int .u64 (0 : Nat), .int .i64 0, .int .i64 0, .int .i64 0, .int .i64 0], Res.row b5 54 [.int .u64 (n1_ : Nat), .bool (decide (((n4_ : Nat) : Int) = 1)), .int .i64 0, .int .u64 (0 : Nat), .int .u64 (0 : Nat), .int .i64 0, .int .u64 (0 : Nat), .int .i64 0, .int .i64 0, .int .i64 0, .int .i64 0], Res.row b8 71 [v, .int .i64 (a'8_ : Nat), .bool bad'9_]])) w1 (hw.frameL [2] rfl hO)
  refine l_fld (o := 2) rfl (by kernel_rfl) rfl ?_
  refine l_st (cs := [.int .u64 (n1_ : Nat), .bool (decide (((n4_ : Nat) : Int) = 1)), .int .i64 0, .int .u64 (0 : Nat), .int .u64 (0 : Nat), .int .i64 0, .int .u64 (0 : Nat), .int .i64 0, .int .i64 0, .int .i64 0, .int .i64 0]) 1 rfl rfl rfl (by kernel_rfl) rfl (Nat.le_of_ble_eq_true rfl) ?_
  refine l_end ?_
  refine c_reg ?_
  refine l_mv rfl ?_
  refine l_call (by kernel_rfl) rfl rfl (fun w' hw => ?_)
  refine (rrplRead_s b8 v b a'8_ bad'9_ w' (by first | assumption | omega | (simp <;> omega) | (constructor <;> (first | omega | (simp only [LenOk]; omega) | (simp <;> omega)))) (by first | assumption | omega | (simp <;> omega) | (constructor <;> (first | omega | (simp only [LenOk]; omega) | (simp <;> omega)))) (hw.rdTo hb [2] rfl) (hw.give [2] rfl (by decide))).mono ?_
  rintro _ w1 ⟨s10_, q11_, op12_, le13_, am14_, sp15_, a'16_, bad'17_, rfl, hf6_1, hO⟩
  have hq4 := hf6_1.le
  refine (?_ : CL _ _ _ _ _ _ (Own w [] [Res.row b2 54 [.int .u64 (0 : Nat), .bool false, .int .i64 0, .int .u64 (0 : Nat), .int .u64 (0 : Nat), .int .i64 0, .int .u64 (0 : Nat), .int .i64 0, .int .i64 0, .int .i64 0, .int .i64 0], Res.row b5 54 [.int .u64 (n1_ : Nat), .bool (decide (((n4_ : Nat) : Int) = 1)), .int .i64 (n7_ : Nat), .int .u64 (0 : Nat), .int .u64 (0 : Nat), .int .i64 0, .int .u64 (0 : Nat), .int .i64 0, .int .i64 0, .int .i64 0, .int .i64 0], Res.row b8 71 [v, .int .i64 (a'16_ : Nat), .bool bad'17_]])) w1 (hw.frameL [2] rfl hO)
  refine l_fld (o := 3) rfl (by kernel_rfl) rfl ?_
  refine l_stN (cs := [.int .u64 (n1_ : Nat), .bool (decide (((n4_ : Nat) : Int) = 1)), .int .i64 (n7_ : Nat), .int .u64 (0 : Nat), .int .u64 (0 : Nat), .int .i64 0, .int .u64 (0 : Nat), .int .i64 0, .int .i64 0, .int .i64 0, .int .i64 0]) (vs := [.int .u64 (s10_ : Nat), .int .u64 (q11_ : Nat), .int .i64 (op12_ : Nat), .int .u64 (le13_ : Nat), .int .i64 am14_, .int .i64 sp15_]) 1 rfl rfl rfl (by kernel_rfl) (allc_cons rfl (allc_cons rfl (allc_cons rfl (allc_cons rfl (allc_cons rfl (allc_cons rfl allc_nil)))))) (Nat.le_of_ble_eq_true rfl) ?_
  refine l_end ?_
  refine c_reg ?_
  refine l_mv rfl ?_
  refine l_call (by kernel_rfl) rfl rfl (fun w' hw => ?_)
  refine (rinNum_s b8 v b a'16_ bad'17_ w' (by first | assumption | omega | (simp <;> omega) | (constructor <;> (first | omega | (simp only [LenOk]; omega) | (simp <;> omega)))) (by first | assumption | omega | (simp <;> omega) | (constructor <;> (first | omega | (simp only [LenOk]; omega) | (simp <;> omega)))) (hw.rdTo hb [2] rfl) (hw.give [2] rfl (by decide))).mono ?_
  rintro _ w1 ⟨n18_, a'19_, bad'20_, rfl, hf7_1, hf7_1_1, hO⟩
  have hq5 := hf7_1.le
  refine (?_ : CL _ _ _ _ _ _ (Own w [] [Res.row b2 54 [.int .u64 (0 : Nat), .bool false, .int .i64 0, .int .u64 (0 : Nat), .int .u64 (0 : Nat), .int .i64 0, .int .u64 (0 : Nat), .int .i64 0, .int .i64 0, .int .i64 0, .int .i64 0], Res.row b5 54 [.int .u64 (n1_ : Nat), .bool (decide (((n4_ : Nat) : Int) = 1)), .int .i64 (n7_ : Nat), .int .u64 (s10_ : Nat), .int .u64 (q11_ : Nat), .int .i64 (op12_ : Nat), .int .u64 (le13_ : Nat), .int .i64 am14_, .int .i64 sp15_, .int .i64 0, .int .i64 0], Res.row b8 71 [v, .int .i64 (a'19_ : Nat), .bool bad'20_]])) w1 (hw.frameL [2] rfl hO)
  refine l_cvt (c := toI n18_) (by kernel_rfl) rfl (wrap_toI hf7_1_1) rfl ?_ (by kernel_rfl)
  refine l_fld (o := 9) rfl (by kernel_rfl) rfl ?_
  refine l_st (cs := [.int .u64 (n1_ : Nat), .bool (decide (((n4_ : Nat) : Int) = 1)), .int .i64 (n7_ : Nat), .int .u64 (s10_ : Nat), .int .u64 (q11_ : Nat), .int .i64 (op12_ : Nat), .int .u64 (le13_ : Nat), .int .i64 am14_, .int .i64 sp15_, .int .i64 0, .int .i64 0]) 1 rfl rfl rfl (by kernel_rfl) rfl (Nat.le_of_ble_eq_true rfl) ?_
  refine l_end ?_
  refine c_reg ?_
  refine l_mv rfl ?_
  refine l_call (by kernel_rfl) rfl rfl (fun w' hw => ?_)
  refine (rinNum_s b8 v b a'19_ bad'20_ w' (by first | assumption | omega | (simp <;> omega) | (constructor <;> (first | omega | (simp only [LenOk]; omega) | (simp <;> omega)))) (by first | assumption | omega | (simp <;> omega) | (constructor <;> (first | omega | (simp only [LenOk]; omega) | (simp <;> omega)))) (hw.rdTo hb [2] rfl) (hw.give [2] rfl (by decide))).mono ?_
  rintro _ w1 ⟨n21_, a'22_, bad'23_, rfl, hf8_1, hf8_1_1, hO⟩
  have hR : RdS pTld b 0 false (⟨n1_, decide (((n4_ : Nat) : Int) = 1), ((n7_ : Nat) : Int), ⟨s10_, q11_, ((op12_ : Nat) : Int), le13_, am14_, sp15_⟩, toI n18_, toI n21_⟩ : TldD) a'22_ bad'23_ := hf3_1.bind ((RdS.flag hf4_1).bind (RdS.bind hf5_1.int (hf6_1.bind (hf7_1.bind (hf8_1.bind (RdS.pure _ hf8_1.le))))))
  refine (?_ : CL _ _ _ _ _ _ (Own w [] [Res.row b2 54 [.int .u64 (0 : Nat), .bool false, .int .i64 0, .int .u64 (0 : Nat), .int .u64 (0 : Nat), .int .i64 0, .int .u64 (0 : Nat), .int .i64 0, .int .i64 0, .int .i64 0, .int .i64 0], Res.row b5 54 [.int .u64 (n1_ : Nat), .bool (decide (((n4_ : Nat) : Int) = 1)), .int .i64 (n7_ : Nat), .int .u64 (s10_ : Nat), .int .u64 (q11_ : Nat), .int .i64 (op12_ : Nat), .int .u64 (le13_ : Nat), .int .i64 am14_, .int .i64 sp15_, .int .i64 (toI n18_), .int .i64 0], Res.row b8 71 [v, .int .i64 (a'22_ : Nat), .bool bad'23_]])) w1 (hw.frameL [2] rfl hO)
  refine l_cvt (c := toI n21_) (by kernel_rfl) rfl (wrap_toI hf8_1_1) rfl ?_ (by kernel_rfl)
  refine l_fld (o := 10) rfl (by kernel_rfl) rfl ?_
  refine l_st (cs := [.int .u64 (n1_ : Nat), .bool (decide (((n4_ : Nat) : Int) = 1)), .int .i64 (n7_ : Nat), .int .u64 (s10_ : Nat), .int .u64 (q11_ : Nat), .int .i64 (op12_ : Nat), .int .u64 (le13_ : Nat), .int .i64 am14_, .int .i64 sp15_, .int .i64 (toI n18_), .int .i64 0]) 1 rfl rfl rfl (by kernel_rfl) rfl (Nat.le_of_ble_eq_true rfl) ?_
  refine l_end ?_
  refine c_seq ?_
  refine c_heldo [1] rfl (by decide) (by kernel_rfl) (fun w' hw hS => ?_)
  refine h_take 0 rfl (by kernel_rfl) (by kernel_rfl) (by kernel_rfl) (v_ldr (cs := [.int .u64 (n1_ : Nat), .bool (decide (((n4_ : Nat) : Int) = 1)), .int .i64 (n7_ : Nat), .int .u64 (s10_ : Nat), .int .u64 (q11_ : Nat), .int .i64 (op12_ : Nat), .int .u64 (le13_ : Nat), .int .i64 am14_, .int .i64 sp15_, .int .i64 (toI n18_), .int .i64 (toI n21_)]) 0 rfl rfl (by kernel_rfl)) rfl hS ?_
  refine h_take 1 rfl (by kernel_rfl) (by kernel_rfl) (by kernel_rfl) (v_mv) rfl hS ?_
  refine h_one 2 (by kernel_rfl) rfl hw ?_
  refine l_call (by kernel_rfl) rfl rfl (fun w' hw => ?_)
  refine (whole_s b8 v b a'22_ bad'23_ w' (by first | assumption | omega | (simp <;> omega) | (constructor <;> (first | omega | (simp only [LenOk]; omega) | (simp <;> omega)))) (hw.rdTo hb [2] rfl) (hw.give [2] rfl (by decide))).mono ?_
  rintro _ w1 ⟨rfl, hO⟩
  refine (?_ : CL _ _ _ _ _ _ (Own w [] [Res.row b2 54 [.int .u64 (0 : Nat), .bool false, .int .i64 0, .int .u64 (0 : Nat), .int .u64 (0 : Nat), .int .i64 0, .int .u64 (0 : Nat), .int .i64 0, .int .i64 0, .int .i64 0, .int .i64 0], Res.row b5 54 [.int .u64 (n1_ : Nat), .bool (decide (((n4_ : Nat) : Int) = 1)), .int .i64 (n7_ : Nat), .int .u64 (s10_ : Nat), .int .u64 (q11_ : Nat), .int .i64 (op12_ : Nat), .int .u64 (le13_ : Nat), .int .i64 am14_, .int .i64 sp15_, .int .i64 (toI n18_), .int .i64 (toI n21_)], Res.row b8 71 [v, .int .i64 (a'22_ : Nat), .bool bad'23_]])) w1 (hw.frameL [2] rfl hO)
  refine l_nil (fun w' hw => ?_)
  have hS := hw.sel [1] rfl (by decide)
  refine ⟨hS, ?_⟩
  refine h_take 3 rfl (by kernel_rfl) (by kernel_rfl) (by kernel_rfl) (v_mv) rfl hS ?_
  by_cases g9_3 : bad'23_ = false ∧ a'22_ = b.length
  ·
    refine h_takeg 4 rfl rfl (gT g9_3) (by kernel_rfl) (by kernel_rfl) (by kernel_rfl) (v_ldr (cs := [.int .u64 (n1_ : Nat), .bool (decide (((n4_ : Nat) : Int) = 1)), .int .i64 (n7_ : Nat), .int .u64 (s10_ : Nat), .int .u64 (q11_ : Nat), .int .i64 (op12_ : Nat), .int .u64 (le13_ : Nat), .int .i64 am14_, .int .i64 sp15_, .int .i64 (toI n18_), .int .i64 (toI n21_)]) 0 rfl rfl (by kernel_rfl)) rfl hS ?_
    refine h_one 5 (by kernel_rfl) rfl hw ?_
    refine l_on rfl (gT g9_3) ?_
    refine l_call (by kernel_rfl) rfl rfl (fun w' hw => ?_)
    refine (rtldOK_s ({ seq := n1_, retry := decide (((n4_ : Nat) : Int) = 1), lead := ((n7_ : Nat) : Int), reply := ({ session := s10_, seq := q11_, e := ((op12_ : Nat) : Int), lease := le13_, amount := am14_, until_ := sp15_ } : RepD), most := toI n18_, lent := toI n21_ } : TldD) w').mono ?_
    rintro _ w1 ⟨rfl, hO⟩
    refine (?_ : CL _ _ _ _ _ _ (Own w [] [Res.row b2 54 [.int .u64 (0 : Nat), .bool false, .int .i64 0, .int .u64 (0 : Nat), .int .u64 (0 : Nat), .int .i64 0, .int .u64 (0 : Nat), .int .i64 0, .int .i64 0, .int .i64 0, .int .i64 0], Res.row b5 54 [.int .u64 (n1_ : Nat), .bool (decide (((n4_ : Nat) : Int) = 1)), .int .i64 (n7_ : Nat), .int .u64 (s10_ : Nat), .int .u64 (q11_ : Nat), .int .i64 (op12_ : Nat), .int .u64 (le13_ : Nat), .int .i64 am14_, .int .i64 sp15_, .int .i64 (toI n18_), .int .i64 (toI n21_)], Res.row b8 71 [v, .int .i64 (a'22_ : Nat), .bool bad'23_]])) w1 (hw.frame0 hO)
    refine l_nil (fun w' hw => ?_)
    have hS := hw.sel [1] rfl (by decide)
    refine ⟨hS, ?_⟩
    refine h_take 6 rfl (by kernel_rfl) (by kernel_rfl) (by kernel_rfl) (v_pickT (gT g9_3)) rfl hS ?_
    refine h_one 7 (by kernel_rfl) rfl hw ?_
    refine l_stN (cs := [.int .u64 (0 : Nat), .bool false, .int .i64 0, .int .u64 (0 : Nat), .int .u64 (0 : Nat), .int .i64 0, .int .u64 (0 : Nat), .int .i64 0, .int .i64 0, .int .i64 0, .int .i64 0]) (vs := [.int .u64 (n1_ : Nat), .bool (decide (((n4_ : Nat) : Int) = 1)), .int .i64 (n7_ : Nat), .int .u64 (s10_ : Nat), .int .u64 (q11_ : Nat), .int .i64 (op12_ : Nat), .int .u64 (le13_ : Nat), .int .i64 am14_, .int .i64 sp15_, .int .i64 (toI n18_), .int .i64 (toI n21_)]) 0 rfl rfl rfl (by kernel_rfl) (allc_cons rfl (allc_cons rfl (allc_cons rfl (allc_cons rfl (allc_cons rfl (allc_cons rfl (allc_cons rfl (allc_cons rfl (allc_cons rfl (allc_cons rfl (allc_cons rfl allc_nil))))))))))) (Nat.le_of_ble_eq_true rfl) ?_
    refine l_nil (fun w' hw => ?_)
    have hS := hw.sel [1] rfl (by decide)
    refine ⟨hS, ?_⟩
    refine h_take 8 rfl (by kernel_rfl) (by kernel_rfl) (by kernel_rfl) (v_as) rfl hS ?_
    refine h_done (by kernel_rfl) ?_
    refine (?_ : C _ _ _ _ _ _ _ (Own w [] [Res.row b2 54 [.int .u64 (n1_ : Nat), .bool (decide (((n4_ : Nat) : Int) = 1)), .int .i64 (n7_ : Nat), .int .u64 (s10_ : Nat), .int .u64 (q11_ : Nat), .int .i64 (op12_ : Nat), .int .u64 (le13_ : Nat), .int .i64 am14_, .int .i64 sp15_, .int .i64 (toI n18_), .int .i64 (toI n21_)], Res.row b5 54 [.int .u64 (n1_ : Nat), .bool (decide (((n4_ : Nat) : Int) = 1)), .int .i64 (n7_ : Nat), .int .u64 (s10_ : Nat), .int .u64 (q11_ : Nat), .int .i64 (op12_ : Nat), .int .u64 (le13_ : Nat), .int .i64 am14_, .int .i64 sp15_, .int .i64 (toI n18_), .int .i64 (toI n21_)], Res.row b8 71 [v, .int .i64 (a'22_ : Nat), .bool bad'23_]])) _ hw
    exact c_ret (retc2 (cs := [.int .u64 (n1_ : Nat), .bool (decide (((n4_ : Nat) : Int) = 1)), .int .i64 (n7_ : Nat), .int .u64 (s10_ : Nat), .int .u64 (q11_ : Nat), .int .i64 (op12_ : Nat), .int .u64 (le13_ : Nat), .int .i64 am14_, .int .i64 sp15_, .int .i64 (toI n18_), .int .i64 (toI n21_)]) (v := .bool (decide (({ seq := n1_, retry := decide (((n4_ : Nat) : Int) = 1), lead := ((n7_ : Nat) : Int), reply := ({ session := s10_, seq := q11_, e := ((op12_ : Nat) : Int), lease := le13_, amount := am14_, until_ := sp15_ } : RepD), most := toI n18_, lent := toI n21_ } : TldD).ok))) rfl rfl rfl (by kernel_rfl) (Own.rowCells (i := 0) rfl) (fun w' hw => ⟨n1_, (decide (((n4_ : Nat) : Int) = 1)), ((n7_ : Nat) : Int), s10_, q11_, ((op12_ : Nat) : Int), le13_, am14_, sp15_, toI n18_, toI n21_, (decide (({ seq := n1_, retry := decide (((n4_ : Nat) : Int) = 1), lead := ((n7_ : Nat) : Int), reply := ({ session := s10_, seq := q11_, e := ((op12_ : Nat) : Int), lease := le13_, amount := am14_, until_ := sp15_ } : RepD), most := toI n18_, lent := toI n21_ } : TldD).ok)), rfl, RefPost.on hR g9_3 decide_eq_true_iff, hw.drop⟩))
  ·
    refine h_offg 4 rfl rfl (gF g9_3) rfl (by kernel_rfl) (by kernel_rfl) (by kernel_rfl) rfl hS ?_
    refine h_offg 5 rfl rfl (gF g9_3) rfl (by kernel_rfl) (by kernel_rfl) (by kernel_rfl) rfl hS ?_
    refine h_take 6 rfl (by kernel_rfl) (by kernel_rfl) (by kernel_rfl) (v_pickF (gF g9_3)) rfl hS ?_
    refine h_one 7 (by kernel_rfl) rfl hw ?_
    refine l_stN (cs := [.int .u64 (0 : Nat), .bool false, .int .i64 0, .int .u64 (0 : Nat), .int .u64 (0 : Nat), .int .i64 0, .int .u64 (0 : Nat), .int .i64 0, .int .i64 0, .int .i64 0, .int .i64 0]) (vs := [.int .u64 (n1_ : Nat), .bool (decide (((n4_ : Nat) : Int) = 1)), .int .i64 (n7_ : Nat), .int .u64 (s10_ : Nat), .int .u64 (q11_ : Nat), .int .i64 (op12_ : Nat), .int .u64 (le13_ : Nat), .int .i64 am14_, .int .i64 sp15_, .int .i64 (toI n18_), .int .i64 (toI n21_)]) 0 rfl rfl rfl (by kernel_rfl) (allc_cons rfl (allc_cons rfl (allc_cons rfl (allc_cons rfl (allc_cons rfl (allc_cons rfl (allc_cons rfl (allc_cons rfl (allc_cons rfl (allc_cons rfl (allc_cons rfl allc_nil))))))))))) (Nat.le_of_ble_eq_true rfl) ?_
    refine l_nil (fun w' hw => ?_)
    have hS := hw.sel [1] rfl (by decide)
    refine ⟨hS, ?_⟩
    refine h_take 8 rfl (by kernel_rfl) (by kernel_rfl) (by kernel_rfl) (v_as) rfl hS ?_
    refine h_done (by kernel_rfl) ?_
    refine (?_ : C _ _ _ _ _ _ _ (Own w [] [Res.row b2 54 [.int .u64 (n1_ : Nat), .bool (decide (((n4_ : Nat) : Int) = 1)), .int .i64 (n7_ : Nat), .int .u64 (s10_ : Nat), .int .u64 (q11_ : Nat), .int .i64 (op12_ : Nat), .int .u64 (le13_ : Nat), .int .i64 am14_, .int .i64 sp15_, .int .i64 (toI n18_), .int .i64 (toI n21_)], Res.row b5 54 [.int .u64 (n1_ : Nat), .bool (decide (((n4_ : Nat) : Int) = 1)), .int .i64 (n7_ : Nat), .int .u64 (s10_ : Nat), .int .u64 (q11_ : Nat), .int .i64 (op12_ : Nat), .int .u64 (le13_ : Nat), .int .i64 am14_, .int .i64 sp15_, .int .i64 (toI n18_), .int .i64 (toI n21_)], Res.row b8 71 [v, .int .i64 (a'22_ : Nat), .bool bad'23_]])) _ hw
    exact c_ret (retc2 (cs := [.int .u64 (n1_ : Nat), .bool (decide (((n4_ : Nat) : Int) = 1)), .int .i64 (n7_ : Nat), .int .u64 (s10_ : Nat), .int .u64 (q11_ : Nat), .int .i64 (op12_ : Nat), .int .u64 (le13_ : Nat), .int .i64 am14_, .int .i64 sp15_, .int .i64 (toI n18_), .int .i64 (toI n21_)]) (v := .bool false) rfl rfl rfl (by kernel_rfl) (Own.rowCells (i := 0) rfl) (fun w' hw => ⟨n1_, (decide (((n4_ : Nat) : Int) = 1)), ((n7_ : Nat) : Int), s10_, q11_, ((op12_ : Nat) : Int), le13_, am14_, sp15_, toI n18_, toI n21_, false, rfl, RefPost.off hR g9_3, hw.drop⟩))
end Go.Proofs.YtlkoekhjegaimaaGreat
