/-
  THE WALKS OF what the laws of the edge do: a call on both.
-/
import Derived.Test.YtgcmbdgimepnmaaEdR
set_option linter.unusedVariables false
set_option maxRecDepth 10000
namespace Go.Proofs.Ytgcmbdgimepnmaa
open Go Go.Sc Go.Proofs

structure EActD where
  kind : Int
  to : Int
  src : Int
  t : Int
  n : Int
  cmd : CmdD
  key : ByteArray
  lazy : Bool
  fit : Bool
  right : Bool
  told : TldD
  dv : Value
  data : List UInt8
instance : Inhabited EActD := ⟨⟨0, 0, 0, 0, 0, cmdZ, ⟨#[]⟩, false, false, false, tldZ, .slice none 0 0, []⟩⟩
structure EActD.wf (x : EActD) : Prop where
  cmd : x.cmd.wf
  key : x.key.size ≤ 1048576
  told : x.told.wf
  data : x.data.length ≤ 1048576
  t : isI x.t
def EActD.cells (x : EActD) : List Value := [.int .i64 x.kind, .int .i64 x.to, .int .i64 x.src, .int .i64 x.t, .int .i64 x.n] ++ (x.cmd.cells ++ ([.string x.key, .bool x.lazy, .bool x.fit, .bool x.right] ++ (x.told.cells ++ [x.dv])))
structure EActD.rd (x : EActD) (w : World) (S : List Nat) : Prop where
  dv : Rd w S (Res.sl x.dv x.data.length (x.data.map vb))
theorem EActD.rd.at0 {x : EActD} {w0 w : World} {S : List Nat} {L : List Res} (h : x.rd w0 S) (hw : Own w0 S L w) : x.rd w [] := ⟨hw.rd0 h.dv⟩
theorem EActD.rd.at {x : EActD} {w0 w : World} {S : List Nat} {L Lin : List Res} (h : x.rd w0 S) (hw : Own w0 S L w) (m : List Nat) (hm : m.mapM (fun i => L[i]?) = some Lin) : x.rd w (fps Lin) := ⟨hw.rdTo h.dv m hm⟩
-- no function scupper/scupperlaw18.later
theorem answers_s (w : World) : Rets Try.prog 5 #[] w fun u_ w' => u_ = .bool true ∧ Own w [] [] w' := by
  refine fn_enter (args := []) Try.func5 rfl Try.ntmps5 rfl (Own.start w) ?_
  refine c_reg (l_as rfl (l_end (c_reg (l_call (by kernel_rfl) rfl rfl (fun w' hw => (new_s 1 3 0 w' (by first | assumption | omega | (simp <;> omega) | (constructor <;> (first | omega | (simp only [LenOk]; omega) | (simp <;> omega)))) (by first | assumption | omega | (simp <;> omega) | (constructor <;> (first | omega | (simp only [LenOk]; omega) | (simp <;> omega)))) (by first | assumption | omega | (simp <;> omega) | (constructor <;> (first | omega | (simp only [LenOk]; omega) | (simp <;> omega))))).mono ?_)))))
  rintro _ w1 ⟨b1_, lm2_, nm3_, rfl, hO⟩
  refine (?_ : CL _ _ _ _ _ _ (Own w [] [Res.row b1_ 54 [.bool askZ.look, .bool askZ.lazy, .int .u64 (askZ.seq : Nat), .int .u64 (askZ.cmd.session : Nat), .int .u64 (askZ.cmd.seq : Nat), .int .i64 askZ.cmd.op, .string askZ.cmd.key, .int .i64 askZ.cmd.amount, .int .i64 askZ.cmd.span, .int .u64 (askZ.cmd.lease : Nat), .string askZ.key, .int .i64 0, .bool false, .map (some lm2_), .map (some nm3_), .int .i64 1, .int .i64 3, .int .i64 0, .int .u64 (0 : Nat), .int .i64 1, .int .i64 0], Res.mp ekU truV lm2_ ([] : List (Nat × TruD)), Res.mp ekU Value.bool nm3_ ([] : List (Nat × Bool))])) w1 (hw.frame0 hO)
  refine l_mv rfl (l_ext (vs := [.pointer (some ⟨b1_, 0, none⟩), .int .i64 0]) rfl rfl rfl (l_ext (vs := [.pointer (some ⟨b1_, 0, none⟩), .int .i64 0]) rfl rfl rfl (l_as rfl (l_as rfl (l_end (c_seq (c_reg (l_mv rfl (l_ne rfl rfl rfl (l_mv rfl (l_bor (q := 0 ≠ 0) 2 2 [16, 15] (false = true) rfl rfl rfl rfl rfl rfl trivial rfl (fun h2_2 => ?_) (fun g2_5 => ?_))))))))))))
  ·
   refine l_on rfl (gF h2_2) (l_mv rfl (l_on rfl (gF h2_2) (l_nilp (by kernel_rfl) rfl rfl rfl ?_)))
   exact l_nil (fun w' hw => ⟨(by repeat (first | exact .refl _ _ | refine .upd rfl ?_ | refine .msk rfl ?_)), (bool_dec _), hw⟩)
  refine l_end (c_decF rfl (by decide) (c_skipC (c_reg (l_mv rfl (l_call (by kernel_rfl) rfl rfl (fun w' hw => (ecall_s b1_ lm2_ nm3_ 1 3 0 askZ 0 false 0 1 0 [] [] 5 (⟨#[]⟩ : ByteArray) 0 0 0 5 w' (by unfold isI; decide) (by unfold isI; decide) (by first | assumption | omega | (simp <;> omega) | (constructor <;> (first | omega | (simp only [LenOk]; omega) | (simp <;> omega)))) (by first | assumption | omega | (simp <;> omega) | (constructor <;> (first | omega | (simp only [LenOk]; omega) | (simp <;> omega)))) (hw.give [0, 1, 2] rfl (by decide))).mono ?_))))))
  rintro _ w1 ⟨to4_, e5_, r6_, bs7_, a'8_, since'9_, waits'10_, seq'11_, now'12_, kl'13_, kn'14_, rfl, hf4_1, hO⟩
  refine (?_ : CL _ _ _ _ _ _ (Own w [] [Res.row b1_ 54 [.bool a'8_.look, .bool a'8_.lazy, .int .u64 (a'8_.seq : Nat), .int .u64 (a'8_.cmd.session : Nat), .int .u64 (a'8_.cmd.seq : Nat), .int .i64 a'8_.cmd.op, .string a'8_.cmd.key, .int .i64 a'8_.cmd.amount, .int .i64 a'8_.cmd.span, .int .u64 (a'8_.cmd.lease : Nat), .string a'8_.key, .int .i64 since'9_, .bool waits'10_, .map (some lm2_), .map (some nm3_), .int .i64 1, .int .i64 3, .int .i64 0, .int .u64 (seq'11_ : Nat), .int .i64 1, .int .i64 now'12_], Res.mp ekU truV lm2_ kl'13_, Res.mp ekU Value.bool nm3_ kn'14_, Res.vec 5 1 r6_ bs7_.length (bs7_.map vb)])) w1 (hw.frameL [0, 1, 2] rfl hO)
  refine l_mv rfl (l_ext (vs := [.int .i64 to4_, r6_, .int .i64 e5_]) rfl rfl rfl (l_ext (vs := [.int .i64 to4_, r6_, .int .i64 e5_]) rfl rfl rfl (l_ext (vs := [.int .i64 to4_, r6_, .int .i64 e5_]) rfl rfl rfl (l_as rfl (l_as rfl (l_as rfl (l_end (c_reg (l_mv rfl (l_call (by kernel_rfl) rfl rfl (fun w' hw => (ewaiting_s b1_ lm2_ nm3_ 1 3 0 a'8_ since'9_ waits'10_ seq'11_ 1 now'12_ w' (hw.give [0] rfl (by decide))).mono ?_)))))))))))
  rintro _ w1 ⟨y15_, f16_, rfl, hf5_1, hf5_1_1, hO⟩
  refine (?_ : CL _ _ _ _ _ _ (Own w [] [Res.mp ekU truV lm2_ kl'13_, Res.mp ekU Value.bool nm3_ kn'14_, Res.vec 5 1 r6_ bs7_.length (bs7_.map vb), Res.row b1_ 54 [.bool a'8_.look, .bool a'8_.lazy, .int .u64 (a'8_.seq : Nat), .int .u64 (a'8_.cmd.session : Nat), .int .u64 (a'8_.cmd.seq : Nat), .int .i64 a'8_.cmd.op, .string a'8_.cmd.key, .int .i64 a'8_.cmd.amount, .int .i64 a'8_.cmd.span, .int .u64 (a'8_.cmd.lease : Nat), .string a'8_.key, .int .i64 since'9_, .bool waits'10_, .map (some lm2_), .map (some nm3_), .int .i64 1, .int .i64 3, .int .i64 0, .int .u64 (seq'11_ : Nat), .int .i64 1, .int .i64 now'12_]])) w1 (hw.frameL [0] rfl hO)
  refine l_mv rfl (l_ext (vs := [.agg (AskD.cells y15_).toArray, .bool f16_]) rfl rfl rfl (l_ext (vs := [.agg (AskD.cells y15_).toArray, .bool f16_]) rfl rfl rfl (l_new (v := .agg #[.bool false, .bool false, .int .u64 (0 : Nat), .int .u64 (0 : Nat), .int .u64 (0 : Nat), .int .i64 0, .string (⟨#[]⟩ : ByteArray), .int .i64 0, .int .i64 0, .int .u64 (0 : Nat), .string (⟨#[]⟩ : ByteArray)]) (by kernel_rfl) rfl (fun b6 => l_stN (cs := [.bool false, .bool false, .int .u64 (0 : Nat), .int .u64 (0 : Nat), .int .u64 (0 : Nat), .int .i64 0, .string (⟨#[]⟩ : ByteArray), .int .i64 0, .int .i64 0, .int .u64 (0 : Nat), .string (⟨#[]⟩ : ByteArray)]) (vs := [.bool y15_.look, .bool y15_.lazy, .int .u64 (y15_.seq : Nat), .int .u64 (y15_.cmd.session : Nat), .int .u64 (y15_.cmd.seq : Nat), .int .i64 y15_.cmd.op, .string y15_.cmd.key, .int .i64 y15_.cmd.amount, .int .i64 y15_.cmd.span, .int .u64 (y15_.cmd.lease : Nat), .string y15_.key]) 4 rfl rfl rfl (by kernel_rfl) (allc_cons rfl (allc_cons rfl (allc_cons rfl (allc_cons rfl (allc_cons rfl (allc_cons rfl (allc_cons rfl (allc_cons rfl (allc_cons rfl (allc_cons rfl (allc_cons rfl allc_nil))))))))))) (Nat.le_of_ble_eq_true rfl) (l_as rfl (l_end (c_reg (l_mv rfl (l_eq rfl rfl rfl (l_mv rfl (l_band (q := e5_ = 0) 2 2 [33, 32] (to4_ = 1) rfl rfl rfl rfl rfl rfl trivial rfl (fun h6_2 => ?_) (fun g6_5 => ?_))))))))))))
  ·
   refine l_on rfl (gT h6_2) (l_mv rfl (l_on rfl (gT h6_2) (l_eq rfl rfl rfl ?_)))
   exact l_nil (fun w' hw => ⟨(by repeat (first | exact .refl _ _ | refine .upd rfl ?_ | refine .msk rfl ?_)), rfl, hw⟩)
  refine l_mv rfl (l_band (q := (e5_ = 0) ∧ (to4_ = 1)) 1 6 [36] (f16_ = true) rfl rfl rfl rfl rfl rfl trivial rfl (fun h6_6 => ?_) (fun g6_8 => ?_))
  ·
   refine l_on rfl (gT h6_6) (l_mv rfl ?_)
   exact l_nil (fun w' hw => ⟨(by repeat (first | exact .refl _ _ | refine .upd rfl ?_ | refine .msk rfl ?_)), (bool_dec _), hw⟩)
  refine l_mv rfl (l_band (q := ((e5_ = 0) ∧ (to4_ = 1)) ∧ (f16_ = true)) 3 9 [41, 40, 39] (((y15_.seq : Nat) : Int) = ((1 : Nat) : Int)) rfl rfl rfl rfl rfl rfl trivial rfl (fun h6_9 => ?_) (fun g6_13 => ?_))
  ·
   refine l_on rfl (gT h6_9) (l_fld (o := 2) rfl (by kernel_rfl) rfl (l_on rfl (gT h6_9) (l_ldo 4 (v := .int .u64 (y15_.seq : Nat)) rfl rfl rfl (by kernel_rfl) rfl (l_on rfl (gT h6_9) (l_eq rfl rfl rfl ?_)))))
   exact l_nil (fun w' hw => ⟨(by repeat (first | exact .refl _ _ | refine .upd rfl ?_ | refine .msk rfl ?_)), rfl, hw⟩)
  refine l_as rfl (l_end ?_)
  exact c_ret (ret1 (v := .bool (decide ((((e5_ = 0) ∧ (to4_ = 1)) ∧ (f16_ = true)) ∧ (((y15_.seq : Nat) : Int) = ((1 : Nat) : Int))))) rfl rfl (fun w' hw => ⟨(by have h := CallK.yes hf4_1 rfl (by unfold callBad; decide); congr 1; exact decide_eq_true ⟨⟨⟨h.e, h.to⟩, hf5_1_1.trans h.waits⟩, by rw [hf5_1, if_pos h.waits, h.a, begA_seq]⟩), hw.drop⟩))
-- no function scupper/scupperlaw18.data
-- no function scupper/scupperlaw18.act
end Go.Proofs.Ytgcmbdgimepnmaa
