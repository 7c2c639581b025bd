/-
  ConfChanges is true of every input that is not greater than the statement's bound: the program returns, it returns true, and what came in reads as it did. Condition: the bulk that the statement names.
-/
import Derived.Test.YtniiobmkcbeknaaConfX
import Derived.Test.YtniiobmkcbeknaaConfRd
set_option linter.unusedVariables false
set_option maxRecDepth 10000
namespace Go.Proofs.Ytniiobmkcbeknaa
open Go Go.Sc Go.Proofs Go.RowKit Go.ChangeShapes Go.WideShapes

theorem delL_le (l : List Int) (n : Int) : (delL l n).length ≤ l.length := List.length_filter_le _ _
theorem chg_len {k : Int} {c : ConfD} {id e : Int} {vs ls : List Int} (h : chg k c.a id = (⟨vs, ls⟩, e)) : vs.length ≤ c.vs.length + 1 ∧ ls.length ≤ c.ls.length + 1 := by
  have h1 := delL_le c.vs id
  have h2 := delL_le c.ls id
  have h3 := withR_length c.vs id
  have h4 := withR_length c.ls id
  have hz : ∀ {q : ConfA × Int}, q = (⟨vs, ls⟩, e) → (q.1.vs.length ≤ c.vs.length + 1 ∧ q.1.ls.length ≤ c.ls.length + 1) → vs.length ≤ c.vs.length + 1 ∧ ls.length ≤ c.ls.length + 1 := by rintro _ rfl q; exact q
  refine hz h ?_
  unfold chg
  repeat' split
  all_goals simp only [ConfD.a, List.length_nil]; omega
theorem confChanges_s (c : ConfD) (id : Int) (w : World) (hf : c.few) (rd_c : ConfD.rd c w []) : Rets Try.prog 5 #[.agg (ConfD.cells c).toArray, .int .i64 id] w fun u_ w' => u_ = .bool true ∧ Own w [] [] w' := by
  have hv := hf.vs
  have hl := hf.ls
  refine fn_enter (args := [.agg (ConfD.cells c).toArray, .int .i64 id]) Try.func5 rfl Try.ntmps5 rfl (Own.start w) ?_
  refine c_reg ?_
  refine l_box rfl rfl (fun b2 => ?_)
  refine l_as rfl ?_
  refine l_end ?_
  refine c_seq ?_
  refine c_reg ?_
  refine l_call (by kernel_rfl) rfl rfl (fun w' hw => ?_)
  refine (answers_s w').mono ?_
  rintro _ w1 ⟨rfl, hO⟩
  refine (?_ : CL _ _ _ _ _ _ (Own w [] [Res.row b2 24 (ConfD.cells c)])) w1 (hw.frame0 hO)
  refine l_not (b := true) rfl rfl ?_
  refine l_end ?_
  refine c_no rfl ?_
  refine c_skipC ?_
  refine c_seq ?_
  refine c_reg ?_
  refine l_as rfl ?_
  refine l_end ?_
  refine c_block ?_
  refine c_loop1 (fun (k : Nat) => [(1, .int .i64 id), (2, .pointer (some ⟨b2, 0, none⟩)), (5, .int .i64 (k : Nat))]) (fun (k : Nat) => 1 ≤ k ∧ k ≤ 4) (fun (k : Nat) => [Res.row b2 24 (ConfD.cells c)]) (fun (k : Nat) => 4 - k) (fun w' hw => ⟨1, ⟨rfl, rfl, rfl, trivial⟩, ⟨by omega, by omega⟩, hw⟩) (fun k g hΦ => ?_)
  refine c_seq ?_
  refine c_reg ?_
  refine l_mv rfl ?_
  refine l_leq rfl rfl rfl ?_
  refine l_end ?_
  refine c_dec rfl (fun c2 => ?_) (fun c2 => ?_)
  ·
    refine c_skipC ?_
    refine c_seq ?_
    refine c_block ?_
    refine c_reg ?_
    refine l_mv rfl ?_
    refine l_ldr (cs := (ConfD.cells c)) 0 rfl rfl (by kernel_rfl) rfl ?_
    refine l_mv rfl ?_
    refine l_call (by kernel_rfl) rfl rfl (fun w' hw => ?_)
    refine (change_s ((k : Nat) : Int) c id w' (by first | assumption | omega | (simp <;> omega) | (constructor <;> (first | omega | (simp only [LenOk]; omega) | (simp <;> omega)))) (by omega) (rd_c.at0 hw)).mono ?_
    rintro _ w1 ⟨a1_, vs2_, b3_, ls4_, e5_, rfl, hf6_3, hO⟩
    refine (?_ : CL _ _ _ _ _ _ (Own w [] [Res.row b2 24 (ConfD.cells c), Res.vec 3 1 a1_ vs2_.length (vs2_.flatMap I1), Res.vec 3 1 b3_ ls4_.length (ls4_.flatMap I1)])) w1 (hw.frame0 hO)
    refine l_mv rfl ?_
    refine l_ext (vs := [.agg #[a1_, b3_], .int .i64 e5_]) rfl rfl rfl ?_
    refine l_ext (vs := [.agg #[a1_, b3_], .int .i64 e5_]) rfl rfl rfl ?_
    refine l_new (v := .agg #[.slice none 0 0, .slice none 0 0]) (by kernel_rfl) rfl (fun b6 => ?_)
    refine l_haveO (fun w' hw => Own.cell1Vec (i := 1) rfl hw) (fun hc1_ => ?_)
    refine l_haveO (fun w' hw => Own.cell1Vec (i := 2) rfl hw) (fun hc2_ => ?_)
    refine l_stN (cs := [.slice none 0 0, .slice none 0 0]) (vs := [a1_, b3_]) 3 rfl rfl rfl (by kernel_rfl) (allc_cons hc1_ (allc_cons hc2_ allc_nil)) (Nat.le_of_ble_eq_true rfl) ?_
    refine l_as rfl ?_
    refine l_end ?_
    refine c_reg ?_
    refine l_mv rfl ?_
    refine l_ldr (cs := (ConfD.cells c)) 0 rfl rfl (by kernel_rfl) rfl ?_
    refine l_mv rfl ?_
    refine l_call (by kernel_rfl) rfl rfl (fun w' hw => ?_)
    refine (rchange_s ((k : Nat) : Int) c id w' (by first | assumption | omega | (simp <;> omega) | (constructor <;> (first | omega | (simp only [LenOk]; omega) | (simp <;> omega)))) (by omega) (rd_c.at0 hw)).mono ?_
    rintro _ w1 ⟨fr6_, a7_, vs8_, b9_, ls10_, e11_, rfl, hf7_3, hf7_3_1, hO⟩
    have hq := hf6_3.symm.trans hf7_3
    simp only [Prod.mk.injEq, ConfA.mk.injEq] at hq
    have hl1 := chg_len hf6_3
    have hl2 := chg_len hf7_3
    refine (?_ : CL _ _ _ _ _ _ (Own w [] [Res.row b2 24 (ConfD.cells c), Res.vec 3 1 a1_ vs2_.length (vs2_.flatMap I1), Res.vec 3 1 b3_ ls4_.length (ls4_.flatMap I1), Res.row b6 24 [a1_, b3_], (Res.opt fr6_ (Res.vec 3 1 a7_ vs8_.length (vs8_.flatMap I1))), Res.vec 3 1 b9_ ls10_.length (ls10_.flatMap I1)])) w1 (hw.frame0 hO)
    refine l_mv rfl ?_
    refine l_ext (vs := [.agg #[a7_, b9_], .int .i64 e11_]) rfl rfl rfl ?_
    refine l_ext (vs := [.agg #[a7_, b9_], .int .i64 e11_]) rfl rfl rfl ?_
    refine l_new (v := .agg #[.slice none 0 0, .slice none 0 0]) (by kernel_rfl) rfl (fun b8 => ?_)
    refine l_haveO (fun w' hw => Sl.cell1 (Rd.φ (opt_rd 4 rfl hw (hf7_3_1.elim .inl (fun h => .inr (by rw [h.1, h.2]; exact hw.rd0 rd_c.vv)))))) (fun hc3_ => ?_)
    refine l_haveO (fun w' hw => Own.cell1Vec (i := 5) rfl hw) (fun hc4_ => ?_)
    refine l_stN (cs := [.slice none 0 0, .slice none 0 0]) (vs := [a7_, b9_]) 6 rfl rfl rfl (by kernel_rfl) (allc_cons hc3_ (allc_cons hc4_ allc_nil)) (Nat.le_of_ble_eq_true rfl) ?_
    refine l_as rfl ?_
    refine l_end ?_
    refine c_reg ?_
    refine l_mv rfl ?_
    refine l_mv rfl ?_
    refine l_ne rfl rfl rfl ?_
    refine l_mv rfl ?_
    refine l_bor (q := e5_ ≠ e11_) 4 3 [37, 36, 35, 34] (¬ (({ vv := a1_, vs := vs2_, lv := b3_, ls := ls4_ } : ConfD).vs = ({ vv := a7_, vs := vs8_, lv := b9_, ls := ls10_ } : ConfD).vs ∧ ({ vv := a1_, vs := vs2_, lv := b3_, ls := ls4_ } : ConfD).ls = ({ vv := a7_, vs := vs8_, lv := b9_, ls := ls10_ } : ConfD).ls)) rfl rfl rfl rfl rfl rfl trivial rfl (fun h8_3 => ?_) (fun g8_8 => ?_)
    ·
      refine l_on rfl (gF h8_3) ?_
      refine l_ldr (cs := [a1_, b3_]) 3 rfl rfl (by kernel_rfl) rfl ?_
      refine l_on rfl (gF h8_3) ?_
      refine l_ldr (cs := [a7_, b9_]) 6 rfl rfl (by kernel_rfl) rfl ?_
      refine l_on rfl (gF h8_3) ?_
      refine l_call (by kernel_rfl) rfl rfl (fun w' hw => ?_)
      refine (sameConf_spec ({ vv := a1_, vs := vs2_, lv := b3_, ls := ls4_ } : ConfD) ({ vv := a7_, vs := vs8_, lv := b9_, ls := ls10_ } : ConfD) w' (by first | assumption | omega | (simp <;> omega) | (constructor <;> (first | omega | (simp only [LenOk]; omega) | (simp <;> omega)))) (by first | assumption | omega | (simp <;> omega) | (constructor <;> (first | omega | (simp only [LenOk]; omega) | (simp <;> omega)))) (by first | assumption | omega | (simp <;> omega) | (constructor <;> (first | omega | (simp only [LenOk]; omega) | (simp <;> omega)))) (by first | assumption | omega | (simp <;> omega) | (constructor <;> (first | omega | (simp only [LenOk]; omega) | (simp <;> omega)))) ⟨(hw.rdVec0 1 rfl), (hw.rdVec0 2 rfl)⟩ ⟨(opt_rd 4 rfl hw (hf7_3_1.elim .inl (fun h => .inr (by rw [h.1, h.2]; exact hw.rd0 rd_c.vv)))), (hw.rdVec0 5 rfl)⟩).mono ?_
      rintro _ w1 ⟨rfl, hO⟩
      refine (?_ : CL _ _ _ _ _ _ (Own w [] [Res.row b2 24 (ConfD.cells c), Res.vec 3 1 a1_ vs2_.length (vs2_.flatMap I1), Res.vec 3 1 b3_ ls4_.length (ls4_.flatMap I1), Res.row b6 24 [a1_, b3_], (Res.opt fr6_ (Res.vec 3 1 a7_ vs8_.length (vs8_.flatMap I1))), Res.vec 3 1 b9_ ls10_.length (ls10_.flatMap I1), Res.row b8 24 [a7_, b9_]])) w1 (hw.frame0 hO)
      refine l_on rfl (gF h8_3) ?_
      refine l_notp (q := ({ vv := a1_, vs := vs2_, lv := b3_, ls := ls4_ } : ConfD).vs = ({ vv := a7_, vs := vs8_, lv := b9_, ls := ls10_ } : ConfD).vs ∧ ({ vv := a1_, vs := vs2_, lv := b3_, ls := ls4_ } : ConfD).ls = ({ vv := a7_, vs := vs8_, lv := b9_, ls := ls10_ } : ConfD).ls) rfl rfl ?_
      exact l_nil (fun w' hw => ⟨(by repeat (first | exact Out.refl _ _ | refine Out.upd rfl ?_ | refine Out.msk rfl ?_)), rfl, hw⟩)
    refine l_end ?_
    refine c_dec rfl (fun c3 => ?_) (fun c3 => ?_)
    ·
      exact absurd c3 (fun h => h.elim (fun q => q hq.2) (fun q => q hq.1))
    ·
      refine c_skipC ?_
      refine c_last ?_
      refine l_mv rfl ?_
      refine l_add rfl rfl (wi64 (by omega)) rfl ?_
      refine l_as rfl ?_
      exact l_nil (fun w' hw => ⟨k + 1, ⟨rfl, rfl, rfl, trivial⟩, (by omega), hw.sel [0] rfl (by decide), (by omega)⟩)
  ·
    refine c_exitC rfl ?_
    refine c_reg ?_
    refine l_as rfl ?_
    refine l_end ?_
    exact c_ret (ret1 (v := .bool true) rfl rfl (fun w' hw => ⟨rfl, hw.drop⟩))
namespace confChanges
theorem own : ownKnob Try.prog.godebug = none := by kernel_rfl
theorem laidOut : laidOutB Try.prog = true := by kernel_rfl

theorem contract (H : Type) (enc : TypeId × Value → H) (W : World) (base : Nat) (args : Array Value) (ds gs : List (DataW H)) (before : List MemPlace)
    (hval : ∀ (j : Nat) t v, Try.f5.params[j]? = some t → args[j]? = some v → Value.okWide Try.prog W .any base t v)
    (hW : DataW.Whole enc Try.prog Try.f5.params.toList Rows.confChangesSpec.vars false W args.toList ds gs before) (hk : Rows.uptoSmall H (ds ++ gs) = true) :
    Calls Try.prog 5 args W fun e W' => ∃ v, e = .returned v ∧ Rows.confChangesSpec.post enc Try.prog Try.f5 false true false false W args v W' := by
  have hW' := hW
  obtain ⟨p, q, hA0, hV, rfl, hfz, hnd⟩ := hW
  have hA : DataW.TrodAll enc Try.prog W 0 (fun _ => true) true Try.f5.params.toList args.toList ds p := hA0
  rw [Try.params5] at hA hval
  obtain ⟨v0, vs0, d0, ds0, p0, q0, hargs, rfl, rfl, h0, r0⟩ := trodAll_cons hA
  obtain ⟨v1, vs1, d1, ds1, p1, q1, rfl, rfl, rfl, h1, r1⟩ := trodAll_cons r0
  obtain ⟨rfl, rfl, rfl⟩ := trodAll_nil r1
  obtain rfl : args = #[v0, v1] := by cases args; simp_all
  obtain ⟨rfl, rfl⟩ := trodVars_none hV
  have hB : Rows.uptoBulk d0 + Rows.uptoBulk d1 ≤ 1048576 := by
    have := of_decide_eq_true hk
    simp only [List.append_nil, Rows.uptoBulkAll] at this
    omega
  obtain ⟨u0, hf0⟩ := h0
  obtain ⟨a0, e0, w0, z0⟩ := (rdConf W) H enc _ _ _ hf0
  obtain ⟨u1, hf1⟩ := h1
  obtain ⟨a1, e1, w1, z1⟩ := (RdA.i64 (W := W) Try.underlying3) H enc _ _ _ hf1
  try dsimp only at z0
  try dsimp only at z1
  obtain rfl := arg_struct Try.underlying24 (hval 0 _ v0 rfl rfl) e0
  obtain rfl := arg_int Try.underlying3 (hval 1 _ v1 rfl rfl) e1
  refine Calls.mono (confChanges_s a0 a1 W ⟨by omega, by omega⟩ w0) fun e W' he => ?_
  obtain ⟨v, rfl, rfl, hO⟩ := he
  exact ⟨_, rfl, law_post laidOut rfl (fun ds h => by
    rw [Try.params5] at h
    match ds, h with
    | [_, _], _ => rfl) rfl Try.underlying4 (by kernel_rfl) hW' (Own.below hO)⟩

set_option maxRecDepth 100000 in
theorem lifted (os : Os) (started : os.Started) (H : Type) (enc : TypeId × Value → H) (F : Stop.Interp) :
    ReturnsInHanded {} Try.checked os 5 .any ((Rows.OpenSpec.upto Rows.confChangesSpec).pre6 enc Try.prog Try.f5 Rows.confChangesUptoRow.domain false) (((Rows.OpenSpec.upto Rows.confChangesSpec).at F).post enc Try.prog Try.f5 false true false false) := by
  refine returnsInHanded_of_cond (C := Try.checked) (s := Rows.OpenSpec.upto Rows.confChangesSpec) (k := Rows.uptoSmall) rfl own started (by kernel_rfl) Try.func5
    (OpenSpec.witness (enc := enc) (C := Try.checked) (s := Rows.OpenSpec.upto Rows.confChangesSpec) (k := Rows.uptoSmall) rfl false ⟨#[], #[.agg #[.slice none 0 0, .slice none 0 0], .int .i64 0], []⟩ 8 (by kernel_rfl) (by kernel_rfl) (by kernel_rfl)
      (x := ([.agg [.nil, .nil], .lit (.int .i64 0)], [], [])) (by kernel_rfl) rfl (by kernel_rfl)) ?_
  intro W base args ds gs before hval hW _ hk _
  exact contract H enc W base args ds gs before hval hW hk

/-- ConfChanges: proved. -/
theorem proved : Rows.ConfChangesUptoSaid :=
  OpenClaim.holds_of_cond 5 Try.f5 rfl rfl rfl rfl rfl rfl rfl ⟨rfl, rfl, rfl, rfl, rfl⟩ rfl rfl rfl rfl rfl (by kernel_rfl) Try.func5 (by kernel_rfl)
    (of_decide_eq_true (by kernel_rfl)) (by unfold Func.isWrapper; first | (rw [if_pos (by decide +kernel)]; kernel_rfl) | (rw [if_neg (by decide +kernel)]; exact ⟨rfl, rfl⟩))
    (fun os started H enc _ F => lifted os started H enc F)
end confChanges
end Go.Proofs.Ytniiobmkcbeknaa
