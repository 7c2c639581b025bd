/-
  ConfTells is true of every input that is not greater than the statement's bound: the program returns, it returns true, and what came in reads as it did. Condition: the bulk that the statement names.
-/
import Derived.Test.YtniiobmkcbeknaaConfRd
set_option linter.unusedVariables false
set_option maxRecDepth 10000
namespace Go.Proofs.Ytniiobmkcbeknaa
open Go Go.Sc Go.Proofs Go.RowKit Go.ChangeShapes Go.WideShapes

set_option maxHeartbeats 1000000 in
theorem confTells_s (c : ConfD) (id : Int) (v : Value) (ids : List Int) (w : World) (hf : c.few) (hids : LenOk ids.length) (hi : Rd w [] (Res.sl v ids.length (ids.flatMap I1))) (rd_c : ConfD.rd c w []) : Rets Try.prog 3 #[.agg (ConfD.cells c).toArray, .int .i64 id, v] w fun u_ w' => u_ = .bool true ∧ Own w [] [] w' := by
  have hc := hf.wf
  have hv := hc.vs
  have hl := hc.ls
  refine fn_enter (args := [.agg (ConfD.cells c).toArray, .int .i64 id, v]) Try.func3 rfl Try.ntmps3 rfl (Own.start w) ?_
  refine c_reg ?_
  refine l_box rfl rfl (fun b3 => ?_)
  refine l_as rfl ?_
  refine l_end ?_
  refine c_reg ?_
  refine l_ldr (cs := (ConfD.cells c)) 0 rfl rfl (by kernel_rfl) rfl ?_
  refine l_call (by kernel_rfl) rfl rfl (fun w' hw => ?_)
  refine (ownConf_s c w' (by first | assumption | omega | (simp; omega)) (rd_c.at0 hw)).mono ?_
  rintro _ w1 ⟨a1_, b2_, rfl, hO⟩
  refine (?_ : CL _ _ _ _ _ _ (Own w [] [Res.row b3 24 (ConfD.cells c), Res.vec 3 1 a1_ c.vs.length (c.vs.flatMap I1), Res.vec 3 1 b2_ c.ls.length (c.ls.flatMap I1)])) w1 (hw.frame0 hO)
  refine l_call (by kernel_rfl) rfl rfl (fun w' hw => ?_)
  refine (check_s ({ c with vv := a1_, lv := b2_ } : ConfD) w' ⟨hf.vs, hf.ls⟩ ⟨(hw.rdVec0 1 rfl), (hw.rdVec0 2 rfl)⟩).mono ?_
  rintro _ w1 ⟨rfl, hO⟩
  refine (?_ : CL _ _ _ _ _ _ (Own w [] [Res.row b3 24 (ConfD.cells c), Res.vec 3 1 a1_ c.vs.length (c.vs.flatMap I1), Res.vec 3 1 b2_ c.ls.length (c.ls.flatMap I1)])) w1 (hw.frame0 hO)
  refine l_as rfl ?_
  refine l_end ?_
  refine c_reg ?_
  refine l_ldr (cs := (ConfD.cells c)) 0 rfl rfl (by kernel_rfl) rfl ?_
  refine l_call (by kernel_rfl) rfl rfl (fun w' hw => ?_)
  refine (confOK_spec c w' (by first | assumption | omega | (simp; omega)) (rd_c.at0 hw)).mono ?_
  rintro _ w1 ⟨rfl, hO⟩
  refine (?_ : CL _ _ _ _ _ _ (Own w [] [Res.row b3 24 (ConfD.cells c), Res.vec 3 1 a1_ c.vs.length (c.vs.flatMap I1), Res.vec 3 1 b2_ c.ls.length (c.ls.flatMap I1)])) w1 (hw.frame0 hO)
  refine l_as rfl ?_
  refine l_end ?_
  refine c_seq ?_
  refine c_heldo [0, 1, 2] rfl (by decide) (by kernel_rfl) (fun w' hw hS => ?_)
  refine h_one 0 (by kernel_rfl) rfl hw ?_
  refine l_call (by kernel_rfl) rfl rfl (fun w' hw => ?_)
  refine (answers_s w').mono ?_
  rintro _ w1 ⟨rfl, hO⟩
  refine (?_ : CL _ _ _ _ _ _ (Own w [] [Res.row b3 24 (ConfD.cells c), Res.vec 3 1 a1_ c.vs.length (c.vs.flatMap I1), Res.vec 3 1 b2_ c.ls.length (c.ls.flatMap I1)])) w1 (hw.frame0 hO)
  refine l_nil (fun w' hw => ?_)
  have hS := hw.sel [0, 1, 2] rfl (by decide)
  refine ⟨hS, ?_⟩
  refine h_take 1 rfl (by kernel_rfl) (by kernel_rfl) (by kernel_rfl) (v_mv) rfl hS ?_
  refine h_takeg 2 rfl rfl rfl (by kernel_rfl) (by kernel_rfl) (by kernel_rfl) (v_mv) rfl hS ?_
  refine h_takeg 3 rfl rfl rfl (by kernel_rfl) (by kernel_rfl) (by kernel_rfl) (v_eq rfl rfl) rfl hS ?_
  refine h_takeg 4 rfl rfl rfl (by kernel_rfl) (by kernel_rfl) (by kernel_rfl) (v_mv) rfl hS ?_
  refine h_takeg 5 rfl rfl rfl (by kernel_rfl) (by kernel_rfl) (by kernel_rfl) (v_beqp (by kernel_rfl) rfl rfl) rfl hS ?_
  refine h_take 6 rfl (by kernel_rfl) (by kernel_rfl) (by kernel_rfl) (v_pickT rfl) rfl hS ?_
  refine h_take 7 rfl (by kernel_rfl) (by kernel_rfl) (by kernel_rfl) (v_mv) rfl hS ?_
  by_cases g3_7 : ((errOf ({ c with vv := a1_, lv := b2_ } : ConfD).ok) = 0) ↔ c.ok
  ·
    refine h_takeg 8 rfl rfl (gT g3_7) (by kernel_rfl) (by kernel_rfl) (by kernel_rfl) (v_mv) rfl hS ?_
    refine h_takeg 9 rfl rfl (gT g3_7) (by kernel_rfl) (by kernel_rfl) (by kernel_rfl) (v_mv) rfl hS ?_
    by_cases g3_9 : c.ok
    ·
      refine h_offg 10 rfl rfl (gT g3_9) rfl (by kernel_rfl) (by kernel_rfl) (by kernel_rfl) rfl hS ?_
      refine h_offg 11 rfl rfl (gT g3_9) rfl (by kernel_rfl) (by kernel_rfl) (by kernel_rfl) rfl hS ?_
      refine h_takeg 12 rfl rfl (gT g3_7) (by kernel_rfl) (by kernel_rfl) (by kernel_rfl) (v_pickT (gT g3_9)) rfl hS ?_
      refine h_take 13 rfl (by kernel_rfl) (by kernel_rfl) (by kernel_rfl) (v_pickT (gT g3_7)) rfl hS ?_
      refine h_take 14 rfl (by kernel_rfl) (by kernel_rfl) (by kernel_rfl) (v_mv) rfl hS ?_
      refine h_takeg 15 rfl rfl rfl (by kernel_rfl) (by kernel_rfl) (by kernel_rfl) (v_ldr (cs := (ConfD.cells c)) 0 rfl rfl (by kernel_rfl)) rfl hS ?_
      refine h_takeg 16 rfl rfl rfl (by kernel_rfl) (by kernel_rfl) (by kernel_rfl) (v_mv) rfl hS ?_
      refine h_takeg 18 rfl rfl rfl (by kernel_rfl) (by kernel_rfl) (by kernel_rfl) (v_ldr (cs := (ConfD.cells c)) 0 rfl rfl (by kernel_rfl)) rfl hS ?_
      refine h_takeg 19 rfl rfl rfl (by kernel_rfl) (by kernel_rfl) (by kernel_rfl) (v_mv) rfl hS ?_
      refine h_one 17 (by kernel_rfl) rfl hw ?_
      refine l_on rfl rfl ?_
      refine l_call (by kernel_rfl) rfl rfl (fun w' hw => ?_)
      refine (member_s c id w' (by first | assumption | omega | (simp; omega)) (rd_c.at0 hw)).mono ?_
      rintro _ w1 ⟨rfl, hO⟩
      refine (?_ : CL _ _ _ _ _ _ (Own w [] [Res.row b3 24 (ConfD.cells c), Res.vec 3 1 a1_ c.vs.length (c.vs.flatMap I1), Res.vec 3 1 b2_ c.ls.length (c.ls.flatMap I1)])) w1 (hw.frame0 hO)
      refine l_nil (fun w' hw => ?_)
      have hS := hw.sel [0, 1, 2] rfl (by decide)
      refine ⟨hS, ?_⟩
      refine h_one 20 (by kernel_rfl) rfl hw ?_
      refine l_on rfl rfl ?_
      refine l_call (by kernel_rfl) rfl rfl (fun w' hw => ?_)
      refine (rmember_s c id w' (by first | assumption | omega | (simp; omega)) (rd_c.at0 hw)).mono ?_
      rintro _ w1 ⟨rfl, hO⟩
      refine (?_ : CL _ _ _ _ _ _ (Own w [] [Res.row b3 24 (ConfD.cells c), Res.vec 3 1 a1_ c.vs.length (c.vs.flatMap I1), Res.vec 3 1 b2_ c.ls.length (c.ls.flatMap I1)])) w1 (hw.frame0 hO)
      refine l_nil (fun w' hw => ?_)
      have hS := hw.sel [0, 1, 2] rfl (by decide)
      refine ⟨hS, ?_⟩
      refine h_takeg 21 rfl rfl rfl (by kernel_rfl) (by kernel_rfl) (by kernel_rfl) (v_beqp (by kernel_rfl) rfl rfl) rfl hS ?_
      refine h_take 22 rfl (by kernel_rfl) (by kernel_rfl) (by kernel_rfl) (v_pickT rfl) rfl hS ?_
      refine h_take 23 rfl (by kernel_rfl) (by kernel_rfl) (by kernel_rfl) (v_mv) rfl hS ?_
      by_cases g3_23 : (c.ok ∧ (id ∈ c.vs ∨ id ∈ c.ls)) ↔ (c.ok ∧ (id ∈ c.vs ∨ id ∈ c.ls))
      ·
        refine h_takeg 24 rfl rfl (gT g3_23) (by kernel_rfl) (by kernel_rfl) (by kernel_rfl) (v_ldr (cs := (ConfD.cells c)) 0 rfl rfl (by kernel_rfl)) rfl hS ?_
        refine h_takeg 25 rfl rfl (gT g3_23) (by kernel_rfl) (by kernel_rfl) (by kernel_rfl) (v_mv) rfl hS ?_
        refine h_takeg 27 rfl rfl (gT g3_23) (by kernel_rfl) (by kernel_rfl) (by kernel_rfl) (v_ldr (cs := (ConfD.cells c)) 0 rfl rfl (by kernel_rfl)) rfl hS ?_
        refine h_takeg 28 rfl rfl (gT g3_23) (by kernel_rfl) (by kernel_rfl) (by kernel_rfl) (v_mv) rfl hS ?_
        refine h_one 26 (by kernel_rfl) rfl hw ?_
        refine l_on rfl (gT g3_23) ?_
        refine l_call (by kernel_rfl) rfl rfl (fun w' hw => ?_)
        refine (voter_s c id w' (by first | assumption | omega | (simp; omega)) (rd_c.at0 hw)).mono ?_
        rintro _ w1 ⟨rfl, hO⟩
        refine (?_ : CL _ _ _ _ _ _ (Own w [] [Res.row b3 24 (ConfD.cells c), Res.vec 3 1 a1_ c.vs.length (c.vs.flatMap I1), Res.vec 3 1 b2_ c.ls.length (c.ls.flatMap I1)])) w1 (hw.frame0 hO)
        refine l_nil (fun w' hw => ?_)
        have hS := hw.sel [0, 1, 2] rfl (by decide)
        refine ⟨hS, ?_⟩
        refine h_one 29 (by kernel_rfl) rfl hw ?_
        refine l_on rfl (gT g3_23) ?_
        refine l_call (by kernel_rfl) rfl rfl (fun w' hw => ?_)
        refine (rvoter_s c id w' (by first | assumption | omega | (simp; omega)) (rd_c.at0 hw)).mono ?_
        rintro _ w1 ⟨rfl, hO⟩
        refine (?_ : CL _ _ _ _ _ _ (Own w [] [Res.row b3 24 (ConfD.cells c), Res.vec 3 1 a1_ c.vs.length (c.vs.flatMap I1), Res.vec 3 1 b2_ c.ls.length (c.ls.flatMap I1)])) w1 (hw.frame0 hO)
        refine l_nil (fun w' hw => ?_)
        have hS := hw.sel [0, 1, 2] rfl (by decide)
        refine ⟨hS, ?_⟩
        refine h_takeg 30 rfl rfl (gT g3_23) (by kernel_rfl) (by kernel_rfl) (by kernel_rfl) (v_beqp (by kernel_rfl) rfl rfl) rfl hS ?_
        refine h_take 31 rfl (by kernel_rfl) (by kernel_rfl) (by kernel_rfl) (v_pickT (gT g3_23)) rfl hS ?_
        refine h_take 32 rfl (by kernel_rfl) (by kernel_rfl) (by kernel_rfl) (v_mv) rfl hS ?_
        by_cases g3_32 : (c.ok ∧ id ∈ c.vs) ↔ (c.ok ∧ id ∈ c.vs)
        ·
          refine h_takeg 33 rfl rfl (gT g3_32) (by kernel_rfl) (by kernel_rfl) (by kernel_rfl) (v_ldr (cs := (ConfD.cells c)) 0 rfl rfl (by kernel_rfl)) rfl hS ?_
          refine h_takeg 35 rfl rfl (gT g3_32) (by kernel_rfl) (by kernel_rfl) (by kernel_rfl) (v_mv) rfl hS ?_
          refine h_takeg 38 rfl rfl (gT g3_32) (by kernel_rfl) (by kernel_rfl) (by kernel_rfl) (v_ldr (cs := (ConfD.cells c)) 0 rfl rfl (by kernel_rfl)) rfl hS ?_
          refine h_takeg 39 rfl rfl (gT g3_32) (by kernel_rfl) (by kernel_rfl) (by kernel_rfl) (v_mv) rfl hS ?_
          refine h_one 34 (by kernel_rfl) rfl hw ?_
          refine l_on rfl (gT g3_32) ?_
          refine l_bsl (e := 3) (sz := 1) (vs := []) (by kernel_rfl) rfl rfl (by simp [Value.cells]) (by decide) rfl (fun b48 => ?_)
          refine l_nil (fun w' hw => ?_)
          have hS := hw.sel [0, 1, 2] rfl (by decide)
          refine ⟨hS, ?_⟩
          refine h_one 36 (by kernel_rfl) rfl hw ?_
          refine l_on rfl (gT g3_32) ?_
          refine l_appF (g := I1) (sz := 1) (by' := 8) (fun _ => rfl) (by simp [cell1, I1]) (l := []) (l' := ids) 3 (by kernel_rfl) rfl rfl rfl (fun w' hw' => Own.rd hi hw') (by first | omega | (simp; omega)) (by decide) rfl (fun v50 => ?_)
          refine l_nil (fun w' hw => ?_)
          have hS := hw.sel [0, 1, 2] rfl (by decide)
          refine ⟨hS, ?_⟩
          refine h_one 37 (by kernel_rfl) rfl hw ?_
          refine l_on rfl (gT g3_32) ?_
          refine l_call (by kernel_rfl) rfl rfl (fun w' hw => ?_)
          refine (quorum_s c v50 ids w' (by first | assumption | omega | (simp; omega)) (by first | assumption | omega | (simp; omega)) (hw.rdVec0 3 rfl) (rd_c.at0 hw)).mono ?_
          rintro _ w1 ⟨rfl, hO⟩
          refine (?_ : CL _ _ _ _ _ _ (Own w [] [Res.row b3 24 (ConfD.cells c), Res.vec 3 1 a1_ c.vs.length (c.vs.flatMap I1), Res.vec 3 1 b2_ c.ls.length (c.ls.flatMap I1), Res.vec 3 1 v50 ids.length (ids.flatMap I1)])) w1 (hw.frame0 hO)
          refine l_nil (fun w' hw => ?_)
          have hS := hw.sel [0, 1, 2] rfl (by decide)
          refine ⟨hS, ?_⟩
          refine h_one 40 (by kernel_rfl) rfl hw ?_
          refine l_on rfl (gT g3_32) ?_
          refine l_call (by kernel_rfl) rfl rfl (fun w' hw => ?_)
          refine (rquorum_s c v ids w' (by first | assumption | omega | (simp; omega)) (by first | assumption | omega | (simp; omega)) (hw.rd0 hi) (rd_c.at0 hw)).mono ?_
          rintro _ w1 ⟨rfl, hO⟩
          refine (?_ : CL _ _ _ _ _ _ (Own w [] [Res.row b3 24 (ConfD.cells c), Res.vec 3 1 a1_ c.vs.length (c.vs.flatMap I1), Res.vec 3 1 b2_ c.ls.length (c.ls.flatMap I1), Res.vec 3 1 v50 ids.length (ids.flatMap I1)])) w1 (hw.frame0 hO)
          refine l_nil (fun w' hw => ?_)
          have hS := hw.sel [0, 1, 2] rfl (by decide)
          refine ⟨hS, ?_⟩
          refine h_takeg 41 rfl rfl (gT g3_32) (by kernel_rfl) (by kernel_rfl) (by kernel_rfl) (v_beqp (by kernel_rfl) rfl rfl) rfl hS ?_
          refine h_take 42 rfl (by kernel_rfl) (by kernel_rfl) (by kernel_rfl) (v_pickT (gT g3_32)) rfl hS ?_
          refine h_take 43 rfl (by kernel_rfl) (by kernel_rfl) (by kernel_rfl) (v_as) rfl hS ?_
          refine h_done (by kernel_rfl) ?_
          refine (?_ : C _ _ _ _ _ _ _ (Own w [] [Res.row b3 24 (ConfD.cells c), Res.vec 3 1 a1_ c.vs.length (c.vs.flatMap I1), Res.vec 3 1 b2_ c.ls.length (c.ls.flatMap I1), Res.vec 3 1 v50 ids.length (ids.flatMap I1)])) _ hw
          exact c_ret (ret1 (v := .bool (decide ((c.quorum ids) ↔ (c.quorum ids)))) rfl rfl (fun w' hw => ⟨(by congr 1; exact decide_eq_true Iff.rfl), hw.drop⟩))
        ·
          exact absurd Iff.rfl g3_32
      ·
        exact absurd Iff.rfl g3_23
    ·
      refine h_takeg 10 rfl rfl (gF g3_9) (by kernel_rfl) (by kernel_rfl) (by kernel_rfl) (v_mv) rfl hS ?_
      refine h_takeg 11 rfl rfl (gF g3_9) (by kernel_rfl) (by kernel_rfl) (by kernel_rfl) (v_eq rfl rfl) rfl hS ?_
      refine h_takeg 12 rfl rfl (gT g3_7) (by kernel_rfl) (by kernel_rfl) (by kernel_rfl) (v_pickF (gF g3_9)) rfl hS ?_
      refine h_take 13 rfl (by kernel_rfl) (by kernel_rfl) (by kernel_rfl) (v_pickT (gT g3_7)) rfl hS ?_
      refine h_take 14 rfl (by kernel_rfl) (by kernel_rfl) (by kernel_rfl) (v_mv) rfl hS ?_
      by_cases g3_14 : (errOf ({ c with vv := a1_, lv := b2_ } : ConfD).ok) = 2
      ·
        refine h_takeg 15 rfl rfl (gT g3_14) (by kernel_rfl) (by kernel_rfl) (by kernel_rfl) (v_ldr (cs := (ConfD.cells c)) 0 rfl rfl (by kernel_rfl)) rfl hS ?_
        refine h_takeg 16 rfl rfl (gT g3_14) (by kernel_rfl) (by kernel_rfl) (by kernel_rfl) (v_mv) rfl hS ?_
        refine h_takeg 18 rfl rfl (gT g3_14) (by kernel_rfl) (by kernel_rfl) (by kernel_rfl) (v_ldr (cs := (ConfD.cells c)) 0 rfl rfl (by kernel_rfl)) rfl hS ?_
        refine h_takeg 19 rfl rfl (gT g3_14) (by kernel_rfl) (by kernel_rfl) (by kernel_rfl) (v_mv) rfl hS ?_
        refine h_one 17 (by kernel_rfl) rfl hw ?_
        refine l_on rfl (gT g3_14) ?_
        refine l_call (by kernel_rfl) rfl rfl (fun w' hw => ?_)
        refine (member_s c id w' (by first | assumption | omega | (simp; omega)) (rd_c.at0 hw)).mono ?_
        rintro _ w1 ⟨rfl, hO⟩
        refine (?_ : CL _ _ _ _ _ _ (Own w [] [Res.row b3 24 (ConfD.cells c), Res.vec 3 1 a1_ c.vs.length (c.vs.flatMap I1), Res.vec 3 1 b2_ c.ls.length (c.ls.flatMap I1)])) w1 (hw.frame0 hO)
        refine l_nil (fun w' hw => ?_)
        have hS := hw.sel [0, 1, 2] rfl (by decide)
        refine ⟨hS, ?_⟩
        refine h_one 20 (by kernel_rfl) rfl hw ?_
        refine l_on rfl (gT g3_14) ?_
        refine l_call (by kernel_rfl) rfl rfl (fun w' hw => ?_)
        refine (rmember_s c id w' (by first | assumption | omega | (simp; omega)) (rd_c.at0 hw)).mono ?_
        rintro _ w1 ⟨rfl, hO⟩
        refine (?_ : CL _ _ _ _ _ _ (Own w [] [Res.row b3 24 (ConfD.cells c), Res.vec 3 1 a1_ c.vs.length (c.vs.flatMap I1), Res.vec 3 1 b2_ c.ls.length (c.ls.flatMap I1)])) w1 (hw.frame0 hO)
        refine l_nil (fun w' hw => ?_)
        have hS := hw.sel [0, 1, 2] rfl (by decide)
        refine ⟨hS, ?_⟩
        refine h_takeg 21 rfl rfl (gT g3_14) (by kernel_rfl) (by kernel_rfl) (by kernel_rfl) (v_beqp (by kernel_rfl) rfl rfl) rfl hS ?_
        refine h_take 22 rfl (by kernel_rfl) (by kernel_rfl) (by kernel_rfl) (v_pickT (gT g3_14)) rfl hS ?_
        refine h_take 23 rfl (by kernel_rfl) (by kernel_rfl) (by kernel_rfl) (v_mv) rfl hS ?_
        by_cases g3_23 : (c.ok ∧ (id ∈ c.vs ∨ id ∈ c.ls)) ↔ (c.ok ∧ (id ∈ c.vs ∨ id ∈ c.ls))
        ·
          refine h_takeg 24 rfl rfl (gT g3_23) (by kernel_rfl) (by kernel_rfl) (by kernel_rfl) (v_ldr (cs := (ConfD.cells c)) 0 rfl rfl (by kernel_rfl)) rfl hS ?_
          refine h_takeg 25 rfl rfl (gT g3_23) (by kernel_rfl) (by kernel_rfl) (by kernel_rfl) (v_mv) rfl hS ?_
          refine h_takeg 27 rfl rfl (gT g3_23) (by kernel_rfl) (by kernel_rfl) (by kernel_rfl) (v_ldr (cs := (ConfD.cells c)) 0 rfl rfl (by kernel_rfl)) rfl hS ?_
          refine h_takeg 28 rfl rfl (gT g3_23) (by kernel_rfl) (by kernel_rfl) (by kernel_rfl) (v_mv) rfl hS ?_
          refine h_one 26 (by kernel_rfl) rfl hw ?_
          refine l_on rfl (gT g3_23) ?_
          refine l_call (by kernel_rfl) rfl rfl (fun w' hw => ?_)
          refine (voter_s c id w' (by first | assumption | omega | (simp; omega)) (rd_c.at0 hw)).mono ?_
          rintro _ w1 ⟨rfl, hO⟩
          refine (?_ : CL _ _ _ _ _ _ (Own w [] [Res.row b3 24 (ConfD.cells c), Res.vec 3 1 a1_ c.vs.length (c.vs.flatMap I1), Res.vec 3 1 b2_ c.ls.length (c.ls.flatMap I1)])) w1 (hw.frame0 hO)
          refine l_nil (fun w' hw => ?_)
          have hS := hw.sel [0, 1, 2] rfl (by decide)
          refine ⟨hS, ?_⟩
          refine h_one 29 (by kernel_rfl) rfl hw ?_
          refine l_on rfl (gT g3_23) ?_
          refine l_call (by kernel_rfl) rfl rfl (fun w' hw => ?_)
          refine (rvoter_s c id w' (by first | assumption | omega | (simp; omega)) (rd_c.at0 hw)).mono ?_
          rintro _ w1 ⟨rfl, hO⟩
          refine (?_ : CL _ _ _ _ _ _ (Own w [] [Res.row b3 24 (ConfD.cells c), Res.vec 3 1 a1_ c.vs.length (c.vs.flatMap I1), Res.vec 3 1 b2_ c.ls.length (c.ls.flatMap I1)])) w1 (hw.frame0 hO)
          refine l_nil (fun w' hw => ?_)
          have hS := hw.sel [0, 1, 2] rfl (by decide)
          refine ⟨hS, ?_⟩
          refine h_takeg 30 rfl rfl (gT g3_23) (by kernel_rfl) (by kernel_rfl) (by kernel_rfl) (v_beqp (by kernel_rfl) rfl rfl) rfl hS ?_
          refine h_take 31 rfl (by kernel_rfl) (by kernel_rfl) (by kernel_rfl) (v_pickT (gT g3_23)) rfl hS ?_
          refine h_take 32 rfl (by kernel_rfl) (by kernel_rfl) (by kernel_rfl) (v_mv) rfl hS ?_
          by_cases g3_32 : (c.ok ∧ id ∈ c.vs) ↔ (c.ok ∧ id ∈ c.vs)
          ·
            refine h_takeg 33 rfl rfl (gT g3_32) (by kernel_rfl) (by kernel_rfl) (by kernel_rfl) (v_ldr (cs := (ConfD.cells c)) 0 rfl rfl (by kernel_rfl)) rfl hS ?_
            refine h_takeg 35 rfl rfl (gT g3_32) (by kernel_rfl) (by kernel_rfl) (by kernel_rfl) (v_mv) rfl hS ?_
            refine h_takeg 38 rfl rfl (gT g3_32) (by kernel_rfl) (by kernel_rfl) (by kernel_rfl) (v_ldr (cs := (ConfD.cells c)) 0 rfl rfl (by kernel_rfl)) rfl hS ?_
            refine h_takeg 39 rfl rfl (gT g3_32) (by kernel_rfl) (by kernel_rfl) (by kernel_rfl) (v_mv) rfl hS ?_
            refine h_one 34 (by kernel_rfl) rfl hw ?_
            refine l_on rfl (gT g3_32) ?_
            refine l_bsl (e := 3) (sz := 1) (vs := []) (by kernel_rfl) rfl rfl (by simp [Value.cells]) (by decide) rfl (fun b48 => ?_)
            refine l_nil (fun w' hw => ?_)
            have hS := hw.sel [0, 1, 2] rfl (by decide)
            refine ⟨hS, ?_⟩
            refine h_one 36 (by kernel_rfl) rfl hw ?_
            refine l_on rfl (gT g3_32) ?_
            refine l_appF (g := I1) (sz := 1) (by' := 8) (fun _ => rfl) (by simp [cell1, I1]) (l := []) (l' := ids) 3 (by kernel_rfl) rfl rfl rfl (fun w' hw' => Own.rd hi hw') (by first | omega | (simp; omega)) (by decide) rfl (fun v50 => ?_)
            refine l_nil (fun w' hw => ?_)
            have hS := hw.sel [0, 1, 2] rfl (by decide)
            refine ⟨hS, ?_⟩
            refine h_one 37 (by kernel_rfl) rfl hw ?_
            refine l_on rfl (gT g3_32) ?_
            refine l_call (by kernel_rfl) rfl rfl (fun w' hw => ?_)
            refine (quorum_s c v50 ids w' (by first | assumption | omega | (simp; omega)) (by first | assumption | omega | (simp; omega)) (hw.rdVec0 3 rfl) (rd_c.at0 hw)).mono ?_
            rintro _ w1 ⟨rfl, hO⟩
            refine (?_ : CL _ _ _ _ _ _ (Own w [] [Res.row b3 24 (ConfD.cells c), Res.vec 3 1 a1_ c.vs.length (c.vs.flatMap I1), Res.vec 3 1 b2_ c.ls.length (c.ls.flatMap I1), Res.vec 3 1 v50 ids.length (ids.flatMap I1)])) w1 (hw.frame0 hO)
            refine l_nil (fun w' hw => ?_)
            have hS := hw.sel [0, 1, 2] rfl (by decide)
            refine ⟨hS, ?_⟩
            refine h_one 40 (by kernel_rfl) rfl hw ?_
            refine l_on rfl (gT g3_32) ?_
            refine l_call (by kernel_rfl) rfl rfl (fun w' hw => ?_)
            refine (rquorum_s c v ids w' (by first | assumption | omega | (simp; omega)) (by first | assumption | omega | (simp; omega)) (hw.rd0 hi) (rd_c.at0 hw)).mono ?_
            rintro _ w1 ⟨rfl, hO⟩
            refine (?_ : CL _ _ _ _ _ _ (Own w [] [Res.row b3 24 (ConfD.cells c), Res.vec 3 1 a1_ c.vs.length (c.vs.flatMap I1), Res.vec 3 1 b2_ c.ls.length (c.ls.flatMap I1), Res.vec 3 1 v50 ids.length (ids.flatMap I1)])) w1 (hw.frame0 hO)
            refine l_nil (fun w' hw => ?_)
            have hS := hw.sel [0, 1, 2] rfl (by decide)
            refine ⟨hS, ?_⟩
            refine h_takeg 41 rfl rfl (gT g3_32) (by kernel_rfl) (by kernel_rfl) (by kernel_rfl) (v_beqp (by kernel_rfl) rfl rfl) rfl hS ?_
            refine h_take 42 rfl (by kernel_rfl) (by kernel_rfl) (by kernel_rfl) (v_pickT (gT g3_32)) rfl hS ?_
            refine h_take 43 rfl (by kernel_rfl) (by kernel_rfl) (by kernel_rfl) (v_as) rfl hS ?_
            refine h_done (by kernel_rfl) ?_
            refine (?_ : C _ _ _ _ _ _ _ (Own w [] [Res.row b3 24 (ConfD.cells c), Res.vec 3 1 a1_ c.vs.length (c.vs.flatMap I1), Res.vec 3 1 b2_ c.ls.length (c.ls.flatMap I1), Res.vec 3 1 v50 ids.length (ids.flatMap I1)])) _ hw
            exact c_ret (ret1 (v := .bool (decide ((c.quorum ids) ↔ (c.quorum ids)))) rfl rfl (fun w' hw => ⟨(by congr 1; exact decide_eq_true Iff.rfl), hw.drop⟩))
          ·
            exact absurd Iff.rfl g3_32
        ·
          exact absurd Iff.rfl g3_23
      ·
        exact absurd (errOf_F g3_9) g3_14
  ·
    exact absurd errOf_zero g3_7

namespace confTells
theorem own : ownKnob Try.prog.godebug = none := by kernel_rfl
theorem laidOut : laidOutB Try.prog = true := by kernel_rfl

theorem contract (H : Type) (enc : TypeId × Value → H) (W : World) (base : Nat) (args : Array Value) (ds gs : List (DataW H)) (before : List MemPlace)
    (hval : ∀ (j : Nat) t v, Try.f3.params[j]? = some t → args[j]? = some v → Value.okWide Try.prog W .any base t v)
    (hW : DataW.Whole enc Try.prog Try.f3.params.toList Rows.confTellsSpec.vars false W args.toList ds gs before) (hk : Rows.uptoSmall H (ds ++ gs) = true) :
    Calls Try.prog 3 args W fun e W' => ∃ v, e = .returned v ∧ Rows.confTellsSpec.post enc Try.prog Try.f3 false true false false W args v W' := by
  have hW' := hW
  obtain ⟨p, q, hA0, hV, rfl, hfz, hnd⟩ := hW
  have hA : DataW.TrodAll enc Try.prog W 0 (fun _ => true) true Try.f3.params.toList args.toList ds p := hA0
  rw [Try.params3] at hA hval
  obtain ⟨v0, vs0, d0, ds0, p0, q0, hargs, rfl, rfl, h0, r0⟩ := trodAll_cons hA
  obtain ⟨v1, vs1, d1, ds1, p1, q1, rfl, rfl, rfl, h1, r1⟩ := trodAll_cons r0
  obtain ⟨v2, vs2, d2, ds2, p2, q2, rfl, rfl, rfl, h2, r2⟩ := trodAll_cons r1
  obtain ⟨rfl, rfl, rfl⟩ := trodAll_nil r2
  obtain rfl : args = #[v0, v1, v2] := by cases args; simp_all
  obtain ⟨rfl, rfl⟩ := trodVars_none hV
  have hB : Rows.uptoBulk d0 + Rows.uptoBulk d1 + Rows.uptoBulk d2 ≤ 1048576 := by
    have := of_decide_eq_true hk
    simp only [List.append_nil, Rows.uptoBulkAll] at this
    omega
  obtain ⟨u0, hf0⟩ := h0
  obtain ⟨a0, e0, w0, z0⟩ := (rdConf W) H enc _ _ _ hf0
  obtain ⟨u1, hf1⟩ := h1
  obtain ⟨a1, e1, w1, z1⟩ := (RdA.i64 (W := W) Try.underlying3) H enc _ _ _ hf1
  obtain ⟨u2, hf2⟩ := h2
  obtain ⟨a2, e2, w2, z2⟩ := (rdInts W) H enc _ _ _ hf2
  try dsimp only at z0
  try dsimp only at z1
  try dsimp only at z2
  obtain rfl := arg_struct Try.underlying24 (hval 0 _ v0 rfl rfl) e0
  obtain rfl := arg_int Try.underlying3 (hval 1 _ v1 rfl rfl) e1
  obtain rfl := arg_slice Try.underlying22 (hval 2 _ v2 rfl rfl) e2
  refine Calls.mono (confTells_s a0 a1 a2.1 a2.2 W ⟨by omega, by omega⟩ (by show _ ≤ _; omega) w2 w0) fun e W' he => ?_
  obtain ⟨v, rfl, rfl, hO⟩ := he
  exact ⟨_, rfl, law_post laidOut rfl (fun ds h => by
    rw [Try.params3] at h
    match ds, h with
    | [_, _, _], _ => rfl) rfl Try.underlying4 (by kernel_rfl) hW' (Own.below hO)⟩

set_option maxRecDepth 100000 in
theorem lifted (os : Os) (started : os.Started) (H : Type) (enc : TypeId × Value → H) (F : Stop.Interp) :
    ReturnsInHanded {} Try.checked os 3 .any ((Rows.OpenSpec.upto Rows.confTellsSpec).pre6 enc Try.prog Try.f3 Rows.confTellsUptoRow.domain false) (((Rows.OpenSpec.upto Rows.confTellsSpec).at F).post enc Try.prog Try.f3 false true false false) := by
  refine returnsInHanded_of_cond (C := Try.checked) (s := Rows.OpenSpec.upto Rows.confTellsSpec) (k := Rows.uptoSmall) rfl own started (by kernel_rfl) Try.func3
    (OpenSpec.witness (enc := enc) (C := Try.checked) (s := Rows.OpenSpec.upto Rows.confTellsSpec) (k := Rows.uptoSmall) rfl false ⟨#[], #[.agg #[.slice none 0 0, .slice none 0 0], .int .i64 0, .slice none 0 0], []⟩ 8 (by kernel_rfl) (by kernel_rfl) (by kernel_rfl)
      (x := ([.agg [.nil, .nil], .lit (.int .i64 0), .nil], [], [])) (by kernel_rfl) rfl (by kernel_rfl)) ?_
  intro W base args ds gs before hval hW _ hk _
  exact contract H enc W base args ds gs before hval hW hk

/-- ConfTells: proved. -/
theorem proved : Rows.ConfTellsUptoSaid :=
  OpenClaim.holds_of_cond 3 Try.f3 rfl rfl rfl rfl rfl rfl rfl ⟨rfl, rfl, rfl, rfl, rfl⟩ rfl rfl rfl rfl rfl (by kernel_rfl) Try.func3 (by kernel_rfl)
    (of_decide_eq_true (by kernel_rfl)) (by unfold Func.isWrapper; first | (rw [if_pos (by decide +kernel)]; kernel_rfl) | (rw [if_neg (by decide +kernel)]; exact ⟨rfl, rfl⟩))
    (fun os started H enc _ F => lifted os started H enc F)
end confTells
end Go.Proofs.Ytniiobmkcbeknaa
