/-
  A TABLE's BUDGETS AND LEASES, IN ORDER; a table copied and loaded.
-/
import Derived.Test.YtgkeoenbcjfeaaaGreatLeaK
import Derived.Test.YtgkeoenbcjfeaaaGreatFwH
import Derived.Test.YtgkeoenbcjfeaaaGreatFwK
import Derived.Test.YtgkeoenbcjfeaaaGreatQuotaL
set_option linter.unusedVariables false
set_option maxRecDepth 10000
namespace Go.Proofs.YtgkeoenbcjfeaaaGreat
open Go Go.Sc Go.Proofs

theorem comes_step {κ α β : Type} {g : κ × α → β} {kl todo q1 q2 : List (κ × α)} {xs : List β} {p : κ × α} (h : (xs ++ todo.map g).Perm (kl.map g)) (hq : todo = q1 ++ p :: q2) : ((xs ++ [g p]) ++ (q1 ++ q2).map g).Perm (kl.map g) := by
  refine List.Perm.trans ?_ h
  rw [hq, List.append_assoc]
  refine List.Perm.append_left _ ?_
  rw [List.map_append, List.map_append, List.map_cons]
  exact (List.perm_middle (l₁ := q1.map g) (l₂ := q2.map g) (a := g p)).symm
theorem comes_lt {κ α β : Type} {g : κ × α → β} {kl todo q1 q2 : List (κ × α)} {xs : List β} {p : κ × α} (h : (xs ++ todo.map g).Perm (kl.map g)) (hq : todo = q1 ++ p :: q2) : xs.length < kl.length := by
  have := h.length_eq
  rw [hq] at this
  simp at this; omega
theorem qkeysSeq (sb m : Nat) (kb : List (ByteArray × Int)) : SeqC Tryz.prog 49 [.pointer (some ⟨sb, 0, none⟩)] (fun x : ByteArray => Value.string x) (fun xs => xs.Perm (kb.map (·.1))) kb.length [Res.row sb 55 [.map (some m)], Res.mp Value.string ekI m kb] := by
  intro ly J L0 w Y hJ hin
  refine fn_enter (args := [.func (.yield ly) #[] #[], .pointer (some ⟨sb, 0, none⟩)]) Tryz.func49 rfl Tryz.ntmps49 rfl (show Own w (fps ([Res.row sb 55 [.map (some m)], Res.mp Value.string ekI m kb] ++ L0)) (Res.row sb 55 [.map (some m)] :: Res.mp Value.string ekI m kb :: L0) w from hin) ?_
  refine c_reg ?_
  refine l_ldo 0 (v := .map (some m)) rfl rfl rfl (by kernel_rfl) rfl ?_
  refine l_rangeA 1 mapB rfl rfl rfl (fun r5 => ?_)
  refine l_end ?_
  refine c_block ?_
  refine c_loop3 (fun (todo : List (ByteArray × Int)) (xs : List ByteArray) (Lr : List Res) => [(0, .func (.yield ly) #[] #[]), (5, .pointer (some ⟨r5, 0, none⟩))]) (fun (todo : List (ByteArray × Int)) (xs : List ByteArray) (Lr : List Res) => (xs ++ todo.map (·.1)).Perm (kb.map (·.1)) ∧ J xs Lr) (fun (todo : List (ByteArray × Int)) (xs : List ByteArray) (Lr : List Res) => (Res.row sb 55 [.map (some m)] :: Res.rg Value.string ekI m r5 kb todo :: Lr)) (fun (todo : List (ByteArray × Int)) (xs : List ByteArray) (Lr : List Res) => todo.length) (fun w' hw => ⟨kb, [], L0, ⟨rfl, rfl, trivial⟩, ⟨.refl _, hJ⟩, hw⟩) (fun todo xs Lr g hΦ => ?_)
  have hxp := hΦ.1
  have hJx := hΦ.2
  refine c_reg ?_
  refine l_nextA 1 rfl rfl rfl (fun hq0 => ?_) (fun q1 k v q2 hq1 => ?_)
  ·
    refine l_ext (vs := [.bool false]) rfl rfl rfl ?_
    refine l_end ?_
    refine c_seq ?_
    refine c_no rfl ?_
    exact c_exit rfl (ret0 rfl (fun w' hw => ⟨xs, Lr, (by rw [hq0] at hxp; simpa using hxp), hJx, (Own.rgEnd 1 hw rfl)⟩))
  ·
    refine l_ext (vs := [.bool true, .string k, .int .i64 v]) rfl rfl rfl ?_
    refine l_end ?_
    refine c_seq ?_
    refine c_yes rfl ?_
    refine c_skipC ?_
    refine c_block ?_
    refine c_reg ?_
    refine l_entryA 1 rfl rfl rfl ?_
    refine l_ext (vs := [.string k, .int .i64 v]) rfl rfl rfl ?_
    refine l_as rfl ?_
    refine l_end ?_
    refine c_regIs ?_
    refine i_val rfl (v_mv) ?_
    refine i_val rfl (v_mv) ?_
    refine i_yield [Res.row sb 55 [.map (some m)], Res.rg Value.string ekI m r5 kb (q1 ++ q2)] k Y rfl rfl hJx (comes_lt hxp hq1) rfl (fun Ly1_ hJLy1_ => ?_)
    refine i_val rfl (v_not (b := true) rfl) ?_
    refine i_end ?_
    refine c_no rfl ?_
    exact c_skip (fun w' hw => ⟨q1 ++ q2, xs ++ [k], Ly1_, ⟨rfl, rfl, trivial⟩, ⟨comes_step hxp hq1, hJLy1_⟩, hw, (by rw [hq1, List.length_append, List.length_append, List.length_cons]; omega)⟩)
theorem qkeys_s (m : Nat) (kb : List (ByteArray × Int)) (w : World) (hin : Own w (fps [Res.mp Value.string ekI m kb]) [Res.mp Value.string ekI m kb] w) : Rets Tryz.prog 27 #[.map (some m)] w fun u_ w' => ∃ (b : Nat), u_ = .func (.func 49) #[] #[.pointer (some ⟨b, 0, none⟩)] ∧ Own w (fps [Res.mp Value.string ekI m kb]) [Res.mp Value.string ekI m kb, Res.row b 55 [.map (some m)]] w' := by
  refine fn_enter (args := [.map (some m)]) Tryz.func27 rfl Tryz.ntmps27 rfl (show Own w (fps [Res.mp Value.string ekI m kb]) [Res.mp Value.string ekI m kb] w from hin) ?_
  refine c_reg ?_
  refine l_box rfl rfl (fun b1 => ?_)
  refine l_as rfl ?_
  refine l_end ?_
  refine c_reg ?_
  refine l_fn (va := []) (vb := [.pointer (some ⟨b1, 0, none⟩)]) rfl rfl rfl ?_
  refine l_as rfl ?_
  refine l_end ?_
  exact c_ret (ret1 (v := .func (.func 49) #[] #[.pointer (some ⟨b1, 0, none⟩)]) rfl rfl (fun w' hw => ⟨b1, rfl, hw⟩))
theorem appSeq_s {Sx : List ByteArray → Prop} {N : Nat} {Ls : List Res} (sg : FuncId) (lb : List Value) (hcall : callable Tryz.prog sg = true) (hseq : SeqC Tryz.prog sg lb (fun x => .string x) Sx N Ls) (hN : N ≤ 1000000000) (w : World) (hin : Own w (fps Ls) Ls w) : Rets Tryz.prog 59 #[.slice none 0 0, .func (.func sg) #[] lb.toArray] w fun u_ w' => ∃ (v : Value) (xs : List ByteArray), u_ = v ∧ Sx xs ∧ Own w (fps Ls) (Ls ++ [Res.vec 9 1 v xs.length (xs.flatMap S1)]) w' := by
  refine fn_enterR (args := [.slice none 0 0, .func (.func sg) #[] lb.toArray]) Tryz.func59 rfl Tryz.ntmps59 rfl rfl rfl (show Own w (fps Ls) Ls w from hin) ?_
  refine l_box rfl rfl (fun b => ?_)
  refine l_as rfl ?_
  refine l_nil (fun w1 hw => ?_)
  refine (?_ : CL _ _ _ _ _ _ (Own w (fps Ls) (Ls ++ [Res.row b 67 [.slice none 0 0]]))) w1 hw
  refine l_mv rfl ?_
  refine l_nil (fun w2 hw => ?_)
  have hw2 := own_nil hw 9 1
  rw [List.append_assoc] at hw2
  refine rf_rule (enc := (fun x => .string x)) (p := 7) (q := 5) (Ju := fun pre L => ∃ v, L = [Res.row b 67 [v], Res.vec 9 1 v pre.length (pre.flatMap S1)]) rfl hcall hseq ⟨.slice none 0 0, rfl⟩ hw2 rfl rfl rfl ?_ ?_ ?_
  · intro x w
    exact (l_as rfl (l_nil (fun w' hw' => ⟨rfl, hw'⟩)) : CL _ _ _ _ _ _ (fun w' => w' = w)) w rfl
  · rintro pre x L w ⟨v, rfl⟩ hlen
    refine l_ldo 0 (v := v) rfl rfl rfl (by kernel_rfl) rfl ?_
    refine l_mv rfl ?_
    refine l_bsl (e := 9) (sz := 1) (vs := [.string x]) (by kernel_rfl) rfl rfl (by simp [Value.cells]) (by decide) rfl (fun b10 => ?_)
    refine l_appF (g := S1) (sz := 1) (by' := 16) (fun _ => rfl) (l := pre) (l' := [x]) (by simp [cell1, S1]) 1 (by kernel_rfl) rfl rfl rfl (fun w' hw' => Vec.sl (Own.holds hw' 2 _ rfl)) (by first | omega | (simp; omega)) (by decide) rfl (fun v11 => ?_)
    refine l_haveO (fun w' hw => Own.cell1Vec (i := 1) rfl hw) (fun hc1_ => ?_)
    refine l_st (cs := [v]) 0 rfl rfl rfl (by kernel_rfl) hc1_ (Nat.le_of_ble_eq_true rfl) ?_
    exact l_nil (fun w' hw => ⟨_, ⟨_, rfl⟩, hw.sel [0, 1] rfl (by decide)⟩)
  · rintro xs L' D w' hS ⟨v, rfl⟩ hO a ha
    have hO2 := hO.perm (List.Perm.cons _ (List.perm_append_comm))
    refine rf_end (v := v) rfl ?_ hO2 (fun w'' hO3 => ⟨v, xs, rfl, hS, ?_⟩) a ha
    · exact i_val rfl (v_ldo 1 (v := v) rfl rfl rfl (by kernel_rfl)) (i_val rfl v_as (i_nil (fun w' hw => ⟨rfl, hw⟩)))
    · exact (Own.tail hO3).perm (List.perm_append_comm (l₁ := [_]))
theorem collect_ks (b m : Nat) (kb : List (ByteArray × Int)) (w : World) (hl : kb.length ≤ 1000000000) (hin : Own w (fps [Res.row b 55 [.map (some m)], Res.mp Value.string ekI m kb]) [Res.row b 55 [.map (some m)], Res.mp Value.string ekI m kb] w) : Rets Tryz.prog 47 #[.func (.func 49) #[] #[.pointer (some ⟨b, 0, none⟩)]] w fun u_ w' => ∃ (v' : Value) (l' : List ByteArray), u_ = v' ∧ l'.Perm (kb.map (·.1)) ∧ Own w (fps [Res.row b 55 [.map (some m)], Res.mp Value.string ekI m kb]) [Res.row b 55 [.map (some m)], Res.mp Value.string ekI m kb, Res.vec 9 1 v' l'.length (l'.flatMap S1)] w' := by
  refine fn_enter (args := [.func (.func 49) #[] #[.pointer (some ⟨b, 0, none⟩)]]) Tryz.func47 rfl Tryz.ntmps47 rfl (show Own w (fps [Res.row b 55 [.map (some m)], Res.mp Value.string ekI m kb]) [Res.row b 55 [.map (some m)], Res.mp Value.string ekI m kb] w from hin) ?_
  refine c_reg ?_
  refine l_as rfl ?_
  refine l_end ?_
  refine c_reg ?_
  refine l_mv rfl ?_
  refine l_call (by kernel_rfl) rfl rfl (fun w' hw => ?_)
  refine (appSeq_s 49 [.pointer (some ⟨b, 0, none⟩)] (by kernel_rfl) (qkeysSeq b m kb) (by omega) w' (hw.give [0, 1] rfl (by decide))).mono ?_
  rintro v1_ w1 ⟨_, xs2_, rfl, hf1_1, hO⟩
  refine (?_ : CL _ _ _ _ _ _ (Own w (fps [Res.row b 55 [.map (some m)], Res.mp Value.string ekI m kb]) [Res.row b 55 [.map (some m)], Res.mp Value.string ekI m kb, Res.vec 9 1 v1_ xs2_.length (xs2_.flatMap S1)])) w1 (hw.frameL [0, 1] rfl hO)
  refine l_as rfl ?_
  refine l_end ?_
  exact c_ret (ret1 (v := v1_) rfl rfl (fun w' hw => ⟨v1_, xs2_, rfl, hf1_1, hw⟩))
theorem sorted_ks (b m : Nat) (kb : List (ByteArray × Int)) (w : World) (hl : kb.length ≤ 1000000000) (hin : Own w (fps [Res.row b 55 [.map (some m)], Res.mp Value.string ekI m kb]) [Res.row b 55 [.map (some m)], Res.mp Value.string ekI m kb] w) : Rets Tryz.prog 26 #[.func (.func 49) #[] #[.pointer (some ⟨b, 0, none⟩)]] w fun u_ w' => ∃ (v' : Value) (l' : List ByteArray), u_ = v' ∧ l'.Perm (kb.map (·.1)) ∧ l'.Pairwise (fun x y => ole x y) ∧ Own w (fps [Res.row b 55 [.map (some m)], Res.mp Value.string ekI m kb]) [Res.row b 55 [.map (some m)], Res.mp Value.string ekI m kb, Res.vec 9 1 v' l'.length (l'.flatMap S1)] w' := by
  refine fn_enter (args := [.func (.func 49) #[] #[.pointer (some ⟨b, 0, none⟩)]]) Tryz.func26 rfl Tryz.ntmps26 rfl (show Own w (fps [Res.row b 55 [.map (some m)], Res.mp Value.string ekI m kb]) [Res.row b 55 [.map (some m)], Res.mp Value.string ekI m kb] w from hin) ?_
  refine c_reg ?_
  refine l_as rfl ?_
  refine l_end ?_
  refine c_reg ?_
  refine l_mv rfl ?_
  refine l_call (by kernel_rfl) rfl rfl (fun w' hw => ?_)
  refine (collect_ks b m kb w' (by first | assumption | omega | (simp <;> omega) | (constructor <;> (first | omega | (simp only [LenOk]; omega) | (simp <;> omega)))) (hw.give [0, 1] rfl (by decide))).mono ?_
  rintro v'1_ w1 ⟨_, l'2_, rfl, hf1_1, hO⟩
  have hl1 : l'2_.length ≤ 1000000000 := by rw [hf1_1.length_eq, List.length_map]; exact hl
  refine (?_ : CL _ _ _ _ _ _ (Own w (fps [Res.row b 55 [.map (some m)], Res.mp Value.string ekI m kb]) [Res.row b 55 [.map (some m)], Res.mp Value.string ekI m kb, Res.vec 9 1 v'1_ l'2_.length (l'2_.flatMap S1)])) w1 (hw.frameL [0, 1] rfl hO)
  refine l_as rfl ?_
  refine l_end ?_
  refine c_reg ?_
  refine l_mv rfl ?_
  refine l_call (by kernel_rfl) rfl rfl (fun w' hw => ?_)
  refine (sort_s v'1_ l'2_ w' (by first | assumption | omega | (simp <;> omega) | (constructor <;> (first | omega | (simp only [LenOk]; omega) | (simp <;> omega)))) (hw.give [2] rfl (by decide))).mono ?_
  rintro _ w1 ⟨l'3_, rfl, hf2_1, hf2_1_1, hO⟩
  refine (?_ : CL _ _ _ _ _ _ (Own w (fps [Res.row b 55 [.map (some m)], Res.mp Value.string ekI m kb]) [Res.row b 55 [.map (some m)], Res.mp Value.string ekI m kb, Res.vec 9 1 v'1_ l'3_.length (l'3_.flatMap S1)])) w1 (hw.frameL [2] rfl hO)
  refine l_end ?_
  refine c_reg ?_
  refine l_mv rfl ?_
  refine l_as rfl ?_
  refine l_end ?_
  exact c_ret (ret1 (v := v'1_) rfl rfl (fun w' hw => ⟨v'1_, l'3_, rfl, hf2_1.trans hf1_1, hf2_1_1, hw⟩))
theorem qvalsSeq (sb m : Nat) (kl : List (Nat × LeaD)) : SeqC Tryz.prog 52 [.pointer (some ⟨sb, 0, none⟩)] leaV (fun xs => xs.Perm (kl.map (·.2))) kl.length [Res.row sb 56 [.map (some m)], Res.mp ekU leaV m kl] := by
  intro ly J L0 w Y hJ hin
  refine fn_enter (args := [.func (.yield ly) #[] #[], .pointer (some ⟨sb, 0, none⟩)]) Tryz.func52 rfl Tryz.ntmps52 rfl (show Own w (fps ([Res.row sb 56 [.map (some m)], Res.mp ekU leaV m kl] ++ L0)) (Res.row sb 56 [.map (some m)] :: Res.mp ekU leaV m kl :: L0) w from hin) ?_
  refine c_reg ?_
  refine l_ldo 0 (v := .map (some m)) rfl rfl rfl (by kernel_rfl) rfl ?_
  refine l_rangeA 1 mapL rfl rfl rfl (fun r6 => ?_)
  refine l_end ?_
  refine c_block ?_
  refine c_loop3 (fun (todo : List (Nat × LeaD)) (xs : List LeaD) (Lr : List Res) => [(0, .func (.yield ly) #[] #[]), (6, .pointer (some ⟨r6, 0, none⟩))]) (fun (todo : List (Nat × LeaD)) (xs : List LeaD) (Lr : List Res) => (xs ++ todo.map (·.2)).Perm (kl.map (·.2)) ∧ J xs Lr) (fun (todo : List (Nat × LeaD)) (xs : List LeaD) (Lr : List Res) => (Res.row sb 56 [.map (some m)] :: Res.rg ekU leaV m r6 kl todo :: Lr)) (fun (todo : List (Nat × LeaD)) (xs : List LeaD) (Lr : List Res) => todo.length) (fun w' hw => ⟨kl, [], L0, ⟨rfl, rfl, trivial⟩, ⟨.refl _, hJ⟩, hw⟩) (fun todo xs Lr g hΦ => ?_)
  have hxp := hΦ.1
  have hJx := hΦ.2
  refine c_reg ?_
  refine l_nextA 1 rfl rfl rfl (fun hq0 => ?_) (fun q1 k v q2 hq1 => ?_)
  ·
    refine l_ext (vs := [.bool false]) rfl rfl rfl ?_
    refine l_end ?_
    refine c_seq ?_
    refine c_no rfl ?_
    exact c_exit rfl (ret0 rfl (fun w' hw => ⟨xs, Lr, (by rw [hq0] at hxp; simpa using hxp), hJx, (Own.rgEnd 1 hw rfl)⟩))
  ·
    refine l_ext (vs := [.bool true, .int .u64 (k : Nat), .agg (LeaD.cells v).toArray]) rfl rfl rfl ?_
    refine l_end ?_
    refine c_seq ?_
    refine c_yes rfl ?_
    refine c_skipC ?_
    refine c_block ?_
    refine c_reg ?_
    refine l_entryA 1 rfl rfl rfl ?_
    refine l_ext (vs := [.int .u64 (k : Nat), .agg (LeaD.cells v).toArray]) rfl rfl rfl ?_
    refine l_new (v := .agg #[.int .u64 (0 : Nat), .int .u64 (0 : Nat), .string (⟨#[]⟩ : ByteArray), .int .i64 0, .int .i64 0]) (by kernel_rfl) rfl (fun b4 => ?_)
    refine l_own (Res.row sb 56 [.map (some m)] :: Res.rg ekU leaV m r6 kl (q1 ++ q2) :: Res.row b4 49 [.int .u64 (0 : Nat), .int .u64 (0 : Nat), .string (⟨#[]⟩ : ByteArray), .int .i64 0, .int .i64 0] :: Lr) (fun w' hw => Own.inTail [_, _] hw) ?_
    refine l_stN (cs := [.int .u64 (0 : Nat), .int .u64 (0 : Nat), .string (⟨#[]⟩ : ByteArray), .int .i64 0, .int .i64 0]) (vs := [.int .u64 (v.id : Nat), .int .u64 (v.session : Nat), .string v.key, .int .i64 v.amount, .int .i64 v.until_]) 2 rfl rfl rfl (by kernel_rfl) (allc_cons rfl (allc_cons rfl (allc_cons rfl (allc_cons rfl (allc_cons rfl allc_nil))))) (Nat.le_of_ble_eq_true rfl) ?_
    refine l_end ?_
    refine c_regIs ?_
    refine i_val rfl (v_mv) ?_
    refine i_val rfl (v_ldr (cs := (LeaD.cells v)) 2 rfl rfl (by kernel_rfl)) ?_
    refine i_yield [Res.row sb 56 [.map (some m)], Res.rg ekU leaV m r6 kl (q1 ++ q2), Res.row b4 49 (LeaD.cells v)] v Y rfl rfl hJx (comes_lt hxp hq1) rfl (fun Ly1_ hJLy1_ => ?_)
    refine i_val rfl (v_not (b := true) rfl) ?_
    refine i_end ?_
    refine c_no rfl ?_
    exact c_skip (fun w' hw => ⟨q1 ++ q2, xs ++ [v], Ly1_, ⟨rfl, rfl, trivial⟩, ⟨comes_step hxp hq1, hJLy1_⟩, (Own.dropAt [_, _] hw), (by rw [hq1, List.length_append, List.length_append, List.length_cons]; omega)⟩)
theorem qvals_s (m : Nat) (kl : List (Nat × LeaD)) (w : World) (hin : Own w (fps [Res.mp ekU leaV m kl]) [Res.mp ekU leaV m kl] w) : Rets Tryz.prog 29 #[.map (some m)] w fun u_ w' => ∃ (b : Nat), u_ = .func (.func 52) #[] #[.pointer (some ⟨b, 0, none⟩)] ∧ Own w (fps [Res.mp ekU leaV m kl]) [Res.mp ekU leaV m kl, Res.row b 56 [.map (some m)]] w' := by
  refine fn_enter (args := [.map (some m)]) Tryz.func29 rfl Tryz.ntmps29 rfl (show Own w (fps [Res.mp ekU leaV m kl]) [Res.mp ekU leaV m kl] w from hin) ?_
  refine c_reg ?_
  refine l_box rfl rfl (fun b1 => ?_)
  refine l_as rfl ?_
  refine l_end ?_
  refine c_reg ?_
  refine l_fn (va := []) (vb := [.pointer (some ⟨b1, 0, none⟩)]) rfl rfl rfl ?_
  refine l_as rfl ?_
  refine l_end ?_
  exact c_ret (ret1 (v := .func (.func 52) #[] #[.pointer (some ⟨b1, 0, none⟩)]) rfl rfl (fun w' hw => ⟨b1, rfl, hw⟩))
theorem appSeq_l {Sx : List LeaD → Prop} {N : Nat} {Ls : List Res} (sg : FuncId) (lb : List Value) (hcall : callable Tryz.prog sg = true) (hseq : SeqC Tryz.prog sg lb (fun x => .agg (LeaD.cells x).toArray) Sx N Ls) (hN : N ≤ 1000000000) (w : World) (hin : Own w (fps Ls) Ls w) : Rets Tryz.prog 61 #[.slice none 0 0, .func (.func sg) #[] lb.toArray] w fun u_ w' => ∃ (v : Value) (xs : List LeaD), u_ = v ∧ Sx xs ∧ Own w (fps Ls) (Ls ++ [Res.vec 49 5 v xs.length (xs.flatMap LeaD.cells)]) w' := by
  refine fn_enterR (args := [.slice none 0 0, .func (.func sg) #[] lb.toArray]) Tryz.func61 rfl Tryz.ntmps61 rfl rfl rfl (show Own w (fps Ls) Ls w from hin) ?_
  refine l_box rfl rfl (fun b => ?_)
  refine l_as rfl ?_
  refine l_nil (fun w1 hw => ?_)
  refine (?_ : CL _ _ _ _ _ _ (Own w (fps Ls) (Ls ++ [Res.row b 28 [.slice none 0 0]]))) w1 hw
  refine l_mv rfl ?_
  refine l_nil (fun w2 hw => ?_)
  have hw2 := own_nil hw 49 5
  rw [List.append_assoc] at hw2
  refine rf_rule2 (enc := (fun x => .agg (LeaD.cells x).toArray)) (p := 7) (Ju := fun pre L => ∃ v, L = [Res.row b 28 [v], Res.vec 49 5 v pre.length (pre.flatMap LeaD.cells)]) (Mid := fun pre x f' L => ∃ (v : Value) (b5 : Nat), f' = upd (upd (upd (upd (upd (ini [.slice none 0 0, .func (.func sg) #[] lb.toArray]) 2 (.pointer (some ⟨b, 0, none⟩))) 4 (.slice none 0 0)) 6 (.func (.func sg) #[] lb.toArray)) 7 ((fun x => .agg (LeaD.cells x).toArray) x)) 5 (.pointer (some ⟨b5, 0, none⟩)) ∧ L = [Res.row b 28 [v], Res.vec 49 5 v pre.length (pre.flatMap LeaD.cells), Res.row b5 49 (LeaD.cells x)]) rfl hcall hseq ⟨.slice none 0 0, rfl⟩ hw2 rfl rfl rfl ?_ ?_ ?_
  · rintro pre x L w ⟨v, rfl⟩ hlen
    refine l_new (v := .agg #[.int .u64 (0 : Nat), .int .u64 (0 : Nat), .string (⟨#[]⟩ : ByteArray), .int .i64 0, .int .i64 0]) (by kernel_rfl) rfl (fun b5 => ?_)
    refine l_stN (cs := [.int .u64 (0 : Nat), .int .u64 (0 : Nat), .string (⟨#[]⟩ : ByteArray), .int .i64 0, .int .i64 0]) (vs := [.int .u64 (x.id : Nat), .int .u64 (x.session : Nat), .string x.key, .int .i64 x.amount, .int .i64 x.until_]) 2 rfl rfl rfl (by kernel_rfl) (allc_cons rfl (allc_cons rfl (allc_cons rfl (allc_cons rfl (allc_cons rfl allc_nil))))) (Nat.le_of_ble_eq_true rfl) ?_
    exact l_nil (fun w' hw => ⟨_, ⟨_, _, rfl, rfl⟩, hw⟩)
  · rintro pre x f' L w ⟨v, b5, rfl, rfl⟩ hlen
    refine l_ldo 0 (v := v) rfl rfl rfl (by kernel_rfl) rfl ?_
    refine l_ldr (cs := (LeaD.cells x)) 2 rfl rfl (by kernel_rfl) rfl ?_
    refine l_bsl (e := 49) (sz := 5) (vs := [.agg (LeaD.cells x).toArray]) (by kernel_rfl) rfl rfl (by simp [Value.cells, LeaD.cells]) (by decide) rfl (fun b10 => ?_)
    refine l_appF (g := LeaD.cells) (sz := 5) (by' := 48) (fun _ => rfl) (l := pre) (l' := [x]) (by simp [cell1, LeaD.cells, vu]) 1 (by kernel_rfl) rfl rfl rfl (fun w' hw' => Vec.sl (Own.holds hw' 3 _ rfl)) (by first | omega | (simp; omega)) (by decide) rfl (fun v11 => ?_)
    refine l_haveO (fun w' hw => Own.cell1Vec (i := 1) rfl hw) (fun hc1_ => ?_)
    refine l_st (cs := [v]) 0 rfl rfl rfl (by kernel_rfl) hc1_ (Nat.le_of_ble_eq_true rfl) ?_
    exact l_nil (fun w' hw => ⟨_, ⟨_, rfl⟩, hw.sel [0, 1] rfl (by decide)⟩)
  · rintro xs L' D w' hS ⟨v, rfl⟩ hO a ha
    have hO2 := hO.perm (List.Perm.cons _ (List.perm_append_comm))
    refine rf_end (v := v) rfl ?_ hO2 (fun w'' hO3 => ⟨v, xs, rfl, hS, ?_⟩) a ha
    · exact i_val rfl (v_ldo 1 (v := v) rfl rfl rfl (by kernel_rfl)) (i_val rfl v_as (i_nil (fun w' hw => ⟨rfl, hw⟩)))
    · exact (Own.tail hO3).perm (List.perm_append_comm (l₁ := [_]))
theorem collect_vl (b m : Nat) (kl : List (Nat × LeaD)) (w : World) (hl : kl.length ≤ 1000000000) (hin : Own w (fps [Res.row b 56 [.map (some m)], Res.mp ekU leaV m kl]) [Res.row b 56 [.map (some m)], Res.mp ekU leaV m kl] w) : Rets Tryz.prog 50 #[.func (.func 52) #[] #[.pointer (some ⟨b, 0, none⟩)]] w fun u_ w' => ∃ (v' : Value) (l' : List LeaD), u_ = v' ∧ l'.Perm (kl.map (·.2)) ∧ Own w (fps [Res.row b 56 [.map (some m)], Res.mp ekU leaV m kl]) [Res.row b 56 [.map (some m)], Res.mp ekU leaV m kl, Res.vec 49 5 v' l'.length (l'.flatMap LeaD.cells)] w' := by
  refine fn_enter (args := [.func (.func 52) #[] #[.pointer (some ⟨b, 0, none⟩)]]) Tryz.func50 rfl Tryz.ntmps50 rfl (show Own w (fps [Res.row b 56 [.map (some m)], Res.mp ekU leaV m kl]) [Res.row b 56 [.map (some m)], Res.mp ekU leaV m kl] w from hin) ?_
  refine c_reg ?_
  refine l_as rfl ?_
  refine l_end ?_
  refine c_reg ?_
  refine l_mv rfl ?_
  refine l_call (by kernel_rfl) rfl rfl (fun w' hw => ?_)
  refine (appSeq_l 52 [.pointer (some ⟨b, 0, none⟩)] (by kernel_rfl) (qvalsSeq b m kl) (by omega) w' (hw.give [0, 1] rfl (by decide))).mono ?_
  rintro v1_ w1 ⟨_, xs2_, rfl, hf1_1, hO⟩
  refine (?_ : CL _ _ _ _ _ _ (Own w (fps [Res.row b 56 [.map (some m)], Res.mp ekU leaV m kl]) [Res.row b 56 [.map (some m)], Res.mp ekU leaV m kl, Res.vec 49 5 v1_ xs2_.length (xs2_.flatMap LeaD.cells)])) w1 (hw.frameL [0, 1] rfl hO)
  refine l_as rfl ?_
  refine l_end ?_
  exact c_ret (ret1 (v := v1_) rfl rfl (fun w' hw => ⟨v1_, xs2_, rfl, hf1_1, hw⟩))
theorem sortedf_vl (b m : Nat) (kl : List (Nat × LeaD)) (w : World) (hl : kl.length ≤ 1000000000) (hin : Own w (fps [Res.row b 56 [.map (some m)], Res.mp ekU leaV m kl]) [Res.row b 56 [.map (some m)], Res.mp ekU leaV m kl] w) : Rets Tryz.prog 28 #[.func (.func 52) #[] #[.pointer (some ⟨b, 0, none⟩)], .func (.func 30) #[] #[]] w fun u_ w' => ∃ (v' : Value) (l' : List LeaD), u_ = v' ∧ l'.Perm (kl.map (·.2)) ∧ l'.Pairwise (fun x y => ole x y) ∧ Own w (fps [Res.row b 56 [.map (some m)], Res.mp ekU leaV m kl]) [Res.row b 56 [.map (some m)], Res.mp ekU leaV m kl, Res.vec 49 5 v' l'.length (l'.flatMap LeaD.cells)] w' := by
  refine fn_enter (args := [.func (.func 52) #[] #[.pointer (some ⟨b, 0, none⟩)], .func (.func 30) #[] #[]]) Tryz.func28 rfl Tryz.ntmps28 rfl (show Own w (fps [Res.row b 56 [.map (some m)], Res.mp ekU leaV m kl]) [Res.row b 56 [.map (some m)], Res.mp ekU leaV m kl] w from hin) ?_
  refine c_reg ?_
  refine l_as rfl ?_
  refine l_end ?_
  refine c_reg ?_
  refine l_mv rfl ?_
  refine l_call (by kernel_rfl) rfl rfl (fun w' hw => ?_)
  refine (collect_vl b m kl w' (by first | assumption | omega | (simp <;> omega) | (constructor <;> (first | omega | (simp only [LenOk]; omega) | (simp <;> omega)))) (hw.give [0, 1] rfl (by decide))).mono ?_
  rintro v'1_ w1 ⟨_, l'2_, rfl, hf1_1, hO⟩
  have hl1 : l'2_.length ≤ 1000000000 := by rw [hf1_1.length_eq, List.length_map]; exact hl
  refine (?_ : CL _ _ _ _ _ _ (Own w (fps [Res.row b 56 [.map (some m)], Res.mp ekU leaV m kl]) [Res.row b 56 [.map (some m)], Res.mp ekU leaV m kl, Res.vec 49 5 v'1_ l'2_.length (l'2_.flatMap LeaD.cells)])) w1 (hw.frameL [0, 1] rfl hO)
  refine l_as rfl ?_
  refine l_end ?_
  refine c_reg ?_
  refine l_mv rfl ?_
  refine l_mv rfl ?_
  refine l_call (by kernel_rfl) rfl rfl (fun w' hw => ?_)
  refine (sort_f v'1_ l'2_ w' (by first | assumption | omega | (simp <;> omega) | (constructor <;> (first | omega | (simp only [LenOk]; omega) | (simp <;> omega)))) (hw.give [2] rfl (by decide))).mono ?_
  rintro _ w1 ⟨l'3_, rfl, hf2_2, hf2_2_1, hO⟩
  refine (?_ : CL _ _ _ _ _ _ (Own w (fps [Res.row b 56 [.map (some m)], Res.mp ekU leaV m kl]) [Res.row b 56 [.map (some m)], Res.mp ekU leaV m kl, Res.vec 49 5 v'1_ l'3_.length (l'3_.flatMap LeaD.cells)])) w1 (hw.frameL [2] rfl hO)
  refine l_end ?_
  refine c_reg ?_
  refine l_mv rfl ?_
  refine l_as rfl ?_
  refine l_end ?_
  exact c_ret (ret1 (v := v'1_) rfl rfl (fun w' hw => ⟨v'1_, l'3_, rfl, hf2_2.trans hf1_1, hf2_2_1, hw⟩))
end Go.Proofs.YtgkeoenbcjfeaaaGreat
