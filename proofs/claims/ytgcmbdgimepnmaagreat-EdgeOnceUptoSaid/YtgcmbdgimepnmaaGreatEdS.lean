/-
  THE NUMBERS OF the leases that an edge trusts, in order.
-/
import Derived.Test.YtgcmbdgimepnmaaGreatEdP
import Derived.Test.YtgcmbdgimepnmaaGreatSortU4
import Derived.Test.YtgcmbdgimepnmaaGreatFwH
import Derived.Test.YtgcmbdgimepnmaaGreatFwK
set_option linter.unusedVariables false
set_option maxRecDepth 10000
namespace Go.Proofs.YtgcmbdgimepnmaaGreat
open Go Go.Sc Go.Proofs

def ekU (n : Nat) : Value := .int .u64 n
theorem keyU : KeyL Tryz.prog 23 ekU := keyL_nat (by kernel_rfl)
theorem mapTr : mapT Tryz.prog 58 = some (23, 90) := by kernel_rfl
theorem mapNv : mapT Tryz.prog 59 = some (23, 4) := by kernel_rfl
theorem zeroTr : zeroT Tryz.prog 90 = some (truV TruD.zero) := by kernel_rfl
theorem zeroNv : zeroT Tryz.prog 4 = some (Value.bool false) := by kernel_rfl
theorem comes_step {κ α β : Type} {g : κ × α → β} {kl todo q1 q2 : List (κ × α)} {xs : List β} {p : κ × α} (h : (xs ++ todo.map g).Perm (kl.map g)) (hq : todo = q1 ++ p :: q2) : ((xs ++ [g p]) ++ (q1 ++ q2).map g).Perm (kl.map g) := by
  refine List.Perm.trans ?_ h
  rw [hq, List.append_assoc]
  refine List.Perm.append_left _ ?_
  rw [List.map_append, List.map_append, List.map_cons]
  exact (List.perm_middle (l₁ := q1.map g) (l₂ := q2.map g) (a := g p)).symm
theorem comes_lt {κ α β : Type} {g : κ × α → β} {kl todo q1 q2 : List (κ × α)} {xs : List β} {p : κ × α} (h : (xs ++ todo.map g).Perm (kl.map g)) (hq : todo = q1 ++ p :: q2) : xs.length < kl.length := by
  have := h.length_eq
  rw [hq] at this
  simp at this; omega
theorem ekeysSeq (sb m : Nat) (kl : List (Nat × TruD)) : SeqC Tryz.prog 51 [.pointer (some ⟨sb, 0, none⟩)] (fun x : Nat => Value.int .u64 (x : Nat)) (fun xs => xs.Perm (kl.map (·.1))) kl.length [Res.row sb 58 [.map (some m)], Res.mp ekU truV m kl] := by
  intro ly J L0 w Y hJ hin
  refine fn_enter (args := [.func (.yield ly) #[] #[], .pointer (some ⟨sb, 0, none⟩)]) Tryz.func51 rfl Tryz.ntmps51 rfl (show Own w (fps ([Res.row sb 58 [.map (some m)], Res.mp ekU truV m kl] ++ L0)) (Res.row sb 58 [.map (some m)] :: Res.mp ekU truV m kl :: L0) w from hin) ?_
  refine c_reg (l_ldo 0 (v := .map (some m)) rfl rfl rfl (by kernel_rfl) rfl (l_rangeA 1 mapTr rfl rfl rfl (fun r5 => l_end (c_block ?_))))
  refine c_loop3 (fun (todo : List (Nat × TruD)) (xs : List Nat) (Lr : List Res) => [(0, .func (.yield ly) #[] #[]), (5, .pointer (some ⟨r5, 0, none⟩))]) (fun (todo : List (Nat × TruD)) (xs : List Nat) (Lr : List Res) => (xs ++ todo.map (·.1)).Perm (kl.map (·.1)) ∧ J xs Lr) (fun (todo : List (Nat × TruD)) (xs : List Nat) (Lr : List Res) => (Res.row sb 58 [.map (some m)] :: Res.rg ekU truV m r5 kl todo :: Lr)) (fun (todo : List (Nat × TruD)) (xs : List Nat) (Lr : List Res) => todo.length) (fun w' hw => ⟨kl, [], L0, ⟨rfl, rfl, trivial⟩, ⟨.refl _, hJ⟩, hw⟩) (fun todo xs Lr g hΦ => ?_)
  have hxp := hΦ.1
  have hJx := hΦ.2
  refine c_reg (l_nextA 1 rfl rfl rfl (fun hq0 => ?_) (fun q1 k v q2 hq1 => ?_))
  ·
   refine l_ext (vs := [.bool false]) rfl rfl rfl (l_end (c_seq (c_no rfl ?_)))
   exact c_exit rfl (ret0 rfl (fun w' hw => ⟨xs, Lr, (by rw [hq0] at hxp; simpa using hxp), hJx, (Own.rgEnd 1 hw rfl)⟩))
  ·
   refine l_ext (vs := [.bool true, .int .u64 (k : Nat), .agg (TruD.cells v).toArray]) rfl rfl rfl (l_end (c_seq (c_yes rfl (c_skipC (c_block (c_reg (l_entryA 1 rfl rfl rfl (l_ext (vs := [.int .u64 (k : Nat), .agg (TruD.cells v).toArray]) rfl rfl rfl (l_as rfl (l_end (c_regIs ?_)))))))))))
   refine i_val rfl (v_mv) ?_
   refine i_val rfl (v_mv) ?_
   refine i_yield [Res.row sb 58 [.map (some m)], Res.rg ekU truV m r5 kl (q1 ++ q2)] k Y rfl rfl hJx (comes_lt hxp hq1) rfl (fun Ly1_ hJLy1_ => ?_)
   refine i_val rfl (v_not (b := true) rfl) ?_
   refine i_end ?_
   refine c_no rfl ?_
   exact c_skip (fun w' hw => ⟨q1 ++ q2, xs ++ [k], Ly1_, ⟨rfl, rfl, trivial⟩, ⟨comes_step hxp hq1, hJLy1_⟩, hw, (by rw [hq1, List.length_append, List.length_append, List.length_cons]; omega)⟩)
theorem ekeys_s {S : List Nat} (m : Nat) (kl : List (Nat × TruD)) (w : World) (hin : Own w S [Res.mp ekU truV m kl] w) : Rets Tryz.prog 35 #[.map (some m)] w fun u_ w' => ∃ (b : Nat), u_ = .func (.func 51) #[] #[.pointer (some ⟨b, 0, none⟩)] ∧ Own w S [Res.mp ekU truV m kl, Res.row b 58 [.map (some m)]] w' := by
  refine fn_enter (args := [.map (some m)]) Tryz.func35 rfl Tryz.ntmps35 rfl (show Own w S [Res.mp ekU truV m kl] w from hin) ?_
  refine c_reg (l_box rfl rfl (fun b1 => l_as rfl (l_end (c_reg (l_fn (va := []) (vb := [.pointer (some ⟨b1, 0, none⟩)]) rfl rfl rfl (l_as rfl (l_end ?_)))))))
  exact c_ret (ret1 (v := .func (.func 51) #[] #[.pointer (some ⟨b1, 0, none⟩)]) rfl rfl (fun w' hw => ⟨b1, rfl, hw⟩))
theorem appSeq_u {Sx : List Nat → Prop} {N : Nat} {Ls : List Res} (sg : FuncId) (lb : List Value) (hcall : callable Tryz.prog sg = true) (hseq : SeqC Tryz.prog sg lb (fun x => .int .u64 (x : Nat)) Sx N Ls) (hN : N ≤ 1000000000) (w : World) (hin : Own w (fps Ls) Ls w) : Rets Tryz.prog 73 #[.slice none 0 0, .func (.func sg) #[] lb.toArray] w fun u_ w' => ∃ (v : Value) (xs : List Nat), u_ = v ∧ Sx xs ∧ Own w (fps Ls) (Ls ++ [Res.vec 23 1 v xs.length (xs.flatMap U1)]) w' := by
  refine fn_enterR (args := [.slice none 0 0, .func (.func sg) #[] lb.toArray]) Tryz.func73 rfl Tryz.ntmps73 rfl rfl rfl (show Own w (fps Ls) Ls w from hin) ?_
  refine l_box rfl rfl (fun b => ?_)
  refine l_as rfl ?_
  refine l_nil (fun w1 hw => ?_)
  refine (?_ : CL _ _ _ _ _ _ (Own w (fps Ls) (Ls ++ [Res.row b 65 [.slice none 0 0]]))) w1 hw
  refine l_mv rfl ?_
  refine l_nil (fun w2 hw => ?_)
  have hw2 := own_nil hw 23 1
  rw [List.append_assoc] at hw2
  refine rf_rule (enc := (fun x => .int .u64 (x : Nat))) (p := 7) (q := 5) (Ju := fun pre L => ∃ v, L = [Res.row b 65 [v], Res.vec 23 1 v pre.length (pre.flatMap U1)]) rfl hcall hseq ⟨.slice none 0 0, rfl⟩ hw2 rfl rfl rfl ?_ ?_ ?_
  · intro x w
    exact (l_as rfl (l_nil (fun w' hw' => ⟨rfl, hw'⟩)) : CL _ _ _ _ _ _ (fun w' => w' = w)) w rfl
  · rintro pre x L w ⟨v, rfl⟩ hlen
    refine l_ldo 0 (v := v) rfl rfl rfl (by kernel_rfl) rfl ?_
    refine l_mv rfl ?_
    refine l_bsl (e := 23) (sz := 1) (vs := [.int .u64 (x : Nat)]) (by kernel_rfl) rfl rfl (by simp [Value.cells]) (by decide) rfl (fun b10 => ?_)
    refine l_appF (g := U1) (sz := 1) (by' := 8) (fun _ => rfl) (l := pre) (l' := [x]) (by simp [cell1, U1]) 1 (by kernel_rfl) rfl rfl rfl (fun w' hw' => Vec.sl (Own.holds hw' 2 _ rfl)) (by first | omega | (simp; omega)) (by decide) rfl (fun v11 => ?_)
    refine l_haveO (fun w' hw => Own.cell1Vec (i := 1) rfl hw) (fun hc1_ => ?_)
    refine l_st (cs := [v]) 0 rfl rfl rfl (by kernel_rfl) hc1_ (Nat.le_of_ble_eq_true rfl) ?_
    exact l_nil (fun w' hw => ⟨_, ⟨_, rfl⟩, hw.sel [0, 1] rfl (by decide)⟩)
  · rintro xs L' D w' hS ⟨v, rfl⟩ hO a ha
    have hO2 := hO.perm (List.Perm.cons _ (List.perm_append_comm))
    refine rf_end (v := v) rfl ?_ hO2 (fun w'' hO3 => ⟨v, xs, rfl, hS, ?_⟩) a ha
    · exact i_val rfl (v_ldo 1 (v := v) rfl rfl rfl (by kernel_rfl)) (i_val rfl v_as (i_nil (fun w' hw => ⟨rfl, hw⟩)))
    · exact (Own.tail hO3).perm (List.perm_append_comm (l₁ := [_]))
theorem collect_u {S : List Nat} (b m : Nat) (kl : List (Nat × TruD)) (w : World) (hl : kl.length ≤ 1000000000) (hin : Own w S [Res.row b 58 [.map (some m)], Res.mp ekU truV m kl] w) : Rets Tryz.prog 49 #[.func (.func 51) #[] #[.pointer (some ⟨b, 0, none⟩)]] w fun u_ w' => ∃ (v' : Value) (l' : List Nat), u_ = v' ∧ l'.Perm (kl.map (·.1)) ∧ Own w S [Res.row b 58 [.map (some m)], Res.mp ekU truV m kl, Res.vec 23 1 v' l'.length (l'.flatMap U1)] w' := by
  refine fn_enter (args := [.func (.func 51) #[] #[.pointer (some ⟨b, 0, none⟩)]]) Tryz.func49 rfl Tryz.ntmps49 rfl (show Own w S [Res.row b 58 [.map (some m)], Res.mp ekU truV m kl] w from hin) ?_
  refine c_reg (l_as rfl (l_end (c_reg (l_mv rfl (l_call (by kernel_rfl) rfl rfl (fun w' hw => (appSeq_u 51 [.pointer (some ⟨b, 0, none⟩)] (by kernel_rfl) (ekeysSeq b m kl) (by omega) w' (hw.give [0, 1] rfl (by decide))).mono ?_))))))
  rintro v1_ w1 ⟨_, xs2_, rfl, hf1_1, hO⟩
  refine (?_ : CL _ _ _ _ _ _ (Own w S [Res.row b 58 [.map (some m)], Res.mp ekU truV m kl, Res.vec 23 1 v1_ xs2_.length (xs2_.flatMap U1)])) w1 (hw.frameL [0, 1] rfl hO)
  refine l_as rfl (l_end ?_)
  exact c_ret (ret1 (v := v1_) rfl rfl (fun w' hw => ⟨v1_, xs2_, rfl, hf1_1, hw⟩))
theorem sorted_u {S : List Nat} (b m : Nat) (kl : List (Nat × TruD)) (w : World) (hl : kl.length ≤ 1000000000) (hin : Own w S [Res.row b 58 [.map (some m)], Res.mp ekU truV m kl] w) : Rets Tryz.prog 34 #[.func (.func 51) #[] #[.pointer (some ⟨b, 0, none⟩)]] w fun u_ w' => ∃ (v' : Value) (l' : List Nat), u_ = v' ∧ l'.Perm (kl.map (·.1)) ∧ l'.Pairwise (fun x y => x ≤ y) ∧ Own w S [Res.row b 58 [.map (some m)], Res.mp ekU truV m kl, Res.vec 23 1 v' l'.length (l'.flatMap U1)] w' := by
  refine fn_enter (args := [.func (.func 51) #[] #[.pointer (some ⟨b, 0, none⟩)]]) Tryz.func34 rfl Tryz.ntmps34 rfl (show Own w S [Res.row b 58 [.map (some m)], Res.mp ekU truV m kl] w from hin) ?_
  refine c_reg (l_as rfl (l_end (c_reg (l_mv rfl (l_call (by kernel_rfl) rfl rfl (fun w' hw => (collect_u b m kl w' (by first | assumption | omega | (simp <;> omega) | (constructor <;> (first | omega | (simp only [LenOk]; omega) | (simp <;> omega)))) (hw.give [0, 1] rfl (by decide))).mono ?_))))))
  rintro v'1_ w1 ⟨_, l'2_, rfl, hf1_1, hO⟩
  have hl1 : l'2_.length ≤ 1000000000 := by rw [hf1_1.length_eq, List.length_map]; exact hl
  refine (?_ : CL _ _ _ _ _ _ (Own w S [Res.row b 58 [.map (some m)], Res.mp ekU truV m kl, Res.vec 23 1 v'1_ l'2_.length (l'2_.flatMap U1)])) w1 (hw.frameL [0, 1] rfl hO)
  refine l_as rfl (l_end (c_reg (l_mv rfl (l_call (by kernel_rfl) rfl rfl (fun w' hw => (sort_u v'1_ l'2_ w' (by first | assumption | omega | (simp <;> omega) | (constructor <;> (first | omega | (simp only [LenOk]; omega) | (simp <;> omega)))) (hw.give [2] rfl (by decide))).mono ?_)))))
  rintro _ w1 ⟨l'3_, rfl, hf2_1, hf2_1_1, hO⟩
  refine (?_ : CL _ _ _ _ _ _ (Own w S [Res.row b 58 [.map (some m)], Res.mp ekU truV m kl, Res.vec 23 1 v'1_ l'3_.length (l'3_.flatMap U1)])) w1 (hw.frameL [2] rfl hO)
  refine l_end (c_reg (l_mv rfl (l_as rfl (l_end ?_))))
  exact c_ret (ret1 (v := v'1_) rfl rfl (fun w' hw => ⟨v'1_, l'3_, rfl, hf2_1.trans hf1_1, hf2_1_1.imp (fun q => ole_nat.1 q), hw⟩))
end Go.Proofs.YtgcmbdgimepnmaaGreat
