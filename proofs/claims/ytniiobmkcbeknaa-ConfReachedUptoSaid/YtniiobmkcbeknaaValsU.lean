/-
  THE WALKS OF slices.Sorted(slices.Values(..)), over numbers of 64 bits.
-/
import Derived.Test.YtniiobmkcbeknaaSortU4
import Derived.Test.YtniiobmkcbeknaaFwG
set_option linter.unusedVariables false
set_option maxRecDepth 10000
namespace Go.Proofs.Ytniiobmkcbeknaa
open Go Go.Sc Go.Proofs

theorem valsSeq_u (sb : Nat) (v : Value) (l : List Nat) (hl : LenOk l.length) : SeqC Try.prog 45 [.pointer (some ⟨sb, 0, none⟩)] (fun x : Nat => Value.int .u64 (x : Nat)) (fun xs => xs = l) l.length [Res.row sb 34 [v], Res.vec 35 1 v l.length (l.flatMap U1)] := by
  intro ly J L0 w Y hJ hin
  refine fn_enter (args := [.func (.yield ly) #[] #[], .pointer (some ⟨sb, 0, none⟩)]) Try.func45 rfl Try.ntmps45 rfl (show Own w (fps ([Res.row sb 34 [v], Res.vec 35 1 v l.length (l.flatMap U1)] ++ L0)) (Res.row sb 34 [v] :: Res.vec 35 1 v l.length (l.flatMap U1) :: L0) w from hin) ?_
  refine c_reg ?_
  refine l_ldo 0 (v := v) rfl rfl rfl (by kernel_rfl) rfl ?_
  refine l_lenS (len := l.length) (cs := (l.flatMap U1)) (by kernel_rfl) rfl (fun w' hw' => Vec.sl (Own.holds hw' 1 _ rfl)) rfl ?_
  refine l_mv rfl ?_
  refine l_end ?_
  refine c_block ?_
  refine c_loop2 (fun (k : Nat) (Lr : List Res) => [(0, .func (.yield ly) #[] #[]), (5, v), (6, .int .i64 (l.length : Nat)), (7, .int .i64 (k : Nat))]) (fun (k : Nat) (Lr : List Res) => k ≤ l.length ∧ J (l.take k) Lr) (fun (k : Nat) (Lr : List Res) => (Res.row sb 34 [v] :: Res.vec 35 1 v l.length (l.flatMap U1) :: Lr)) (fun (k : Nat) (Lr : List Res) => l.length - k) (fun w' hw => ⟨0, L0, ⟨rfl, rfl, rfl, rfl, trivial⟩, ⟨Nat.zero_le _, by simpa using hJ⟩, hw⟩) (fun k Lr g hΦ => ?_)
  have hk := hΦ.1
  have hJk := hΦ.2
  refine c_reg ?_
  refine l_lss rfl rfl rfl ?_
  refine l_end ?_
  refine c_seq ?_
  refine c_dec rfl (fun c1 => ?_) (fun c1 => ?_)
  ·
    refine c_skipC ?_
    refine c_seq ?_
    refine c_block ?_
    refine c_reg ?_
    refine l_idxS (j := k) (sz := 1) (len := l.length) (cs := (l.flatMap U1)) rfl rfl (by kernel_rfl) (fun w' hw' => Vec.sl (Own.holds hw' 1 _ rfl)) rfl (by omega) rfl ?_
    refine l_ldS (v := v) (off := offV v + k * 1) (k * 1 + 0) (cs := (l.flatMap U1)) rfl (by omega) (fun w' hw' => Vec.sl (Own.holds hw' 1 _ rfl)) (flat_at (sz := 1) (fun _ => rfl) (nth_some (by omega)) (i := 0) rfl) (by kernel_rfl) rfl ?_
    refine l_as rfl ?_
    refine l_end ?_
    refine c_regIs ?_
    refine i_val rfl (v_mv) ?_
    refine i_val rfl (v_mv) ?_
    refine i_yield [Res.row sb 34 [v], Res.vec 35 1 v l.length (l.flatMap U1)] (nth l k) Y rfl rfl hJk (by rw [List.length_take]; omega) rfl (fun Ly1_ hJLy1_ => ?_)
    refine i_val rfl (v_not (b := true) rfl) ?_
    refine i_end ?_
    refine c_no rfl ?_
    refine c_skipC ?_
    refine c_last ?_
    refine l_add rfl rfl (wi64 (by omega)) rfl ?_
    refine l_mv rfl ?_
    exact l_nil (fun w' hw => ⟨k + 1, Ly1_, ⟨rfl, rfl, rfl, rfl, trivial⟩, ⟨by omega, by rw [take_nth (by omega)]; exact hJLy1_⟩, hw, (by omega)⟩)
  ·
    exact c_exit rfl (ret0 rfl (fun w' hw => ⟨l, Lr, rfl, (by have h := hJk; rwa [List.take_of_length_le (by omega)] at h), hw⟩))
theorem vals_u (v : Value) (l : List Nat) (w : World) (hin : Own w (fps [Res.vec 35 1 v l.length (l.flatMap U1)]) [Res.vec 35 1 v l.length (l.flatMap U1)] w) : Rets Try.prog 32 #[v] w fun u_ w' => ∃ (b : Nat), u_ = .func (.func 45) #[] #[.pointer (some ⟨b, 0, none⟩)] ∧ Own w (fps [Res.vec 35 1 v l.length (l.flatMap U1)]) [Res.vec 35 1 v l.length (l.flatMap U1), Res.row b 34 [v]] w' := by
  refine fn_enter (args := [v]) Try.func32 rfl Try.ntmps32 rfl (show Own w (fps [Res.vec 35 1 v l.length (l.flatMap U1)]) [Res.vec 35 1 v l.length (l.flatMap U1)] w from hin) ?_
  refine c_reg ?_
  refine l_haveO (fun w' hw => Own.cell1Vec (i := 0) rfl hw) (fun hc1_ => ?_)
  refine l_box1 rfl hc1_ rfl (fun b1 => ?_)
  refine l_as rfl ?_
  refine l_end ?_
  refine c_reg ?_
  refine l_fn (va := []) (vb := [.pointer (some ⟨b1, 0, none⟩)]) rfl rfl rfl ?_
  refine l_as rfl ?_
  refine l_end ?_
  exact c_ret (ret1 (v := .func (.func 45) #[] #[.pointer (some ⟨b1, 0, none⟩)]) rfl rfl (fun w' hw => ⟨b1, rfl, hw⟩))
theorem appSeq_u {Sx : List Nat → Prop} {N : Nat} {Ls : List Res} (sg : FuncId) (lb : List Value) (hcall : callable Try.prog sg = true) (hseq : SeqC Try.prog sg lb (fun x => .int .u64 (x : Nat)) Sx N Ls) (hN : N ≤ 1000000000) (w : World) (hin : Own w (fps Ls) Ls w) : Rets Try.prog 57 #[.slice none 0 0, .func (.func sg) #[] lb.toArray] w fun u_ w' => ∃ (v : Value) (xs : List Nat), u_ = v ∧ Sx xs ∧ Own w (fps Ls) (Ls ++ [Res.vec 35 1 v xs.length (xs.flatMap U1)]) w' := by
  refine fn_enterR (args := [.slice none 0 0, .func (.func sg) #[] lb.toArray]) Try.func57 rfl Try.ntmps57 rfl rfl rfl (show Own w (fps Ls) Ls w from hin) ?_
  refine l_box rfl rfl (fun b => ?_)
  refine l_as rfl ?_
  refine l_nil (fun w1 hw => ?_)
  refine (?_ : CL _ _ _ _ _ _ (Own w (fps Ls) (Ls ++ [Res.row b 34 [.slice none 0 0]]))) w1 hw
  refine l_mv rfl ?_
  refine l_nil (fun w2 hw => ?_)
  have hw2 := own_nil hw 35 1
  rw [List.append_assoc] at hw2
  refine rf_rule (enc := (fun x => .int .u64 (x : Nat))) (p := 7) (q := 5) (Ju := fun pre L => ∃ v, L = [Res.row b 34 [v], Res.vec 35 1 v pre.length (pre.flatMap U1)]) rfl hcall hseq ⟨.slice none 0 0, rfl⟩ hw2 rfl rfl rfl ?_ ?_ ?_
  · intro x w
    exact (l_as rfl (l_nil (fun w' hw' => ⟨rfl, hw'⟩)) : CL _ _ _ _ _ _ (fun w' => w' = w)) w rfl
  · rintro pre x L w ⟨v, rfl⟩ hlen
    refine l_ldo 0 (v := v) rfl rfl rfl (by kernel_rfl) rfl ?_
    refine l_mv rfl ?_
    refine l_bsl (e := 35) (sz := 1) (vs := [.int .u64 (x : Nat)]) (by kernel_rfl) rfl rfl (by simp [Value.cells]) (by decide) rfl (fun b10 => ?_)
    refine l_appF (g := U1) (sz := 1) (by' := 8) (fun _ => rfl) (l := pre) (l' := [x]) (by simp [cell1, U1]) 1 (by kernel_rfl) rfl rfl rfl (fun w' hw' => Vec.sl (Own.holds hw' 2 _ rfl)) (by first | omega | (simp; omega)) (by decide) rfl (fun v11 => ?_)
    refine l_haveO (fun w' hw => Own.cell1Vec (i := 1) rfl hw) (fun hc1_ => ?_)
    refine l_st (cs := [v]) 0 rfl rfl rfl (by kernel_rfl) hc1_ (Nat.le_of_ble_eq_true rfl) ?_
    exact l_nil (fun w' hw => ⟨_, ⟨_, rfl⟩, hw.sel [0, 1] rfl (by decide)⟩)
  · rintro xs L' D w' hS ⟨v, rfl⟩ hO a ha
    have hO2 := hO.perm (List.Perm.cons _ (List.perm_append_comm))
    refine rf_end (v := v) rfl ?_ hO2 (fun w'' hO3 => ⟨v, xs, rfl, hS, ?_⟩) a ha
    · exact i_val rfl (v_ldo 1 (v := v) rfl rfl rfl (by kernel_rfl)) (i_val rfl v_as (i_nil (fun w' hw => ⟨rfl, hw⟩)))
    · exact (Own.tail hO3).perm (List.perm_append_comm (l₁ := [_]))
theorem collect_vu (b : Nat) (v : Value) (l : List Nat) (w : World) (hl : l.length ≤ 1000000000) (hin : Own w (fps [Res.row b 34 [v], Res.vec 35 1 v l.length (l.flatMap U1)]) [Res.row b 34 [v], Res.vec 35 1 v l.length (l.flatMap U1)] w) : Rets Try.prog 43 #[.func (.func 45) #[] #[.pointer (some ⟨b, 0, none⟩)]] w fun u_ w' => ∃ (v' : Value) (l' : List Nat), u_ = v' ∧ l' = l ∧ Own w (fps [Res.row b 34 [v], Res.vec 35 1 v l.length (l.flatMap U1)]) [Res.row b 34 [v], Res.vec 35 1 v l.length (l.flatMap U1), Res.vec 35 1 v' l'.length (l'.flatMap U1)] w' := by
  refine fn_enter (args := [.func (.func 45) #[] #[.pointer (some ⟨b, 0, none⟩)]]) Try.func43 rfl Try.ntmps43 rfl (show Own w (fps [Res.row b 34 [v], Res.vec 35 1 v l.length (l.flatMap U1)]) [Res.row b 34 [v], Res.vec 35 1 v l.length (l.flatMap U1)] w from hin) ?_
  refine c_reg ?_
  refine l_as rfl ?_
  refine l_end ?_
  refine c_reg ?_
  refine l_mv rfl ?_
  refine l_call (by kernel_rfl) rfl rfl (fun w' hw => ?_)
  refine (appSeq_u 45 [.pointer (some ⟨b, 0, none⟩)] (by kernel_rfl) (valsSeq_u b v l (by first | assumption | omega)) (by omega) w' (hw.give [0, 1] rfl (by decide))).mono ?_
  rintro v1_ w1 ⟨_, xs2_, rfl, hf1_1, hO⟩
  refine (?_ : CL _ _ _ _ _ _ (Own w (fps [Res.row b 34 [v], Res.vec 35 1 v l.length (l.flatMap U1)]) [Res.row b 34 [v], Res.vec 35 1 v l.length (l.flatMap U1), Res.vec 35 1 v1_ xs2_.length (xs2_.flatMap U1)])) w1 (hw.frameL [0, 1] rfl hO)
  refine l_as rfl ?_
  refine l_end ?_
  exact c_ret (ret1 (v := v1_) rfl rfl (fun w' hw => ⟨v1_, xs2_, rfl, hf1_1, hw⟩))
theorem sorted_vu (b : Nat) (v : Value) (l : List Nat) (w : World) (hl : l.length ≤ 1000000000) (hin : Own w (fps [Res.row b 34 [v], Res.vec 35 1 v l.length (l.flatMap U1)]) [Res.row b 34 [v], Res.vec 35 1 v l.length (l.flatMap U1)] w) : Rets Try.prog 31 #[.func (.func 45) #[] #[.pointer (some ⟨b, 0, none⟩)]] w fun u_ w' => ∃ (v' : Value) (l' : List Nat), u_ = v' ∧ l'.Perm l ∧ l'.Pairwise (fun x y => ole x y) ∧ Own w (fps [Res.row b 34 [v], Res.vec 35 1 v l.length (l.flatMap U1)]) [Res.row b 34 [v], Res.vec 35 1 v l.length (l.flatMap U1), Res.vec 35 1 v' l'.length (l'.flatMap U1)] w' := by
  refine fn_enter (args := [.func (.func 45) #[] #[.pointer (some ⟨b, 0, none⟩)]]) Try.func31 rfl Try.ntmps31 rfl (show Own w (fps [Res.row b 34 [v], Res.vec 35 1 v l.length (l.flatMap U1)]) [Res.row b 34 [v], Res.vec 35 1 v l.length (l.flatMap U1)] w from hin) ?_
  refine c_reg ?_
  refine l_as rfl ?_
  refine l_end ?_
  refine c_reg ?_
  refine l_mv rfl ?_
  refine l_call (by kernel_rfl) rfl rfl (fun w' hw => ?_)
  refine (collect_vu b v l w' (by first | assumption | omega | (simp <;> omega) | (constructor <;> (first | omega | (simp only [LenOk]; omega) | (simp <;> omega)))) (hw.give [0, 1] rfl (by decide))).mono ?_
  rintro v'1_ w1 ⟨_, l'2_, rfl, hf1_1, hO⟩
  have hl1 : l'2_.length = l.length := by rw [hf1_1]
  refine (?_ : CL _ _ _ _ _ _ (Own w (fps [Res.row b 34 [v], Res.vec 35 1 v l.length (l.flatMap U1)]) [Res.row b 34 [v], Res.vec 35 1 v l.length (l.flatMap U1), Res.vec 35 1 v'1_ l'2_.length (l'2_.flatMap U1)])) w1 (hw.frameL [0, 1] rfl hO)
  refine l_as rfl ?_
  refine l_end ?_
  refine c_reg ?_
  refine l_mv rfl ?_
  refine l_call (by kernel_rfl) rfl rfl (fun w' hw => ?_)
  refine (sort_u v'1_ l'2_ w' (by first | assumption | omega | (simp <;> omega) | (constructor <;> (first | omega | (simp only [LenOk]; omega) | (simp <;> omega)))) (hw.give [2] rfl (by decide))).mono ?_
  rintro _ w1 ⟨l'3_, rfl, hf2_1, hf2_1_1, hO⟩
  refine (?_ : CL _ _ _ _ _ _ (Own w (fps [Res.row b 34 [v], Res.vec 35 1 v l.length (l.flatMap U1)]) [Res.row b 34 [v], Res.vec 35 1 v l.length (l.flatMap U1), Res.vec 35 1 v'1_ l'3_.length (l'3_.flatMap U1)])) w1 (hw.frameL [2] rfl hO)
  refine l_end ?_
  refine c_reg ?_
  refine l_mv rfl ?_
  refine l_as rfl ?_
  refine l_end ?_
  exact c_ret (ret1 (v := v'1_) rfl rfl (fun w' hw => ⟨v'1_, l'3_, rfl, (by rw [← hf1_1]; exact hf2_1), hf2_1_1, hw⟩))
end Go.Proofs.Ytniiobmkcbeknaa
