/-
  THE WALKS OF the library's sort, over numbers of 64 bits.
-/
import Derived.Test.YthincafbmpialaaGreatFwU
import Derived.Test.YthincafbmpialaaGreatSrtB
import Derived.Test.YthincafbmpialaaGreatChecked
set_option linter.unusedVariables false
set_option maxRecDepth 10000
namespace Go.Proofs.YthincafbmpialaaGreat
open Go Go.Sc Go.Proofs

theorem nan_u (x : Nat) (w : World) : Rets Tryz.prog 120 #[Vn x] w fun u_ w' => u_ = .bool false ∧ Own w [] [] w' := by
  refine fn_own Tryz.func120 rfl Tryz.ntmps120 (Own.start w) ?_
  refine c_reg (l_as rfl (l_end (c_reg (l_mv rfl (l_mv rfl (l_ne rfl rfl rfl (l_as rfl (l_end ?_))))))))
  exact c_ret (ret1 (v := .bool (decide (((x : Nat) : Int) ≠ ((x : Nat) : Int)))) rfl rfl (fun w' hw => ⟨(by simp), hw.drop⟩))
theorem less_u (x y : Nat) (w : World) : Rets Tryz.prog 147 #[Vn x, Vn y] w fun u_ w' => u_ = .bool (decide (olt x y)) ∧ Own w [] [] w' := by
  refine fn_own Tryz.func147 rfl Tryz.ntmps147 (Own.start w) ?_
  refine c_reg (l_as rfl (l_end (c_reg (l_mv rfl (a_call rfl rfl (fun w' hw => (nan_u x w').mono ?_))))))
  rintro _ w1 ⟨rfl, hO⟩
  refine (?_ : CL _ _ _ _ _ _ (Own w [] [])) w1 (hw.frame0 hO)
  refine l_mv rfl (l_off rfl rfl rfl rfl (l_off rfl rfl rfl rfl (l_off rfl rfl rfl rfl (l_pickF rfl rfl (l_mv rfl (l_on rfl rfl (l_mv rfl (l_on rfl rfl (l_mv rfl (l_on rfl rfl (l_lss rfl rfl rfl (l_pickF rfl rfl ?_))))))))))))
  refine l_as rfl (l_end ?_)
  exact c_ret (ret1 (v := .bool (decide (((x : Nat) : Int) < ((y : Nat) : Int)))) rfl rfl (fun w' hw => ⟨(by congr 1; exact decide_eq_decide.2 (Int.ofNat_lt)), hw.drop⟩))
theorem revRange_u {S : List Nat} (v : Value) (l : List Nat) (a b : Nat) (w : World) (ha : a ≤ b) (hb : b ≤ l.length) (hl : LenOk l.length) (hin : Own w S [Res.vec 28 1 v l.length (l.flatMap U1)] w) : Rets Tryz.prog 145 #[v, Vj a, Vj b] w fun u_ w' => ∃ (l' : List Nat), u_ = .tuple #[] ∧ Same a b l l' ∧ Own w S [Res.vec 28 1 v l'.length (l'.flatMap U1)] w' := by
  refine fn_own Tryz.func145 rfl Tryz.ntmps145 hin ?_
  refine c_reg (l_mv rfl (l_as rfl (l_end (c_reg (l_mv rfl (l_sub rfl rfl (wi64 (by omega)) rfl (l_as rfl (l_end (c_block ?_)))))))))
  refine c_loop3 (fun (i j : Nat) (m : List Nat) => [(0, v), (6, Vj i), (7, Vi (((j : Nat) : Int) - 1))]) (fun (i j : Nat) (m : List Nat) => (a ≤ i ∧ j ≤ b) ∧ Same a b l m) (fun (i j : Nat) (m : List Nat) => [Res.vec 28 1 v m.length (m.flatMap U1)]) (fun (i j : Nat) (m : List Nat) => j - i) (fun w' hw => ⟨a, b, l, ⟨rfl, rfl, rfl, trivial⟩, ⟨⟨Nat.le_refl _, Nat.le_refl _⟩, Same.refl _ _ _⟩, hw⟩) (fun i j m g hΦ => ?_)
  have hml := hΦ.2.len
  have hSm := hΦ.2
  have hij := hΦ.1
  refine c_seq (c_reg (l_mv rfl (l_mv rfl (l_lss rfl rfl rfl (l_end (c_dec rfl (fun c1 => ?_) (fun c1 => ?_)))))))
  ·
   refine c_skipC (c_block (c_cut1 (fun (n : List Nat) => [(0, v), (6, Vj i), (7, Vi (((j : Nat) : Int) - 1))]) (fun (n : List Nat) => n = swp m i (j - 1)) (fun (n : List Nat) => [Res.vec 28 1 v n.length (n.flatMap U1)]) ?_ (fun n g hΦ => ?_)))
   ·
    refine c_heldo [] rfl (by decide) (by kernel_rfl) (fun w' hw hS => g_tk 0 rfl (v_mv) hS (g_tk 1 rfl (v_mv) hS (g_tk 2 rfl (v_mv) hS (g_tk 3 rfl (v_mv) hS (g_tk 4 rfl (v_mv) hS (g_tk 5 rfl (v_mv) hS (g_tk 8 rfl (v_mv) hS (g_tk 9 rfl (v_mv) hS (g_pick2 6 10 ?_ ?_)))))))))
    ·
     refine pk_of 6 rfl hw (a_idxP (pV 0 rfl) 1 (j - 1) rfl rfl (by omega) (by omega) rfl (l_nilH [] rfl (by decide) (fun w' hw hS => g_pick2 7 10 ?_ ?_)))
     ·
      refine pk_of 7 rfl hw (a_ldP (pV 0 rfl) 1 (j - 1) 0 (fun _ => rfl) rfl rfl (by omega) rfl rfl (l_nx 10 rfl (a_idxP (pV 0 rfl) 1 i rfl rfl rfl (by omega) rfl (l_nx 11 rfl (a_ldP (pV 0 rfl) 1 i 0 (fun _ => rfl) rfl rfl (by omega) rfl rfl (l_nx 12 rfl (a_idxP (pV 0 rfl) 1 i rfl rfl rfl (by omega) rfl (l_nx 13 rfl ?_))))))))
      refine a_stE 0 i (nth m (j - 1)) rfl (fun _ => rfl) rfl (by omega) rfl rfl rfl (by omega) (l_nx 14 rfl (a_idxP (pV 0 rfl) 1 (j - 1) rfl rfl (by omega) (by simp; omega) rfl (l_nx 15 rfl (a_stE 0 (j - 1) (nth m i) rfl (fun _ => rfl) rfl (by omega) rfl rfl rfl (by simp; omega) (l_nilH [] rfl (by decide) (fun w' hw hS => g_done ?_))))))
      exact ⟨swp m i (j - 1), ⟨rfl, rfl, rfl, trivial⟩, rfl, hw⟩
     ·
      refine pk_of 10 rfl hw (a_idxP (pV 0 rfl) 1 i rfl rfl rfl (by omega) rfl (l_nilH [] rfl (by decide) (fun w' hw hS => g_pick2 7 11 ?_ ?_)))
      ·
       refine pk_of 7 rfl hw (a_ldP (pV 0 rfl) 1 (j - 1) 0 (fun _ => rfl) rfl rfl (by omega) rfl rfl (l_nx 11 rfl (a_ldP (pV 0 rfl) 1 i 0 (fun _ => rfl) rfl rfl (by omega) rfl rfl (l_nx 12 rfl (a_idxP (pV 0 rfl) 1 i rfl rfl rfl (by omega) rfl (l_nx 13 rfl (a_stE 0 i (nth m (j - 1)) rfl (fun _ => rfl) rfl (by omega) rfl rfl rfl (by omega) (l_nx 14 rfl ?_))))))))
       refine a_idxP (pV 0 rfl) 1 (j - 1) rfl rfl (by omega) (by simp; omega) rfl (l_nx 15 rfl (a_stE 0 (j - 1) (nth m i) rfl (fun _ => rfl) rfl (by omega) rfl rfl rfl (by simp; omega) (l_nilH [] rfl (by decide) (fun w' hw hS => g_done ?_))))
       exact ⟨swp m i (j - 1), ⟨rfl, rfl, rfl, trivial⟩, rfl, hw⟩
      ·
       refine pk_of 11 rfl hw (a_ldP (pV 0 rfl) 1 i 0 (fun _ => rfl) rfl rfl (by omega) rfl rfl (l_nx 7 rfl (a_ldP (pV 0 rfl) 1 (j - 1) 0 (fun _ => rfl) rfl rfl (by omega) rfl rfl (l_nx 12 rfl (a_idxP (pV 0 rfl) 1 i rfl rfl rfl (by omega) rfl (l_nx 13 rfl (a_stE 0 i (nth m (j - 1)) rfl (fun _ => rfl) rfl (by omega) rfl rfl rfl (by omega) (l_nx 14 rfl ?_))))))))
       refine a_idxP (pV 0 rfl) 1 (j - 1) rfl rfl (by omega) (by simp; omega) rfl (l_nx 15 rfl (a_stE 0 (j - 1) (nth m i) rfl (fun _ => rfl) rfl (by omega) rfl rfl rfl (by simp; omega) (l_nilH [] rfl (by decide) (fun w' hw hS => g_done ?_))))
       exact ⟨swp m i (j - 1), ⟨rfl, rfl, rfl, trivial⟩, rfl, hw⟩
    ·
     refine pk_of 10 rfl hw (a_idxP (pV 0 rfl) 1 i rfl rfl rfl (by omega) rfl (l_nilH [] rfl (by decide) (fun w' hw hS => g_pick2 6 11 ?_ ?_)))
     ·
      refine pk_of 6 rfl hw (a_idxP (pV 0 rfl) 1 (j - 1) rfl rfl (by omega) (by omega) rfl (l_nilH [] rfl (by decide) (fun w' hw hS => g_pick2 7 11 ?_ ?_)))
      ·
       refine pk_of 7 rfl hw (a_ldP (pV 0 rfl) 1 (j - 1) 0 (fun _ => rfl) rfl rfl (by omega) rfl rfl (l_nx 11 rfl (a_ldP (pV 0 rfl) 1 i 0 (fun _ => rfl) rfl rfl (by omega) rfl rfl (l_nx 12 rfl (a_idxP (pV 0 rfl) 1 i rfl rfl rfl (by omega) rfl (l_nx 13 rfl (a_stE 0 i (nth m (j - 1)) rfl (fun _ => rfl) rfl (by omega) rfl rfl rfl (by omega) (l_nx 14 rfl ?_))))))))
       refine a_idxP (pV 0 rfl) 1 (j - 1) rfl rfl (by omega) (by simp; omega) rfl (l_nx 15 rfl (a_stE 0 (j - 1) (nth m i) rfl (fun _ => rfl) rfl (by omega) rfl rfl rfl (by simp; omega) (l_nilH [] rfl (by decide) (fun w' hw hS => g_done ?_))))
       exact ⟨swp m i (j - 1), ⟨rfl, rfl, rfl, trivial⟩, rfl, hw⟩
      ·
       refine pk_of 11 rfl hw (a_ldP (pV 0 rfl) 1 i 0 (fun _ => rfl) rfl rfl (by omega) rfl rfl (l_nx 7 rfl (a_ldP (pV 0 rfl) 1 (j - 1) 0 (fun _ => rfl) rfl rfl (by omega) rfl rfl (l_nx 12 rfl (a_idxP (pV 0 rfl) 1 i rfl rfl rfl (by omega) rfl (l_nx 13 rfl (a_stE 0 i (nth m (j - 1)) rfl (fun _ => rfl) rfl (by omega) rfl rfl rfl (by omega) (l_nx 14 rfl ?_))))))))
       refine a_idxP (pV 0 rfl) 1 (j - 1) rfl rfl (by omega) (by simp; omega) rfl (l_nx 15 rfl (a_stE 0 (j - 1) (nth m i) rfl (fun _ => rfl) rfl (by omega) rfl rfl rfl (by simp; omega) (l_nilH [] rfl (by decide) (fun w' hw hS => g_done ?_))))
       exact ⟨swp m i (j - 1), ⟨rfl, rfl, rfl, trivial⟩, rfl, hw⟩
     ·
      refine pk_of 11 rfl hw (a_ldP (pV 0 rfl) 1 i 0 (fun _ => rfl) rfl rfl (by omega) rfl rfl (l_nx 6 rfl (a_idxP (pV 0 rfl) 1 (j - 1) rfl rfl (by omega) (by omega) rfl (l_nx 7 rfl (a_ldP (pV 0 rfl) 1 (j - 1) 0 (fun _ => rfl) rfl rfl (by omega) rfl rfl (l_nx 12 rfl (a_idxP (pV 0 rfl) 1 i rfl rfl rfl (by omega) rfl (l_nx 13 rfl ?_))))))))
      refine a_stE 0 i (nth m (j - 1)) rfl (fun _ => rfl) rfl (by omega) rfl rfl rfl (by omega) (l_nx 14 rfl (a_idxP (pV 0 rfl) 1 (j - 1) rfl rfl (by omega) (by simp; omega) rfl (l_nx 15 rfl (a_stE 0 (j - 1) (nth m i) rfl (fun _ => rfl) rfl (by omega) rfl rfl rfl (by simp; omega) (l_nilH [] rfl (by decide) (fun w' hw hS => g_done ?_))))))
      exact ⟨swp m i (j - 1), ⟨rfl, rfl, rfl, trivial⟩, rfl, hw⟩
   have hn := hΦ
   refine c_reg (l_mv rfl (l_add rfl rfl (wi64 (by omega)) rfl (l_as rfl (l_end (c_last (l_mv rfl (l_sub rfl rfl (wi64 (by omega)) rfl (l_as rfl ?_))))))))
   exact l_nil (fun w' hw => ⟨i + 1, j - 1, n, ⟨rfl, rfl, vi (by omega), trivial⟩, ⟨⟨by omega, by omega⟩, by rw [hn]; exact hSm.then_swp ⟨by omega, by omega⟩ ⟨by omega, by omega⟩ hb⟩, hw, (by omega)⟩)
  ·
   exact c_exit rfl (ret0 rfl (fun w' hw => ⟨m, rfl, hΦ.2, hw⟩))
theorem insSort_u {S : List Nat} (v : Value) (l : List Nat) (a b : Nat) (w : World) (ha : a ≤ b) (hb : b ≤ l.length) (hl : LenOk l.length) (hin : Own w S [Res.vec 28 1 v l.length (l.flatMap U1)] w) : Rets Tryz.prog 141 #[v, Vj a, Vj b] w fun u_ w' => ∃ (l' : List Nat), u_ = .tuple #[] ∧ Same a b l l' ∧ Up a b l' ∧ Own w S [Res.vec 28 1 v l'.length (l'.flatMap U1)] w' := by
  refine fn_own Tryz.func141 rfl Tryz.ntmps141 hin ?_
  refine c_reg (l_mv rfl (l_add rfl rfl (wi64 (by omega)) rfl (l_as rfl (l_end (c_block ?_)))))
  refine c_loop2 (fun (i : Nat) (m : List Nat) => [(0, v), (1, Vj a), (2, Vj b), (6, Vj i)]) (fun (i : Nat) (m : List Nat) => (a + 1 ≤ i ∧ (i ≤ b ∨ i = a + 1)) ∧ Same a b l m ∧ Up a i m) (fun (i : Nat) (m : List Nat) => [Res.vec 28 1 v m.length (m.flatMap U1)]) (fun (i : Nat) (m : List Nat) => b + 1 - i) (fun w' hw => ⟨a + 1, l, ⟨rfl, rfl, rfl, rfl, trivial⟩, ⟨⟨by omega, .inr rfl⟩, Same.refl _ _ _, Up.one (by omega)⟩, hw⟩) (fun i m g hΦ => ?_)
  have hml := hΦ.2.1.len
  have hi1 := hΦ.1
  have hU := hΦ.2.2
  have hS1 := hΦ.2.1
  refine c_seq (c_reg (l_mv rfl (l_mv rfl (l_lss rfl rfl rfl (l_end (c_dec rfl (fun c1 => ?_) (fun c1 => ?_)))))))
  ·
   refine c_skipC (c_seq (c_block (c_reg (l_mv rfl (l_as rfl (l_end (c_block ?_)))))))
   refine c_loop2 (fun (j : Nat) (q : List Nat) => [(0, v), (1, Vj a), (2, Vj b), (6, Vj i), (7, Vj j)]) (fun (j : Nat) (q : List Nat) => (a ≤ j ∧ j ≤ i) ∧ Same a b l q ∧ Ins a i j q) (fun (j : Nat) (q : List Nat) => [Res.vec 28 1 v q.length (q.flatMap U1)]) (fun (j : Nat) (q : List Nat) => j) (fun w' hw => ⟨i, m, ⟨rfl, rfl, rfl, rfl, rfl, trivial⟩, ⟨⟨by omega, by omega⟩, hS1, Ins.start hU⟩, hw⟩) (fun j q g hΦ => ?_)
   have hql := hΦ.2.1.len
   have hj1 := hΦ.1
   have hS2 := hΦ.2.1
   have hI2 := hΦ.2.2
   refine c_seq (c_seq (c_heldo [0] rfl (by decide) (by kernel_rfl) (fun w' hw hS => g_tk 0 rfl (v_mv) hS (g_tk 1 rfl (v_mv) hS (g_tk 2 rfl (v_gtr rfl rfl) hS (g_tk 3 rfl (v_mv) hS ?_))))))
   by_cases g4_3 : ((a : Nat) : Int) < ((j : Nat) : Int)
   ·
    refine g_tkg 4 rfl rfl (gT g4_3) (v_mv) hS (g_tkg 5 rfl rfl (gT g4_3) (v_mv) hS (g_tkg 6 rfl rfl (gT g4_3) (w_idxP (pV 0 rfl) 1 j rfl rfl rfl (by omega)) hS (g_tkg 7 rfl rfl (gT g4_3) (w_ldP (pV 0 rfl) 1 j 0 (fun _ => rfl) rfl rfl (by omega) rfl) hS (g_tkg 8 rfl rfl (gT g4_3) (v_mv) hS (g_tkg 9 rfl rfl (gT g4_3) (v_mv) hS (g_tkg 10 rfl rfl (gT g4_3) (v_sub (c := ((j - 1 : Nat) : Int)) rfl rfl (wsi1 (by omega) (by omega))) hS (g_tkg 11 rfl rfl (gT g4_3) (w_idxP (pV 0 rfl) 1 (j - 1) rfl rfl rfl (by omega)) hS (g_tkg 12 rfl rfl (gT g4_3) (w_ldP (pV 0 rfl) 1 (j - 1) 0 (fun _ => rfl) rfl rfl (by omega) rfl) hS (g_one 13 rfl hw (l_on rfl (gT g4_3) (a_call rfl rfl (fun w' hw => (less_u (nth q j) (nth q (j - 1)) w').mono ?_))))))))))))
    rintro _ w1 ⟨rfl, hO⟩
    refine (?_ : CL _ _ _ _ _ _ (Own w S [Res.vec 28 1 v q.length (q.flatMap U1)])) w1 (hw.frame0 hO)
    refine l_nilH [0] rfl (by decide) (fun w' hw hS => g_tk 14 rfl (v_pickT (gT g4_3)) hS (g_done ?_))
    refine (?_ : C _ _ _ _ _ _ _ (Own w S [Res.vec 28 1 v q.length (q.flatMap U1)])) _ hw
    refine c_dec rfl (fun c2 => ?_) (fun c2 => ?_)
    ·
     refine c_skipC (c_cut1 (fun (n : List Nat) => [(0, v), (1, Vj a), (2, Vj b), (6, Vj i), (7, Vj j)]) (fun (n : List Nat) => n = swp q j (j - 1)) (fun (n : List Nat) => [Res.vec 28 1 v n.length (n.flatMap U1)]) ?_ (fun n g hΦ => ?_))
     ·
      refine c_block (c_heldo [] rfl (by decide) (by kernel_rfl) (fun w' hw hS => g_tk 0 rfl (v_mv) hS (g_tk 1 rfl (v_mv) hS (g_tk 2 rfl (v_mv) hS (g_tk 3 rfl (v_mv) hS (g_tk 4 rfl (v_sub (c := ((j - 1 : Nat) : Int)) rfl rfl (wsi1 (by omega) (by omega))) hS (g_tk 5 rfl (v_mv) hS (g_tk 6 rfl (v_mv) hS (g_tk 7 rfl (v_sub (c := ((j - 1 : Nat) : Int)) rfl rfl (wsi1 (by omega) (by omega))) hS (g_tk 10 rfl (v_mv) hS (g_tk 11 rfl (v_mv) hS (g_pick2 8 12 ?_ ?_))))))))))))
      ·
       refine pk_of 8 rfl hw (a_idxP (pV 0 rfl) 1 (j - 1) rfl rfl rfl (by omega) rfl (l_nilH [] rfl (by decide) (fun w' hw hS => g_pick2 9 12 ?_ ?_)))
       ·
        refine pk_of 9 rfl hw (a_ldP (pV 0 rfl) 1 (j - 1) 0 (fun _ => rfl) rfl rfl (by omega) rfl rfl (l_nx 12 rfl (a_idxP (pV 0 rfl) 1 j rfl rfl rfl (by omega) rfl (l_nx 13 rfl (a_ldP (pV 0 rfl) 1 j 0 (fun _ => rfl) rfl rfl (by omega) rfl rfl (l_nx 14 rfl (a_idxP (pV 0 rfl) 1 j rfl rfl rfl (by omega) rfl (l_nx 15 rfl ?_))))))))
        refine a_stE 0 j (nth q (j - 1)) rfl (fun _ => rfl) rfl (by omega) rfl rfl rfl (by omega) (l_nx 16 rfl (a_idxP (pV 0 rfl) 1 (j - 1) rfl rfl rfl (by simp only [List.length_set]; omega) rfl (l_nx 17 rfl (a_stE 0 (j - 1) (nth q j) rfl (fun _ => rfl) rfl (by omega) rfl rfl rfl (by simp only [List.length_set]; omega) (l_nilH [] rfl (by decide) (fun w' hw hS => g_done ?_))))))
        exact ⟨swp q j (j - 1), ⟨rfl, rfl, rfl, rfl, rfl, trivial⟩, rfl, hw⟩
       ·
        refine pk_of 12 rfl hw (a_idxP (pV 0 rfl) 1 j rfl rfl rfl (by omega) rfl (l_nilH [] rfl (by decide) (fun w' hw hS => g_pick2 9 13 ?_ ?_)))
        ·
         refine pk_of 9 rfl hw (a_ldP (pV 0 rfl) 1 (j - 1) 0 (fun _ => rfl) rfl rfl (by omega) rfl rfl (l_nx 13 rfl (a_ldP (pV 0 rfl) 1 j 0 (fun _ => rfl) rfl rfl (by omega) rfl rfl (l_nx 14 rfl (a_idxP (pV 0 rfl) 1 j rfl rfl rfl (by omega) rfl (l_nx 15 rfl (a_stE 0 j (nth q (j - 1)) rfl (fun _ => rfl) rfl (by omega) rfl rfl rfl (by omega) (l_nx 16 rfl ?_))))))))
         refine a_idxP (pV 0 rfl) 1 (j - 1) rfl rfl rfl (by simp only [List.length_set]; omega) rfl (l_nx 17 rfl (a_stE 0 (j - 1) (nth q j) rfl (fun _ => rfl) rfl (by omega) rfl rfl rfl (by simp only [List.length_set]; omega) (l_nilH [] rfl (by decide) (fun w' hw hS => g_done ?_))))
         exact ⟨swp q j (j - 1), ⟨rfl, rfl, rfl, rfl, rfl, trivial⟩, rfl, hw⟩
        ·
         refine pk_of 13 rfl hw (a_ldP (pV 0 rfl) 1 j 0 (fun _ => rfl) rfl rfl (by omega) rfl rfl (l_nx 9 rfl (a_ldP (pV 0 rfl) 1 (j - 1) 0 (fun _ => rfl) rfl rfl (by omega) rfl rfl (l_nx 14 rfl (a_idxP (pV 0 rfl) 1 j rfl rfl rfl (by omega) rfl (l_nx 15 rfl (a_stE 0 j (nth q (j - 1)) rfl (fun _ => rfl) rfl (by omega) rfl rfl rfl (by omega) (l_nx 16 rfl ?_))))))))
         refine a_idxP (pV 0 rfl) 1 (j - 1) rfl rfl rfl (by simp only [List.length_set]; omega) rfl (l_nx 17 rfl (a_stE 0 (j - 1) (nth q j) rfl (fun _ => rfl) rfl (by omega) rfl rfl rfl (by simp only [List.length_set]; omega) (l_nilH [] rfl (by decide) (fun w' hw hS => g_done ?_))))
         exact ⟨swp q j (j - 1), ⟨rfl, rfl, rfl, rfl, rfl, trivial⟩, rfl, hw⟩
      ·
       refine pk_of 12 rfl hw (a_idxP (pV 0 rfl) 1 j rfl rfl rfl (by omega) rfl (l_nilH [] rfl (by decide) (fun w' hw hS => g_pick2 8 13 ?_ ?_)))
       ·
        refine pk_of 8 rfl hw (a_idxP (pV 0 rfl) 1 (j - 1) rfl rfl rfl (by omega) rfl (l_nilH [] rfl (by decide) (fun w' hw hS => g_pick2 9 13 ?_ ?_)))
        ·
         refine pk_of 9 rfl hw (a_ldP (pV 0 rfl) 1 (j - 1) 0 (fun _ => rfl) rfl rfl (by omega) rfl rfl (l_nx 13 rfl (a_ldP (pV 0 rfl) 1 j 0 (fun _ => rfl) rfl rfl (by omega) rfl rfl (l_nx 14 rfl (a_idxP (pV 0 rfl) 1 j rfl rfl rfl (by omega) rfl (l_nx 15 rfl (a_stE 0 j (nth q (j - 1)) rfl (fun _ => rfl) rfl (by omega) rfl rfl rfl (by omega) (l_nx 16 rfl ?_))))))))
         refine a_idxP (pV 0 rfl) 1 (j - 1) rfl rfl rfl (by simp only [List.length_set]; omega) rfl (l_nx 17 rfl (a_stE 0 (j - 1) (nth q j) rfl (fun _ => rfl) rfl (by omega) rfl rfl rfl (by simp only [List.length_set]; omega) (l_nilH [] rfl (by decide) (fun w' hw hS => g_done ?_))))
         exact ⟨swp q j (j - 1), ⟨rfl, rfl, rfl, rfl, rfl, trivial⟩, rfl, hw⟩
        ·
         refine pk_of 13 rfl hw (a_ldP (pV 0 rfl) 1 j 0 (fun _ => rfl) rfl rfl (by omega) rfl rfl (l_nx 9 rfl (a_ldP (pV 0 rfl) 1 (j - 1) 0 (fun _ => rfl) rfl rfl (by omega) rfl rfl (l_nx 14 rfl (a_idxP (pV 0 rfl) 1 j rfl rfl rfl (by omega) rfl (l_nx 15 rfl (a_stE 0 j (nth q (j - 1)) rfl (fun _ => rfl) rfl (by omega) rfl rfl rfl (by omega) (l_nx 16 rfl ?_))))))))
         refine a_idxP (pV 0 rfl) 1 (j - 1) rfl rfl rfl (by simp only [List.length_set]; omega) rfl (l_nx 17 rfl (a_stE 0 (j - 1) (nth q j) rfl (fun _ => rfl) rfl (by omega) rfl rfl rfl (by simp only [List.length_set]; omega) (l_nilH [] rfl (by decide) (fun w' hw hS => g_done ?_))))
         exact ⟨swp q j (j - 1), ⟨rfl, rfl, rfl, rfl, rfl, trivial⟩, rfl, hw⟩
       ·
        refine pk_of 13 rfl hw (a_ldP (pV 0 rfl) 1 j 0 (fun _ => rfl) rfl rfl (by omega) rfl rfl (l_nx 8 rfl (a_idxP (pV 0 rfl) 1 (j - 1) rfl rfl rfl (by omega) rfl (l_nx 9 rfl (a_ldP (pV 0 rfl) 1 (j - 1) 0 (fun _ => rfl) rfl rfl (by omega) rfl rfl (l_nx 14 rfl (a_idxP (pV 0 rfl) 1 j rfl rfl rfl (by omega) rfl (l_nx 15 rfl ?_))))))))
        refine a_stE 0 j (nth q (j - 1)) rfl (fun _ => rfl) rfl (by omega) rfl rfl rfl (by omega) (l_nx 16 rfl (a_idxP (pV 0 rfl) 1 (j - 1) rfl rfl rfl (by simp only [List.length_set]; omega) rfl (l_nx 17 rfl (a_stE 0 (j - 1) (nth q j) rfl (fun _ => rfl) rfl (by omega) rfl rfl rfl (by simp only [List.length_set]; omega) (l_nilH [] rfl (by decide) (fun w' hw hS => g_done ?_))))))
        exact ⟨swp q j (j - 1), ⟨rfl, rfl, rfl, rfl, rfl, trivial⟩, rfl, hw⟩
     have hn := hΦ
     refine c_last (l_mv rfl (l_sub (c := ((j - 1 : Nat) : Int)) rfl rfl (wsi1 (by omega) (by omega)) rfl (l_as rfl ?_)))
     exact l_nil (fun w' hw => ⟨j - 1, n, ⟨rfl, rfl, rfl, rfl, rfl, trivial⟩, ⟨⟨by omega, by omega⟩, by rw [hn]; exact hS2.then_swp ⟨by omega, by omega⟩ ⟨by omega, by omega⟩ hb, by rw [hn]; exact hI2.step (by omega) (by omega) (by omega) c2⟩, hw, (by omega)⟩)
    ·
     refine c_exitC rfl (c_last (l_mv rfl (l_add rfl rfl (wi64 (by omega)) rfl (l_as rfl ?_))))
     exact l_nil (fun w' hw => ⟨i + 1, q, ⟨rfl, rfl, rfl, rfl, trivial⟩, ⟨⟨by omega, .inl (by omega)⟩, hS2, hI2.done (fun _ => c2)⟩, hw, (by omega)⟩)
   ·
    refine g_ofg 4 rfl rfl (gF g4_3) rfl hS (g_ofg 5 rfl rfl (gF g4_3) rfl hS (g_ofg 6 rfl rfl (gF g4_3) rfl hS (g_ofg 7 rfl rfl (gF g4_3) rfl hS (g_ofg 8 rfl rfl (gF g4_3) rfl hS (g_ofg 9 rfl rfl (gF g4_3) rfl hS (g_ofg 10 rfl rfl (gF g4_3) rfl hS (g_ofg 11 rfl rfl (gF g4_3) rfl hS (g_ofg 12 rfl rfl (gF g4_3) rfl hS (g_ofg 13 rfl rfl (gF g4_3) rfl hS (g_tk 14 rfl (v_pickF (gF g4_3)) hS (g_done ?_)))))))))))
    refine (?_ : C _ _ _ _ _ _ _ (Own w S [Res.vec 28 1 v q.length (q.flatMap U1)])) _ hw
    refine c_no rfl (c_exitC rfl (c_last (l_mv rfl (l_add rfl rfl (wi64 (by omega)) rfl (l_as rfl ?_)))))
    exact l_nil (fun w' hw => ⟨i + 1, q, ⟨rfl, rfl, rfl, rfl, trivial⟩, ⟨⟨by omega, .inl (by omega)⟩, hS2, hI2.done (fun h => absurd h (by omega))⟩, hw, (by omega)⟩)
  ·
   exact c_exit rfl (ret0 rfl (fun w' hw => ⟨m, rfl, hS1, (fun k h1 h2 => hU k h1 (by omega)), hw⟩))
theorem sift_u {S : List Nat} (v : Value) (l : List Nat) (lo hi : Int) (f : Nat) (w : World) (hh : f + hi.toNat ≤ l.length) (hlo : 0 ≤ lo ∧ lo ≤ hi) (hl : LenOk l.length) (hp : Hp (lo.toNat + 1) hi.toNat f l) (hin : Own w S [Res.vec 28 1 v l.length (l.flatMap U1)] w) : Rets Tryz.prog 182 #[v, Vi lo, Vi hi, Vj f] w fun u_ w' => ∃ (l' : List Nat), u_ = .tuple #[] ∧ Same (f + lo.toNat) (f + hi.toNat) l l' ∧ Hp lo.toNat hi.toNat f l' ∧ Own w S [Res.vec 28 1 v l'.length (l'.flatMap U1)] w' := by
  obtain ⟨lo, rfl⟩ : ∃ n : Nat, lo = n := ⟨lo.toNat, by omega⟩
  obtain ⟨hi, rfl⟩ : ∃ n : Nat, hi = n := ⟨hi.toNat, by omega⟩
  simp only [Int.toNat_natCast] at hh hp ⊢
  have hlo := Int.ofNat_le.1 hlo.2
  refine fn_own Tryz.func182 rfl Tryz.ntmps182 hin ?_
  refine c_reg (l_mv rfl (l_as rfl (l_end (c_block ?_))))
  refine c_loop2 (fun (r : Nat) (m : List Nat) => [(0, v), (2, Vi hi), (3, Vj f), (8, Vj r)]) (fun (r : Nat) (m : List Nat) => (lo ≤ r ∧ r ≤ hi) ∧ Same (f + lo) (f + hi) l m ∧ HpX lo hi f r m) (fun (r : Nat) (m : List Nat) => [Res.vec 28 1 v m.length (m.flatMap U1)]) (fun (r : Nat) (m : List Nat) => hi - r) (fun w' hw => ⟨lo, l, ⟨rfl, rfl, rfl, rfl, trivial⟩, ⟨⟨Nat.le_refl _, hlo⟩, Same.refl _ _ _, HpX.start hp⟩, hw⟩) (fun r m g hΦ => ?_)
  have hml := hΦ.2.1.len
  have hr := hΦ.1
  have hSm := hΦ.2.1
  have hX := hΦ.2.2
  refine c_block (c_reg (l_mv rfl (l_mul rfl rfl (wi64 (by omega)) rfl (l_add rfl rfl (wi64 (by omega)) rfl (l_as rfl (l_end (c_seq (c_reg (l_mv rfl (l_mv rfl (l_geq rfl rfl rfl (l_end ?_))))))))))))
  refine c_dec rfl (fun c1 => ?_) (fun c1 => ?_)
  ·
   exact c_exit rfl (ret0 rfl (fun w' hw => ⟨m, rfl, hSm, hX.done (fun c h1 h2 => by omega), hw⟩))
  ·
   refine c_skipC (c_cut1 (fun (c : Nat) => [(0, v), (2, Vi hi), (3, Vj f), (8, Vj r), (9, Vj c)]) (fun (c : Nat) => ((c = 2 * r + 1 ∨ c = 2 * r + 2) ∧ c < hi) ∧ ∀ c', c' = 2 * r + 1 ∨ c' = 2 * r + 2 → c' < hi → ole (nth m (f + c')) (nth m (f + c))) (fun (c : Nat) => [Res.vec 28 1 v m.length (m.flatMap U1)]) ?_ (fun c g hΦ => ?_))
   ·
    refine c_seq (c_heldo [0] rfl (by decide) (by kernel_rfl) (fun w' hw hS => g_tk 0 rfl (v_mv) hS (g_tk 1 rfl (v_add rfl rfl (wi64 (by omega))) hS (g_tk 2 rfl (v_mv) hS (g_tk 3 rfl (v_lss rfl rfl) hS (g_tk 4 rfl (v_mv) hS ?_))))))
    by_cases g3_4 : ((((2 * r) + 1) + 1 : Nat) : Int) < hi
    ·
     refine g_tkg 5 rfl rfl (gT g3_4) (v_mv) hS (g_tkg 6 rfl rfl (gT g3_4) (v_mv) hS (g_tkg 7 rfl rfl (gT g3_4) (v_mv) hS (g_tkg 8 rfl rfl (gT g3_4) (v_add rfl rfl (wi64 (by omega))) hS (g_tkg 9 rfl rfl (gT g3_4) (w_idxP (pV 0 rfl) 1 (f + ((2 * r) + 1)) rfl rfl rfl (by omega)) hS (g_tkg 10 rfl rfl (gT g3_4) (w_ldP (pV 0 rfl) 1 (f + ((2 * r) + 1)) 0 (fun _ => rfl) rfl rfl (by omega) rfl) hS (g_tkg 11 rfl rfl (gT g3_4) (v_mv) hS (g_tkg 12 rfl rfl (gT g3_4) (v_mv) hS (g_tkg 13 rfl rfl (gT g3_4) (v_mv) hS (g_tkg 14 rfl rfl (gT g3_4) (v_add rfl rfl (wi64 (by omega))) hS (g_tkg 15 rfl rfl (gT g3_4) (v_add rfl rfl (wi64 (by omega))) hS (g_tkg 16 rfl rfl (gT g3_4) (w_idxP (pV 0 rfl) 1 ((f + ((2 * r) + 1)) + 1) rfl rfl rfl (by omega)) hS (g_tkg 17 rfl rfl (gT g3_4) (w_ldP (pV 0 rfl) 1 ((f + ((2 * r) + 1)) + 1) 0 (fun _ => rfl) rfl rfl (by omega) rfl) hS ?_))))))))))))
     refine g_one 18 rfl hw (l_on rfl (gT g3_4) (a_call rfl rfl (fun w' hw => (less_u (nth m (f + ((2 * r) + 1))) (nth m ((f + ((2 * r) + 1)) + 1)) w').mono ?_)))
     rintro _ w1 ⟨rfl, hO⟩
     refine (?_ : CL _ _ _ _ _ _ (Own w S [Res.vec 28 1 v m.length (m.flatMap U1)])) w1 (hw.frame0 hO)
     refine l_nilH [0] rfl (by decide) (fun w' hw hS => g_tk 19 rfl (v_pickT (gT g3_4)) hS (g_done ?_))
     refine (?_ : C _ _ _ _ _ _ _ (Own w S [Res.vec 28 1 v m.length (m.flatMap U1)])) _ hw
     refine c_dec rfl (fun c2 => ?_) (fun c2 => ?_)
     ·
      refine c_last (l_mv rfl (l_add rfl rfl (wi64 (by omega)) rfl (l_as rfl ?_)))
      exact l_nil (fun w' hw => ⟨2 * r + 1 + 1, ⟨rfl, rfl, rfl, rfl, rfl, trivial⟩, ⟨⟨by omega, by omega⟩, max_hi c2⟩, hw⟩)
     ·
      exact c_skip (fun w' hw => ⟨2 * r + 1, ⟨rfl, rfl, rfl, rfl, rfl, trivial⟩, ⟨⟨by omega, by omega⟩, max_lo (fun _ => c2)⟩, hw⟩)
    ·
     refine g_ofg 5 rfl rfl (gF g3_4) rfl hS (g_ofg 6 rfl rfl (gF g3_4) rfl hS (g_ofg 7 rfl rfl (gF g3_4) rfl hS (g_ofg 8 rfl rfl (gF g3_4) rfl hS (g_ofg 9 rfl rfl (gF g3_4) rfl hS (g_ofg 10 rfl rfl (gF g3_4) rfl hS (g_ofg 11 rfl rfl (gF g3_4) rfl hS (g_ofg 12 rfl rfl (gF g3_4) rfl hS (g_ofg 13 rfl rfl (gF g3_4) rfl hS (g_ofg 14 rfl rfl (gF g3_4) rfl hS (g_ofg 15 rfl rfl (gF g3_4) rfl hS (g_ofg 16 rfl rfl (gF g3_4) rfl hS (g_ofg 17 rfl rfl (gF g3_4) rfl hS ?_))))))))))))
     refine g_ofg 18 rfl rfl (gF g3_4) rfl hS (g_tk 19 rfl (v_pickF (gF g3_4)) hS (g_done ?_))
     refine (?_ : C _ _ _ _ _ _ _ (Own w S [Res.vec 28 1 v m.length (m.flatMap U1)])) _ hw
     refine c_no rfl ?_
     exact c_skip (fun w' hw => ⟨2 * r + 1, ⟨rfl, rfl, rfl, rfl, rfl, trivial⟩, ⟨⟨by omega, by omega⟩, max_lo (fun h => absurd h (by omega))⟩, hw⟩)
   have hc := hΦ.1
   have hmx := hΦ.2
   refine c_seq (c_seq (c_heldo [0] rfl (by decide) (by kernel_rfl) (fun w' hw hS => g_tk 0 rfl (v_mv) hS (g_tk 1 rfl (v_mv) hS (g_tk 2 rfl (v_mv) hS (g_tk 3 rfl (v_add rfl rfl (wi64 (by omega))) hS (g_tk 4 rfl (w_idxP (pV 0 rfl) 1 (f + r) rfl rfl rfl (by omega)) hS (g_tk 5 rfl (w_ldP (pV 0 rfl) 1 (f + r) 0 (fun _ => rfl) rfl rfl (by omega) rfl) hS (g_tk 6 rfl (v_mv) hS (g_tk 7 rfl (v_mv) hS (g_tk 8 rfl (v_mv) hS (g_tk 9 rfl (v_add rfl rfl (wi64 (by omega))) hS ?_))))))))))))
   refine g_tk 10 rfl (w_idxP (pV 0 rfl) 1 (f + c) rfl rfl rfl (by omega)) hS (g_tk 11 rfl (w_ldP (pV 0 rfl) 1 (f + c) 0 (fun _ => rfl) rfl rfl (by omega) rfl) hS (g_one 12 rfl hw (a_call rfl rfl (fun w' hw => (less_u (nth m (f + r)) (nth m (f + c)) w').mono ?_))))
   rintro _ w1 ⟨rfl, hO⟩
   refine (?_ : CL _ _ _ _ _ _ (Own w S [Res.vec 28 1 v m.length (m.flatMap U1)])) w1 (hw.frame0 hO)
   refine l_nilH [0] rfl (by decide) (fun w' hw hS => g_tk 13 rfl (v_notp (q := olt (nth m (f + r)) (nth m (f + c))) rfl) hS (g_done ?_))
   refine (?_ : C _ _ _ _ _ _ _ (Own w S [Res.vec 28 1 v m.length (m.flatMap U1)])) _ hw
   refine c_dec rfl (fun c4 => ?_) (fun c4 => ?_)
   ·
    exact c_ret (ret0 rfl (fun w' hw => ⟨m, rfl, hSm, hX.done (fun c' h1 h2 => ole_trans (hmx c' h1 h2) c4), hw⟩))
   ·
    refine c_skipC (c_cut1 (fun (n : List Nat) => [(0, v), (2, Vi hi), (3, Vj f), (9, Vj c)]) (fun (n : List Nat) => n = swp m (f + r) (f + c)) (fun (n : List Nat) => [Res.vec 28 1 v n.length (n.flatMap U1)]) ?_ (fun n g hΦ => ?_))
    ·
     refine c_heldo [] rfl (by decide) (by kernel_rfl) (fun w' hw hS => g_tk 0 rfl (v_mv) hS (g_tk 1 rfl (v_mv) hS (g_tk 2 rfl (v_mv) hS (g_tk 3 rfl (v_add rfl rfl (wi64 (by omega))) hS (g_tk 4 rfl (v_mv) hS (g_tk 5 rfl (v_mv) hS (g_tk 6 rfl (v_mv) hS (g_tk 7 rfl (v_add rfl rfl (wi64 (by omega))) hS (g_tk 8 rfl (v_mv) hS (g_tk 9 rfl (v_mv) hS (g_tk 10 rfl (v_mv) hS (g_tk 11 rfl (v_add rfl rfl (wi64 (by omega))) hS ?_))))))))))))
     refine g_tk 14 rfl (v_mv) hS (g_tk 15 rfl (v_mv) hS (g_tk 16 rfl (v_mv) hS (g_tk 17 rfl (v_add rfl rfl (wi64 (by omega))) hS (g_pick2 12 18 ?_ ?_))))
     ·
      refine pk_of 12 rfl hw (a_idxP (pV 0 rfl) 1 (f + c) rfl rfl rfl (by omega) rfl (l_nilH [] rfl (by decide) (fun w' hw hS => g_pick2 13 18 ?_ ?_)))
      ·
       refine pk_of 13 rfl hw (a_ldP (pV 0 rfl) 1 (f + c) 0 (fun _ => rfl) rfl rfl (by omega) rfl rfl (l_nx 18 rfl (a_idxP (pV 0 rfl) 1 (f + r) rfl rfl rfl (by omega) rfl (l_nx 19 rfl (a_ldP (pV 0 rfl) 1 (f + r) 0 (fun _ => rfl) rfl rfl (by omega) rfl rfl (l_nx 20 rfl (a_idxP (pV 0 rfl) 1 (f + r) rfl rfl rfl (by omega) rfl (l_nx 21 rfl ?_))))))))
       refine a_stE 0 (f + r) (nth m (f + c)) rfl (fun _ => rfl) rfl (by omega) rfl rfl rfl (by omega) (l_nx 22 rfl (a_idxP (pV 0 rfl) 1 (f + c) rfl rfl rfl (by simp only [List.length_set]; omega) rfl (l_nx 23 rfl (a_stE 0 (f + c) (nth m (f + r)) rfl (fun _ => rfl) rfl (by omega) rfl rfl rfl (by simp only [List.length_set]; omega) (l_nilH [] rfl (by decide) (fun w' hw hS => g_done ?_))))))
       exact ⟨swp m (f + r) (f + c), ⟨rfl, rfl, rfl, rfl, trivial⟩, rfl, hw⟩
      ·
       refine pk_of 18 rfl hw (a_idxP (pV 0 rfl) 1 (f + r) rfl rfl rfl (by omega) rfl (l_nilH [] rfl (by decide) (fun w' hw hS => g_pick2 13 19 ?_ ?_)))
       ·
        refine pk_of 13 rfl hw (a_ldP (pV 0 rfl) 1 (f + c) 0 (fun _ => rfl) rfl rfl (by omega) rfl rfl (l_nx 19 rfl (a_ldP (pV 0 rfl) 1 (f + r) 0 (fun _ => rfl) rfl rfl (by omega) rfl rfl (l_nx 20 rfl (a_idxP (pV 0 rfl) 1 (f + r) rfl rfl rfl (by omega) rfl (l_nx 21 rfl (a_stE 0 (f + r) (nth m (f + c)) rfl (fun _ => rfl) rfl (by omega) rfl rfl rfl (by omega) (l_nx 22 rfl ?_))))))))
        refine a_idxP (pV 0 rfl) 1 (f + c) rfl rfl rfl (by simp only [List.length_set]; omega) rfl (l_nx 23 rfl (a_stE 0 (f + c) (nth m (f + r)) rfl (fun _ => rfl) rfl (by omega) rfl rfl rfl (by simp only [List.length_set]; omega) (l_nilH [] rfl (by decide) (fun w' hw hS => g_done ?_))))
        exact ⟨swp m (f + r) (f + c), ⟨rfl, rfl, rfl, rfl, trivial⟩, rfl, hw⟩
       ·
        refine pk_of 19 rfl hw (a_ldP (pV 0 rfl) 1 (f + r) 0 (fun _ => rfl) rfl rfl (by omega) rfl rfl (l_nx 13 rfl (a_ldP (pV 0 rfl) 1 (f + c) 0 (fun _ => rfl) rfl rfl (by omega) rfl rfl (l_nx 20 rfl (a_idxP (pV 0 rfl) 1 (f + r) rfl rfl rfl (by omega) rfl (l_nx 21 rfl (a_stE 0 (f + r) (nth m (f + c)) rfl (fun _ => rfl) rfl (by omega) rfl rfl rfl (by omega) (l_nx 22 rfl ?_))))))))
        refine a_idxP (pV 0 rfl) 1 (f + c) rfl rfl rfl (by simp only [List.length_set]; omega) rfl (l_nx 23 rfl (a_stE 0 (f + c) (nth m (f + r)) rfl (fun _ => rfl) rfl (by omega) rfl rfl rfl (by simp only [List.length_set]; omega) (l_nilH [] rfl (by decide) (fun w' hw hS => g_done ?_))))
        exact ⟨swp m (f + r) (f + c), ⟨rfl, rfl, rfl, rfl, trivial⟩, rfl, hw⟩
     ·
      refine pk_of 18 rfl hw (a_idxP (pV 0 rfl) 1 (f + r) rfl rfl rfl (by omega) rfl (l_nilH [] rfl (by decide) (fun w' hw hS => g_pick2 12 19 ?_ ?_)))
      ·
       refine pk_of 12 rfl hw (a_idxP (pV 0 rfl) 1 (f + c) rfl rfl rfl (by omega) rfl (l_nilH [] rfl (by decide) (fun w' hw hS => g_pick2 13 19 ?_ ?_)))
       ·
        refine pk_of 13 rfl hw (a_ldP (pV 0 rfl) 1 (f + c) 0 (fun _ => rfl) rfl rfl (by omega) rfl rfl (l_nx 19 rfl (a_ldP (pV 0 rfl) 1 (f + r) 0 (fun _ => rfl) rfl rfl (by omega) rfl rfl (l_nx 20 rfl (a_idxP (pV 0 rfl) 1 (f + r) rfl rfl rfl (by omega) rfl (l_nx 21 rfl (a_stE 0 (f + r) (nth m (f + c)) rfl (fun _ => rfl) rfl (by omega) rfl rfl rfl (by omega) (l_nx 22 rfl ?_))))))))
        refine a_idxP (pV 0 rfl) 1 (f + c) rfl rfl rfl (by simp only [List.length_set]; omega) rfl (l_nx 23 rfl (a_stE 0 (f + c) (nth m (f + r)) rfl (fun _ => rfl) rfl (by omega) rfl rfl rfl (by simp only [List.length_set]; omega) (l_nilH [] rfl (by decide) (fun w' hw hS => g_done ?_))))
        exact ⟨swp m (f + r) (f + c), ⟨rfl, rfl, rfl, rfl, trivial⟩, rfl, hw⟩
       ·
        refine pk_of 19 rfl hw (a_ldP (pV 0 rfl) 1 (f + r) 0 (fun _ => rfl) rfl rfl (by omega) rfl rfl (l_nx 13 rfl (a_ldP (pV 0 rfl) 1 (f + c) 0 (fun _ => rfl) rfl rfl (by omega) rfl rfl (l_nx 20 rfl (a_idxP (pV 0 rfl) 1 (f + r) rfl rfl rfl (by omega) rfl (l_nx 21 rfl (a_stE 0 (f + r) (nth m (f + c)) rfl (fun _ => rfl) rfl (by omega) rfl rfl rfl (by omega) (l_nx 22 rfl ?_))))))))
        refine a_idxP (pV 0 rfl) 1 (f + c) rfl rfl rfl (by simp only [List.length_set]; omega) rfl (l_nx 23 rfl (a_stE 0 (f + c) (nth m (f + r)) rfl (fun _ => rfl) rfl (by omega) rfl rfl rfl (by simp only [List.length_set]; omega) (l_nilH [] rfl (by decide) (fun w' hw hS => g_done ?_))))
        exact ⟨swp m (f + r) (f + c), ⟨rfl, rfl, rfl, rfl, trivial⟩, rfl, hw⟩
      ·
       refine pk_of 19 rfl hw (a_ldP (pV 0 rfl) 1 (f + r) 0 (fun _ => rfl) rfl rfl (by omega) rfl rfl (l_nx 12 rfl (a_idxP (pV 0 rfl) 1 (f + c) rfl rfl rfl (by omega) rfl (l_nx 13 rfl (a_ldP (pV 0 rfl) 1 (f + c) 0 (fun _ => rfl) rfl rfl (by omega) rfl rfl (l_nx 20 rfl (a_idxP (pV 0 rfl) 1 (f + r) rfl rfl rfl (by omega) rfl (l_nx 21 rfl ?_))))))))
       refine a_stE 0 (f + r) (nth m (f + c)) rfl (fun _ => rfl) rfl (by omega) rfl rfl rfl (by omega) (l_nx 22 rfl (a_idxP (pV 0 rfl) 1 (f + c) rfl rfl rfl (by simp only [List.length_set]; omega) rfl (l_nx 23 rfl (a_stE 0 (f + c) (nth m (f + r)) rfl (fun _ => rfl) rfl (by omega) rfl rfl rfl (by simp only [List.length_set]; omega) (l_nilH [] rfl (by decide) (fun w' hw hS => g_done ?_))))))
       exact ⟨swp m (f + r) (f + c), ⟨rfl, rfl, rfl, rfl, trivial⟩, rfl, hw⟩
    have hn := hΦ
    refine c_last (l_mv rfl (l_as rfl ?_))
    exact l_nil (fun w' hw => ⟨c, n, ⟨rfl, rfl, rfl, rfl, trivial⟩, ⟨⟨by omega, by omega⟩, by rw [hn]; exact hSm.then_swp ⟨by omega, by omega⟩ ⟨by omega, by omega⟩ hh, by rw [hn]; exact hX.step hr.1 hc.1 hc.2 (by omega) hmx (Decidable.not_not.1 c4)⟩, hw, (by omega)⟩)
theorem heapSort_u {S : List Nat} (v : Value) (l : List Nat) (a b : Nat) (w : World) (ha : a < b) (hb : b ≤ l.length) (hl : LenOk l.length) (hin : Own w S [Res.vec 28 1 v l.length (l.flatMap U1)] w) : Rets Tryz.prog 142 #[v, Vj a, Vj b] w fun u_ w' => ∃ (l' : List Nat), u_ = .tuple #[] ∧ Same a b l l' ∧ Up a b l' ∧ Own w S [Res.vec 28 1 v l'.length (l'.flatMap U1)] w' := by
  refine fn_own Tryz.func142 rfl Tryz.ntmps142 hin ?_
  refine c_reg (l_mv rfl (l_as rfl (l_end (c_reg (l_as rfl (l_end (c_reg (l_mv rfl (l_mv rfl (l_sub (c := ((b - a : Nat) : Int)) rfl rfl (wsi (by omega) (by omega)) rfl (l_as rfl (l_end ?_))))))))))))
  refine c_seq (c_reg (l_mv rfl (l_sub (c := ((b - a - 1 : Nat) : Int)) rfl rfl (wsi1 (by omega) (by omega)) rfl (l_quo (c := (((b - a - 1) / 2 : Nat) : Int)) rfl rfl (by decide) (qui (b := 2) (by omega)) rfl (l_as rfl (l_end (c_block ?_)))))))
  refine c_loop2 (fun (i : Nat) (m : List Nat) => [(0, v), (6, Vj a), (7, Vi 0), (8, Vj (b - a)), (9, Vi (((i : Nat) : Int) - 1))]) (fun (i : Nat) (m : List Nat) => i ≤ (b - a - 1) / 2 + 1 ∧ Same a b l m ∧ Hp i (b - a) a m) (fun (i : Nat) (m : List Nat) => [Res.vec 28 1 v m.length (m.flatMap U1)]) (fun (i : Nat) (m : List Nat) => i) (fun w' hw => ⟨(b - a - 1) / 2 + 1, l, ⟨rfl, rfl, rfl, rfl, vi (by omega), trivial⟩, ⟨Nat.le_refl _, Same.refl _ _ _, Hp.none (by omega)⟩, hw⟩) (fun i m g hΦ => ?_)
  have hml := hΦ.2.1.len
  have hi1 := hΦ.1
  have hSm := hΦ.2.1
  have hH := hΦ.2.2
  refine c_seq (c_reg (l_mv rfl (l_geq rfl rfl rfl (l_end (c_dec rfl (fun c1 => ?_) (fun c1 => ?_))))))
  ·
   refine c_skipC (c_seq (c_block (c_last (l_mv rfl (l_mv rfl (l_mv rfl (l_mv rfl (a_call rfl rfl (fun w' hw => (sift_u v m (((i : Nat) : Int) - 1) ((b - a : Nat) : Int) a w' (by omega) (by omega) (by first | assumption | omega | (simp <;> omega) | (constructor <;> (first | omega | (simp only [LenOk]; omega) | (simp <;> omega)))) (by rw [show (((i : Nat) : Int) - 1).toNat + 1 = i by omega, Int.toNat_natCast]; exact hH) (hw.give [0] rfl (by decide))).mono ?_)))))))))
   rintro _ w1 ⟨l'1_, rfl, hf6_4, hf6_4_1, hO⟩
   have q2 : Hp (i - 1) (b - a) a l'1_ := (by have h := hf6_4_1; rwa [show (((i : Nat) : Int) - 1).toNat = i - 1 by omega, Int.toNat_natCast] at h)
   refine (?_ : CL _ _ _ _ _ _ (Own w S [Res.vec 28 1 v l'1_.length (l'1_.flatMap U1)])) w1 (hw.frameL [0] rfl hO)
   refine l_end (c_last (l_mv rfl (l_sub rfl rfl (wi64 (by omega)) rfl (l_as rfl ?_))))
   exact l_nil (fun w' hw => ⟨i - 1, l'1_, ⟨rfl, rfl, rfl, rfl, vi (by omega), trivial⟩, ⟨by omega, hSm.trans (hf6_4.wide (by omega) (by omega)), q2⟩, hw, (by omega)⟩)
  ·
   refine c_exitC rfl (c_reg (l_mv rfl (l_sub rfl rfl (wi64 (by omega)) rfl (l_as rfl (l_end (c_block ?_))))))
   refine c_loop2 (fun (i : Nat) (m : List Nat) => [(0, v), (6, Vj a), (7, Vi 0), (10, Vi (((i : Nat) : Int) - 1))]) (fun (i : Nat) (m : List Nat) => i ≤ b - a ∧ Same a b l m ∧ HpUp i (b - a) a m) (fun (i : Nat) (m : List Nat) => [Res.vec 28 1 v m.length (m.flatMap U1)]) (fun (i : Nat) (m : List Nat) => i) (fun w' hw => ⟨b - a, m, ⟨rfl, rfl, rfl, rfl, trivial⟩, ⟨Nat.le_refl _, hSm, HpUp.start (by have h0 : i = 0 := (by omega); rw [h0] at hH; exact hH)⟩, hw⟩) (fun i m g hΦ => ?_)
   have hml2 := hΦ.2.1.len
   have hi2 := hΦ.1
   have hS2 := hΦ.2.1
   have hU2 := hΦ.2.2
   refine c_seq (c_reg (l_mv rfl (l_geq rfl rfl rfl (l_end (c_dec rfl (fun c2 => ?_) (fun c2 => ?_))))))
   ·
    have hU3 : HpUp (i - 1 + 1) (b - a) a m := by rw [show i - 1 + 1 = i by omega]; exact hU2
    have hsw := hU3.swap (by omega) (by omega)
    refine c_skipC (c_seq (c_block (c_cut1 (fun (n : List Nat) => [(0, v), (6, Vj a), (7, Vi 0), (10, Vi (((i : Nat) : Int) - 1))]) (fun (n : List Nat) => n = swp m a (a + (i - 1))) (fun (n : List Nat) => [Res.vec 28 1 v n.length (n.flatMap U1)]) ?_ (fun n g hΦ => ?_))))
    ·
     refine c_heldo [] rfl (by decide) (by kernel_rfl) (fun w' hw hS => g_tk 0 rfl (v_mv) hS (g_tk 1 rfl (v_mv) hS (g_tk 2 rfl (v_mv) hS (g_tk 3 rfl (v_mv) hS (g_tk 4 rfl (v_mv) hS (g_tk 5 rfl (v_add (c := ((a + (i - 1) : Nat) : Int)) rfl rfl (by rw [show ((a : Nat) : Int) + (((i : Nat) : Int) - 1) = ((a + (i - 1) : Nat) : Int) by omega]; exact wi64 (by omega))) hS (g_tk 6 rfl (v_mv) hS (g_tk 7 rfl (v_mv) hS (g_tk 8 rfl (v_mv) hS (g_tk 9 rfl (v_add (c := ((a + (i - 1) : Nat) : Int)) rfl rfl (by rw [show ((a : Nat) : Int) + (((i : Nat) : Int) - 1) = ((a + (i - 1) : Nat) : Int) by omega]; exact wi64 (by omega))) hS (g_tk 12 rfl (v_mv) hS (g_tk 13 rfl (v_mv) hS ?_))))))))))))
     refine g_pick2 10 14 ?_ ?_
     ·
      refine pk_of 10 rfl hw (a_idxP (pV 0 rfl) 1 (a + (i - 1)) rfl rfl rfl (by omega) rfl (l_nilH [] rfl (by decide) (fun w' hw hS => g_pick2 11 14 ?_ ?_)))
      ·
       refine pk_of 11 rfl hw (a_ldP (pV 0 rfl) 1 (a + (i - 1)) 0 (fun _ => rfl) rfl rfl (by omega) rfl rfl (l_nx 14 rfl (a_idxP (pV 0 rfl) 1 a rfl rfl rfl (by omega) rfl (l_nx 15 rfl (a_ldP (pV 0 rfl) 1 a 0 (fun _ => rfl) rfl rfl (by omega) rfl rfl (l_nx 16 rfl (a_idxP (pV 0 rfl) 1 a rfl rfl rfl (by omega) rfl (l_nx 17 rfl ?_))))))))
       refine a_stE 0 a (nth m (a + (i - 1))) rfl (fun _ => rfl) rfl (by omega) rfl rfl rfl (by omega) (l_nx 18 rfl (a_idxP (pV 0 rfl) 1 (a + (i - 1)) rfl rfl rfl (by simp only [List.length_set]; omega) rfl (l_nx 19 rfl (a_stE 0 (a + (i - 1)) (nth m a) rfl (fun _ => rfl) rfl (by omega) rfl rfl rfl (by simp only [List.length_set]; omega) (l_nilH [] rfl (by decide) (fun w' hw hS => g_done ?_))))))
       exact ⟨swp m a (a + (i - 1)), ⟨rfl, rfl, rfl, rfl, trivial⟩, rfl, hw⟩
      ·
       refine pk_of 14 rfl hw (a_idxP (pV 0 rfl) 1 a rfl rfl rfl (by omega) rfl (l_nilH [] rfl (by decide) (fun w' hw hS => g_pick2 11 15 ?_ ?_)))
       ·
        refine pk_of 11 rfl hw (a_ldP (pV 0 rfl) 1 (a + (i - 1)) 0 (fun _ => rfl) rfl rfl (by omega) rfl rfl (l_nx 15 rfl (a_ldP (pV 0 rfl) 1 a 0 (fun _ => rfl) rfl rfl (by omega) rfl rfl (l_nx 16 rfl (a_idxP (pV 0 rfl) 1 a rfl rfl rfl (by omega) rfl (l_nx 17 rfl (a_stE 0 a (nth m (a + (i - 1))) rfl (fun _ => rfl) rfl (by omega) rfl rfl rfl (by omega) (l_nx 18 rfl ?_))))))))
        refine a_idxP (pV 0 rfl) 1 (a + (i - 1)) rfl rfl rfl (by simp only [List.length_set]; omega) rfl (l_nx 19 rfl (a_stE 0 (a + (i - 1)) (nth m a) rfl (fun _ => rfl) rfl (by omega) rfl rfl rfl (by simp only [List.length_set]; omega) (l_nilH [] rfl (by decide) (fun w' hw hS => g_done ?_))))
        exact ⟨swp m a (a + (i - 1)), ⟨rfl, rfl, rfl, rfl, trivial⟩, rfl, hw⟩
       ·
        refine pk_of 15 rfl hw (a_ldP (pV 0 rfl) 1 a 0 (fun _ => rfl) rfl rfl (by omega) rfl rfl (l_nx 11 rfl (a_ldP (pV 0 rfl) 1 (a + (i - 1)) 0 (fun _ => rfl) rfl rfl (by omega) rfl rfl (l_nx 16 rfl (a_idxP (pV 0 rfl) 1 a rfl rfl rfl (by omega) rfl (l_nx 17 rfl (a_stE 0 a (nth m (a + (i - 1))) rfl (fun _ => rfl) rfl (by omega) rfl rfl rfl (by omega) (l_nx 18 rfl ?_))))))))
        refine a_idxP (pV 0 rfl) 1 (a + (i - 1)) rfl rfl rfl (by simp only [List.length_set]; omega) rfl (l_nx 19 rfl (a_stE 0 (a + (i - 1)) (nth m a) rfl (fun _ => rfl) rfl (by omega) rfl rfl rfl (by simp only [List.length_set]; omega) (l_nilH [] rfl (by decide) (fun w' hw hS => g_done ?_))))
        exact ⟨swp m a (a + (i - 1)), ⟨rfl, rfl, rfl, rfl, trivial⟩, rfl, hw⟩
     ·
      refine pk_of 14 rfl hw (a_idxP (pV 0 rfl) 1 a rfl rfl rfl (by omega) rfl (l_nilH [] rfl (by decide) (fun w' hw hS => g_pick2 10 15 ?_ ?_)))
      ·
       refine pk_of 10 rfl hw (a_idxP (pV 0 rfl) 1 (a + (i - 1)) rfl rfl rfl (by omega) rfl (l_nilH [] rfl (by decide) (fun w' hw hS => g_pick2 11 15 ?_ ?_)))
       ·
        refine pk_of 11 rfl hw (a_ldP (pV 0 rfl) 1 (a + (i - 1)) 0 (fun _ => rfl) rfl rfl (by omega) rfl rfl (l_nx 15 rfl (a_ldP (pV 0 rfl) 1 a 0 (fun _ => rfl) rfl rfl (by omega) rfl rfl (l_nx 16 rfl (a_idxP (pV 0 rfl) 1 a rfl rfl rfl (by omega) rfl (l_nx 17 rfl (a_stE 0 a (nth m (a + (i - 1))) rfl (fun _ => rfl) rfl (by omega) rfl rfl rfl (by omega) (l_nx 18 rfl ?_))))))))
        refine a_idxP (pV 0 rfl) 1 (a + (i - 1)) rfl rfl rfl (by simp only [List.length_set]; omega) rfl (l_nx 19 rfl (a_stE 0 (a + (i - 1)) (nth m a) rfl (fun _ => rfl) rfl (by omega) rfl rfl rfl (by simp only [List.length_set]; omega) (l_nilH [] rfl (by decide) (fun w' hw hS => g_done ?_))))
        exact ⟨swp m a (a + (i - 1)), ⟨rfl, rfl, rfl, rfl, trivial⟩, rfl, hw⟩
       ·
        refine pk_of 15 rfl hw (a_ldP (pV 0 rfl) 1 a 0 (fun _ => rfl) rfl rfl (by omega) rfl rfl (l_nx 11 rfl (a_ldP (pV 0 rfl) 1 (a + (i - 1)) 0 (fun _ => rfl) rfl rfl (by omega) rfl rfl (l_nx 16 rfl (a_idxP (pV 0 rfl) 1 a rfl rfl rfl (by omega) rfl (l_nx 17 rfl (a_stE 0 a (nth m (a + (i - 1))) rfl (fun _ => rfl) rfl (by omega) rfl rfl rfl (by omega) (l_nx 18 rfl ?_))))))))
        refine a_idxP (pV 0 rfl) 1 (a + (i - 1)) rfl rfl rfl (by simp only [List.length_set]; omega) rfl (l_nx 19 rfl (a_stE 0 (a + (i - 1)) (nth m a) rfl (fun _ => rfl) rfl (by omega) rfl rfl rfl (by simp only [List.length_set]; omega) (l_nilH [] rfl (by decide) (fun w' hw hS => g_done ?_))))
        exact ⟨swp m a (a + (i - 1)), ⟨rfl, rfl, rfl, rfl, trivial⟩, rfl, hw⟩
      ·
       refine pk_of 15 rfl hw (a_ldP (pV 0 rfl) 1 a 0 (fun _ => rfl) rfl rfl (by omega) rfl rfl (l_nx 10 rfl (a_idxP (pV 0 rfl) 1 (a + (i - 1)) rfl rfl rfl (by omega) rfl (l_nx 11 rfl (a_ldP (pV 0 rfl) 1 (a + (i - 1)) 0 (fun _ => rfl) rfl rfl (by omega) rfl rfl (l_nx 16 rfl (a_idxP (pV 0 rfl) 1 a rfl rfl rfl (by omega) rfl (l_nx 17 rfl ?_))))))))
       refine a_stE 0 a (nth m (a + (i - 1))) rfl (fun _ => rfl) rfl (by omega) rfl rfl rfl (by omega) (l_nx 18 rfl (a_idxP (pV 0 rfl) 1 (a + (i - 1)) rfl rfl rfl (by simp only [List.length_set]; omega) rfl (l_nx 19 rfl (a_stE 0 (a + (i - 1)) (nth m a) rfl (fun _ => rfl) rfl (by omega) rfl rfl rfl (by simp only [List.length_set]; omega) (l_nilH [] rfl (by decide) (fun w' hw hS => g_done ?_))))))
       exact ⟨swp m a (a + (i - 1)), ⟨rfl, rfl, rfl, rfl, trivial⟩, rfl, hw⟩
    have hn := hΦ
    have hnl : n.length = m.length := by rw [hn, swp_len]
    refine c_last (l_mv rfl (l_mv rfl (l_mv rfl (l_mv rfl (a_call rfl rfl (fun w' hw => (sift_u v n 0 (((i : Nat) : Int) - 1) a w' (by omega) (by omega) (by first | assumption | omega | (simp <;> omega) | (constructor <;> (first | omega | (simp only [LenOk]; omega) | (simp <;> omega)))) (by rw [show (((i : Nat) : Int) - 1).toNat = i - 1 by omega, hn]; exact hsw.1) (hw.give [0] rfl (by decide))).mono ?_))))))
    rintro _ w1 ⟨l'2_, rfl, hf11_4, hf11_4_1, hO⟩
    have q3 : Hp 0 (i - 1) a l'2_ := (by have h := hf11_4_1; rwa [show (((i : Nat) : Int) - 1).toNat = i - 1 by omega] at h)
    have q4 : Same a (a + (i - 1)) n l'2_ := hf11_4.wide (by omega) (by omega)
    refine (?_ : CL _ _ _ _ _ _ (Own w S [Res.vec 28 1 v l'2_.length (l'2_.flatMap U1)])) w1 (hw.frameL [0] rfl hO)
    refine l_end (c_last (l_mv rfl (l_sub rfl rfl (wi64 (by omega)) rfl (l_as rfl ?_))))
    exact l_nil (fun w' hw => ⟨i - 1, l'2_, ⟨rfl, rfl, rfl, vi (by omega), trivial⟩, ⟨by omega, (hS2.then_swp ⟨by omega, by omega⟩ ⟨by omega, by omega⟩ hb).trans ((hn ▸ q4).wide (by omega) (by omega)), HpUp.sift hsw.2 q3 (hn ▸ q4) (by omega) (by rw [swp_len]; omega)⟩, hw, (by omega)⟩)
   ·
    exact c_exit rfl (ret0 rfl (fun w' hw => ⟨m, rfl, hS2, (by have h := hU2.up; have h0 : i = 0 := (by omega); rw [h0, Nat.add_zero, show a + (b - a) = b by omega] at h; exact h), hw⟩))
end Go.Proofs.YthincafbmpialaaGreat
