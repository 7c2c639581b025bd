/-
  THE WALKS OF the library's sort, over numbers of 64 bits: a little order, and the pivot.
-/
import Derived.Test.YthincafbmpialaaGreatSortU
set_option linter.unusedVariables false
set_option maxRecDepth 10000
namespace Go.Proofs.YthincafbmpialaaGreat
open Go Go.Sc Go.Proofs

theorem partIns_u {S : List Nat} (v : Value) (l : List Nat) (a b : Nat) (w : World) (ha : a < b) (hb : b ≤ l.length) (hl : LenOk l.length) (hpr : Pred a b l) (hin : Own w S [Res.vec 28 1 v l.length (l.flatMap U1)] w) : Rets Tryz.prog 146 #[v, Vj a, Vj b] w fun u_ w' => ∃ (l' : List Nat) (r : Bool), u_ = .bool r ∧ Same a b l l' ∧ (r = true → Up a b l') ∧ Own w S [Res.vec 28 1 v l'.length (l'.flatMap U1)] w' := by
  refine fn_own Tryz.func146 rfl Tryz.ntmps146 hin ?_
  refine c_reg (l_as rfl (l_end (c_reg (l_mv rfl (l_add rfl rfl (wi64 (by omega)) rfl (l_as rfl (l_end (c_seq (c_reg (l_as rfl (l_end (c_block ?_))))))))))))
  refine c_loop3 (fun (j i : Nat) (q : List Nat) => [(0, v), (1, Vj a), (2, Vj b), (7, Vj i), (8, Vj j)]) (fun (j i : Nat) (q : List Nat) => ((a + 1 ≤ i ∧ i ≤ b) ∧ j ≤ 5) ∧ Same a b l q ∧ Up a i q) (fun (j i : Nat) (q : List Nat) => [Res.vec 28 1 v q.length (q.flatMap U1)]) (fun (j i : Nat) (q : List Nat) => 5 - j) (fun w' hw => ⟨0, a + 1, l, ⟨rfl, rfl, rfl, rfl, rfl, trivial⟩, ⟨⟨⟨by omega, by omega⟩, by omega⟩, Same.refl _ _ _, Up.one (by omega)⟩, hw⟩) (fun j i q g hΦ => ?_)
  have hi1 := hΦ.1
  have hS1 := hΦ.2.1
  have hU1 := hΦ.2.2
  have hq1 := hS1.len
  refine c_seq (c_reg (l_mv rfl (l_lss rfl rfl rfl (l_end (c_dec rfl (fun c1 => ?_) (fun c1 => ?_))))))
  ·
   refine c_skipC (c_seq (c_block (c_cut1 (fun (i2 : Nat) => [(0, v), (1, Vj a), (2, Vj b), (7, Vj i2), (8, Vj j)]) (fun (i2 : Nat) => (a + 1 ≤ i2 ∧ i2 ≤ b) ∧ Up a i2 q) (fun (i2 : Nat) => [Res.vec 28 1 v q.length (q.flatMap U1)]) ?_ (fun i2 g hΦ => ?_))))
   ·
    refine c_block ?_
    refine c_loop1 (fun (i2 : Nat) => [(0, v), (1, Vj a), (2, Vj b), (7, Vj i2), (8, Vj j)]) (fun (i2 : Nat) => (a + 1 ≤ i2 ∧ i2 ≤ b) ∧ Up a i2 q) (fun (i2 : Nat) => [Res.vec 28 1 v q.length (q.flatMap U1)]) (fun (i2 : Nat) => b - i2) (fun w' hw => ⟨i, ⟨rfl, rfl, rfl, rfl, rfl, trivial⟩, ⟨⟨by omega, by omega⟩, hU1⟩, hw⟩) (fun i2 g hΦ => ?_)
    have hi2 := hΦ.1
    have hU2 := hΦ.2
    refine c_seq (c_seq (c_heldo [0] rfl (by decide) (by kernel_rfl) (fun w' hw hS => g_tk 0 rfl (v_mv) hS (g_tk 1 rfl (v_mv) hS (g_tk 2 rfl (v_lss rfl rfl) hS (g_tk 3 rfl (v_mv) hS ?_))))))
    by_cases g5_3 : ((i2 : Nat) : Int) < ((b : Nat) : Int)
    ·
     refine g_tkg 4 rfl rfl (gT g5_3) (v_mv) hS (g_tkg 5 rfl rfl (gT g5_3) (v_mv) hS (g_tkg 6 rfl rfl (gT g5_3) (w_idxP (pV 0 rfl) 1 i2 rfl rfl rfl (by omega)) hS (g_tkg 7 rfl rfl (gT g5_3) (w_ldP (pV 0 rfl) 1 i2 0 (fun _ => rfl) rfl rfl (by omega) rfl) hS (g_tkg 8 rfl rfl (gT g5_3) (v_mv) hS (g_tkg 9 rfl rfl (gT g5_3) (v_mv) hS (g_tkg 10 rfl rfl (gT g5_3) (v_sub (c := ((i2 - 1 : Nat) : Int)) rfl rfl (wsi1 (by omega) (by omega))) hS (g_tkg 11 rfl rfl (gT g5_3) (w_idxP (pV 0 rfl) 1 (i2 - 1) rfl rfl rfl (by omega)) hS (g_tkg 12 rfl rfl (gT g5_3) (w_ldP (pV 0 rfl) 1 (i2 - 1) 0 (fun _ => rfl) rfl rfl (by omega) rfl) hS (g_one 13 rfl hw (l_on rfl (gT g5_3) (a_call rfl rfl (fun w' hw => (less_u (nth q i2) (nth q (i2 - 1)) w').mono ?_))))))))))))
     rintro _ w1 ⟨rfl, hO⟩
     refine (?_ : CL _ _ _ _ _ _ (Own w S [Res.vec 28 1 v q.length (q.flatMap U1)])) w1 (hw.frame0 hO)
     refine l_nilH [0] rfl (by decide) (fun w' hw hS => g_tkg 14 rfl rfl (gT g5_3) (v_notp (q := olt (nth q i2) (nth q (i2 - 1))) rfl) hS (g_tk 15 rfl (v_pickT (gT g5_3)) hS (g_done ?_)))
     refine (?_ : C _ _ _ _ _ _ _ (Own w S [Res.vec 28 1 v q.length (q.flatMap U1)])) _ hw
     refine c_dec rfl (fun c2 => ?_) (fun c2 => ?_)
     ·
      refine c_skipC (c_block (c_last (l_mv rfl (l_add rfl rfl (wi64 (by omega)) rfl (l_as rfl ?_)))))
      exact l_nil (fun w' hw => ⟨i2 + 1, ⟨rfl, rfl, rfl, rfl, rfl, trivial⟩, ⟨⟨by omega, by omega⟩, hU2.step c2⟩, hw, (by omega)⟩)
     ·
      exact c_exit rfl (fun w' hw => ⟨i2, ⟨rfl, rfl, rfl, rfl, rfl, trivial⟩, ⟨hi2, hU2⟩, hw⟩)
    ·
     refine g_ofg 4 rfl rfl (gF g5_3) rfl hS (g_ofg 5 rfl rfl (gF g5_3) rfl hS (g_ofg 6 rfl rfl (gF g5_3) rfl hS (g_ofg 7 rfl rfl (gF g5_3) rfl hS (g_ofg 8 rfl rfl (gF g5_3) rfl hS (g_ofg 9 rfl rfl (gF g5_3) rfl hS (g_ofg 10 rfl rfl (gF g5_3) rfl hS (g_ofg 11 rfl rfl (gF g5_3) rfl hS (g_ofg 12 rfl rfl (gF g5_3) rfl hS (g_ofg 13 rfl rfl (gF g5_3) rfl hS (g_ofg 14 rfl rfl (gF g5_3) rfl hS (g_tk 15 rfl (v_pickF (gF g5_3)) hS (g_done ?_))))))))))))
     refine (?_ : C _ _ _ _ _ _ _ (Own w S [Res.vec 28 1 v q.length (q.flatMap U1)])) _ hw
     refine c_no rfl ?_
     exact c_exit rfl (fun w' hw => ⟨i2, ⟨rfl, rfl, rfl, rfl, rfl, trivial⟩, ⟨hi2, hU2⟩, hw⟩)
   have hi3 := hΦ.1
   have hU3 := hΦ.2
   refine c_seq (c_reg (l_mv rfl (l_mv rfl (l_eq rfl rfl rfl (l_end (c_dec rfl (fun c4 => ?_) (fun c4 => ?_)))))))
   ·
    refine c_reg (l_as rfl (l_end ?_))
    exact c_ret (ret1 (v := .bool true) rfl rfl (fun w' hw => ⟨q, true, rfl, hS1, (fun _ => by rw [show b = i2 by omega]; exact hU3), hw⟩))
   ·
    refine c_skipC (c_seq (c_reg (l_mv rfl (l_mv rfl (l_sub rfl rfl (wi64 (by omega)) rfl (l_lss rfl rfl rfl (l_end (c_dec rfl (fun c5 => ?_) (fun c5 => ?_)))))))))
    ·
     refine c_reg (l_as rfl (l_end ?_))
     exact c_ret (ret1 (v := .bool false) rfl rfl (fun w' hw => ⟨q, false, rfl, hS1, (fun h => by cases h), hw⟩))
    ·
     refine c_skipC (c_cut1 (fun (n : List Nat) => [(0, v), (1, Vj a), (2, Vj b), (7, Vj i2), (8, Vj j)]) (fun (n : List Nat) => n = swp q i2 (i2 - 1)) (fun (n : List Nat) => [Res.vec 28 1 v n.length (n.flatMap U1)]) ?_ (fun n g hΦ => ?_))
     ·
      refine c_heldo [] rfl (by decide) (by kernel_rfl) (fun w' hw hS => g_tk 0 rfl (v_mv) hS (g_tk 1 rfl (v_mv) hS (g_tk 2 rfl (v_mv) hS (g_tk 3 rfl (v_mv) hS (g_tk 4 rfl (v_sub (c := ((i2 - 1 : Nat) : Int)) rfl rfl (wsi1 (by omega) (by omega))) hS (g_tk 5 rfl (v_mv) hS (g_tk 6 rfl (v_mv) hS (g_tk 7 rfl (v_sub (c := ((i2 - 1 : Nat) : Int)) rfl rfl (wsi1 (by omega) (by omega))) hS (g_tk 10 rfl (v_mv) hS (g_tk 11 rfl (v_mv) hS (g_pick2 8 12 ?_ ?_)))))))))))
      ·
       refine pk_of 8 rfl hw (a_idxP (pV 0 rfl) 1 (i2 - 1) rfl rfl rfl (by omega) rfl (l_nilH [] rfl (by decide) (fun w' hw hS => g_pick2 9 12 ?_ ?_)))
       ·
        refine pk_of 9 rfl hw (a_ldP (pV 0 rfl) 1 (i2 - 1) 0 (fun _ => rfl) rfl rfl (by omega) rfl rfl (l_nx 12 rfl (a_idxP (pV 0 rfl) 1 i2 rfl rfl rfl (by omega) rfl (l_nx 13 rfl (a_ldP (pV 0 rfl) 1 i2 0 (fun _ => rfl) rfl rfl (by omega) rfl rfl (l_nx 14 rfl (a_idxP (pV 0 rfl) 1 i2 rfl rfl rfl (by omega) rfl (l_nx 15 rfl ?_))))))))
        refine a_stE 0 i2 (nth q (i2 - 1)) rfl (fun _ => rfl) rfl (by omega) rfl rfl rfl (by omega) (l_nx 16 rfl (a_idxP (pV 0 rfl) 1 (i2 - 1) rfl rfl rfl (by simp only [List.length_set]; omega) rfl (l_nx 17 rfl (a_stE 0 (i2 - 1) (nth q i2) rfl (fun _ => rfl) rfl (by omega) rfl rfl rfl (by simp only [List.length_set]; omega) (l_nilH [] rfl (by decide) (fun w' hw hS => g_done ?_))))))
        exact ⟨swp q i2 (i2 - 1), ⟨rfl, rfl, rfl, rfl, rfl, trivial⟩, rfl, hw⟩
       ·
        refine pk_of 12 rfl hw (a_idxP (pV 0 rfl) 1 i2 rfl rfl rfl (by omega) rfl (l_nilH [] rfl (by decide) (fun w' hw hS => g_pick2 9 13 ?_ ?_)))
        ·
         refine pk_of 9 rfl hw (a_ldP (pV 0 rfl) 1 (i2 - 1) 0 (fun _ => rfl) rfl rfl (by omega) rfl rfl (l_nx 13 rfl (a_ldP (pV 0 rfl) 1 i2 0 (fun _ => rfl) rfl rfl (by omega) rfl rfl (l_nx 14 rfl (a_idxP (pV 0 rfl) 1 i2 rfl rfl rfl (by omega) rfl (l_nx 15 rfl (a_stE 0 i2 (nth q (i2 - 1)) rfl (fun _ => rfl) rfl (by omega) rfl rfl rfl (by omega) (l_nx 16 rfl ?_))))))))
         refine a_idxP (pV 0 rfl) 1 (i2 - 1) rfl rfl rfl (by simp only [List.length_set]; omega) rfl (l_nx 17 rfl (a_stE 0 (i2 - 1) (nth q i2) rfl (fun _ => rfl) rfl (by omega) rfl rfl rfl (by simp only [List.length_set]; omega) (l_nilH [] rfl (by decide) (fun w' hw hS => g_done ?_))))
         exact ⟨swp q i2 (i2 - 1), ⟨rfl, rfl, rfl, rfl, rfl, trivial⟩, rfl, hw⟩
        ·
         refine pk_of 13 rfl hw (a_ldP (pV 0 rfl) 1 i2 0 (fun _ => rfl) rfl rfl (by omega) rfl rfl (l_nx 9 rfl (a_ldP (pV 0 rfl) 1 (i2 - 1) 0 (fun _ => rfl) rfl rfl (by omega) rfl rfl (l_nx 14 rfl (a_idxP (pV 0 rfl) 1 i2 rfl rfl rfl (by omega) rfl (l_nx 15 rfl (a_stE 0 i2 (nth q (i2 - 1)) rfl (fun _ => rfl) rfl (by omega) rfl rfl rfl (by omega) (l_nx 16 rfl ?_))))))))
         refine a_idxP (pV 0 rfl) 1 (i2 - 1) rfl rfl rfl (by simp only [List.length_set]; omega) rfl (l_nx 17 rfl (a_stE 0 (i2 - 1) (nth q i2) rfl (fun _ => rfl) rfl (by omega) rfl rfl rfl (by simp only [List.length_set]; omega) (l_nilH [] rfl (by decide) (fun w' hw hS => g_done ?_))))
         exact ⟨swp q i2 (i2 - 1), ⟨rfl, rfl, rfl, rfl, rfl, trivial⟩, rfl, hw⟩
      ·
       refine pk_of 12 rfl hw (a_idxP (pV 0 rfl) 1 i2 rfl rfl rfl (by omega) rfl (l_nilH [] rfl (by decide) (fun w' hw hS => g_pick2 8 13 ?_ ?_)))
       ·
        refine pk_of 8 rfl hw (a_idxP (pV 0 rfl) 1 (i2 - 1) rfl rfl rfl (by omega) rfl (l_nilH [] rfl (by decide) (fun w' hw hS => g_pick2 9 13 ?_ ?_)))
        ·
         refine pk_of 9 rfl hw (a_ldP (pV 0 rfl) 1 (i2 - 1) 0 (fun _ => rfl) rfl rfl (by omega) rfl rfl (l_nx 13 rfl (a_ldP (pV 0 rfl) 1 i2 0 (fun _ => rfl) rfl rfl (by omega) rfl rfl (l_nx 14 rfl (a_idxP (pV 0 rfl) 1 i2 rfl rfl rfl (by omega) rfl (l_nx 15 rfl (a_stE 0 i2 (nth q (i2 - 1)) rfl (fun _ => rfl) rfl (by omega) rfl rfl rfl (by omega) (l_nx 16 rfl ?_))))))))
         refine a_idxP (pV 0 rfl) 1 (i2 - 1) rfl rfl rfl (by simp only [List.length_set]; omega) rfl (l_nx 17 rfl (a_stE 0 (i2 - 1) (nth q i2) rfl (fun _ => rfl) rfl (by omega) rfl rfl rfl (by simp only [List.length_set]; omega) (l_nilH [] rfl (by decide) (fun w' hw hS => g_done ?_))))
         exact ⟨swp q i2 (i2 - 1), ⟨rfl, rfl, rfl, rfl, rfl, trivial⟩, rfl, hw⟩
        ·
         refine pk_of 13 rfl hw (a_ldP (pV 0 rfl) 1 i2 0 (fun _ => rfl) rfl rfl (by omega) rfl rfl (l_nx 9 rfl (a_ldP (pV 0 rfl) 1 (i2 - 1) 0 (fun _ => rfl) rfl rfl (by omega) rfl rfl (l_nx 14 rfl (a_idxP (pV 0 rfl) 1 i2 rfl rfl rfl (by omega) rfl (l_nx 15 rfl (a_stE 0 i2 (nth q (i2 - 1)) rfl (fun _ => rfl) rfl (by omega) rfl rfl rfl (by omega) (l_nx 16 rfl ?_))))))))
         refine a_idxP (pV 0 rfl) 1 (i2 - 1) rfl rfl rfl (by simp only [List.length_set]; omega) rfl (l_nx 17 rfl (a_stE 0 (i2 - 1) (nth q i2) rfl (fun _ => rfl) rfl (by omega) rfl rfl rfl (by simp only [List.length_set]; omega) (l_nilH [] rfl (by decide) (fun w' hw hS => g_done ?_))))
         exact ⟨swp q i2 (i2 - 1), ⟨rfl, rfl, rfl, rfl, rfl, trivial⟩, rfl, hw⟩
       ·
        refine pk_of 13 rfl hw (a_ldP (pV 0 rfl) 1 i2 0 (fun _ => rfl) rfl rfl (by omega) rfl rfl (l_nx 8 rfl (a_idxP (pV 0 rfl) 1 (i2 - 1) rfl rfl rfl (by omega) rfl (l_nx 9 rfl (a_ldP (pV 0 rfl) 1 (i2 - 1) 0 (fun _ => rfl) rfl rfl (by omega) rfl rfl (l_nx 14 rfl (a_idxP (pV 0 rfl) 1 i2 rfl rfl rfl (by omega) rfl (l_nx 15 rfl ?_))))))))
        refine a_stE 0 i2 (nth q (i2 - 1)) rfl (fun _ => rfl) rfl (by omega) rfl rfl rfl (by omega) (l_nx 16 rfl (a_idxP (pV 0 rfl) 1 (i2 - 1) rfl rfl rfl (by simp only [List.length_set]; omega) rfl (l_nx 17 rfl (a_stE 0 (i2 - 1) (nth q i2) rfl (fun _ => rfl) rfl (by omega) rfl rfl rfl (by simp only [List.length_set]; omega) (l_nilH [] rfl (by decide) (fun w' hw hS => g_done ?_))))))
        exact ⟨swp q i2 (i2 - 1), ⟨rfl, rfl, rfl, rfl, rfl, trivial⟩, rfl, hw⟩
     have hn := hΦ
     have hSn : Same a b l n := by rw [hn]; exact hS1.then_swp ⟨by omega, by omega⟩ ⟨by omega, by omega⟩ hb
     have hnl := hSn.len
     have hUn : Up a (i2 - 1) n := by rw [hn]; exact (hU3.less (by omega)).keep (Same.ex (a := i2 - 1) (b := i2 + 1) ⟨by omega, by omega⟩ ⟨by omega, by omega⟩ (by omega)) (.inl (by omega))
     refine c_cut1 (fun (r : List Nat) => [(0, v), (1, Vj a), (2, Vj b), (7, Vj i2), (8, Vj j)]) (fun (r : List Nat) => Same a b l r ∧ Up a i2 r) (fun (r : List Nat) => [Res.vec 28 1 v r.length (r.flatMap U1)]) ?_ (fun r g hΦ => ?_)
     ·
      refine c_reg (l_mv rfl (l_mv rfl (l_sub (c := ((i2 - a : Nat) : Int)) rfl rfl (wsi (by omega) (by omega)) rfl (l_geq rfl rfl rfl (l_end (c_dec rfl (fun c6 => ?_) (fun c6 => ?_)))))))
      ·
       refine c_reg (l_mv rfl (l_sub (c := ((i2 - 1 : Nat) : Int)) rfl rfl (wsi1 (by omega) (by omega)) rfl (l_as rfl (l_end (c_block ?_)))))
       refine c_loop2 (fun (j3 : Nat) (r : List Nat) => [(0, v), (1, Vj a), (2, Vj b), (7, Vj i2), (8, Vj j), (9, Vj j3)]) (fun (j3 : Nat) (r : List Nat) => (a ≤ j3 ∧ j3 ≤ i2 - 1) ∧ Same a b l r ∧ Ins a (i2 - 1) j3 r) (fun (j3 : Nat) (r : List Nat) => [Res.vec 28 1 v r.length (r.flatMap U1)]) (fun (j3 : Nat) (r : List Nat) => j3) (fun w' hw => ⟨i2 - 1, n, ⟨rfl, rfl, rfl, rfl, rfl, rfl, trivial⟩, ⟨⟨by omega, by omega⟩, hSn, Ins.start hUn⟩, hw⟩) (fun j3 r g hΦ => ?_)
       have hj3 := hΦ.1
       have hS3 := hΦ.2.1
       have hI3 := hΦ.2.2
       have hl3 := hS3.len
       have hp3 := hpr.keep hS3 hb
       refine c_seq (c_reg (l_mv rfl (l_geq rfl rfl rfl (l_end (c_dec rfl (fun c7 => ?_) (fun c7 => ?_))))))
       ·
        refine c_skipC (c_cut1 (fun (m : List Nat) => [(0, v), (1, Vj a), (2, Vj b), (7, Vj i2), (8, Vj j), (9, Vj j3)]) (fun (m : List Nat) => m = swp r j3 (j3 - 1) ∧ a < j3 ∧ olt (nth r j3) (nth r (j3 - 1))) (fun (m : List Nat) => [Res.vec 28 1 v m.length (m.flatMap U1)]) ?_ (fun m g hΦ => ?_))
        ·
         refine c_block (c_seq (c_seq (c_heldo [0] rfl (by decide) (by kernel_rfl) (fun w' hw hS => g_tk 0 rfl (v_mv) hS (g_tk 1 rfl (v_mv) hS (g_tk 2 rfl (w_idxP (pV 0 rfl) 1 j3 rfl rfl rfl (by omega)) hS (g_tk 3 rfl (w_ldP (pV 0 rfl) 1 j3 0 (fun _ => rfl) rfl rfl (by omega) rfl) hS (g_tk 4 rfl (v_mv) hS (g_tk 5 rfl (v_mv) hS (g_tk 6 rfl (v_sub (c := ((j3 - 1 : Nat) : Int)) rfl rfl (wsi1 (by omega) (by omega))) hS (g_tk 7 rfl (w_idxP (pV 0 rfl) 1 (j3 - 1) rfl rfl rfl (by omega)) hS (g_tk 8 rfl (w_ldP (pV 0 rfl) 1 (j3 - 1) 0 (fun _ => rfl) rfl rfl (by omega) rfl) hS ?_))))))))))))
         refine g_one 9 rfl hw (a_call rfl rfl (fun w' hw => (less_u (nth r j3) (nth r (j3 - 1)) w').mono ?_))
         rintro _ w1 ⟨rfl, hO⟩
         refine (?_ : CL _ _ _ _ _ _ (Own w S [Res.vec 28 1 v r.length (r.flatMap U1)])) w1 (hw.frame0 hO)
         refine l_nilH [0] rfl (by decide) (fun w' hw hS => g_tk 10 rfl (v_notp (q := olt (nth r j3) (nth r (j3 - 1))) rfl) hS (g_done ?_))
         refine (?_ : C _ _ _ _ _ _ _ (Own w S [Res.vec 28 1 v r.length (r.flatMap U1)])) _ hw
         refine c_dec rfl (fun c8 => ?_) (fun c8 => ?_)
         ·
          exact c_exit rfl (fun w' hw => ⟨r, ⟨rfl, rfl, rfl, rfl, rfl, trivial⟩, ⟨hS3, (by have h := hI3.done (fun _ => c8); rwa [show i2 - 1 + 1 = i2 by omega] at h)⟩, hw⟩)
         ·
          have c7' := Decidable.not_not.1 c8
          have haj : a < j3 := (by rcases Nat.lt_or_ge a j3 with h | h; exact h; rcases hp3 with h0 | h0; omega; have h1 := h0 j3 (by omega) (by omega); rw [show a - 1 = j3 - 1 by omega] at h1; exact absurd c7' h1)
          refine c_skipC (c_heldo [] rfl (by decide) (by kernel_rfl) (fun w' hw hS => g_tk 0 rfl (v_mv) hS (g_tk 1 rfl (v_mv) hS (g_tk 2 rfl (v_mv) hS (g_tk 3 rfl (v_mv) hS (g_tk 4 rfl (v_sub (c := ((j3 - 1 : Nat) : Int)) rfl rfl (wsi1 (by omega) (by omega))) hS (g_tk 5 rfl (v_mv) hS (g_tk 6 rfl (v_mv) hS (g_tk 7 rfl (v_sub (c := ((j3 - 1 : Nat) : Int)) rfl rfl (wsi1 (by omega) (by omega))) hS (g_tk 10 rfl (v_mv) hS (g_tk 11 rfl (v_mv) hS (g_pick2 8 12 ?_ ?_))))))))))))
          ·
           refine pk_of 8 rfl hw (a_idxP (pV 0 rfl) 1 (j3 - 1) rfl rfl rfl (by omega) rfl (l_nilH [] rfl (by decide) (fun w' hw hS => g_pick2 9 12 ?_ ?_)))
           ·
            refine pk_of 9 rfl hw (a_ldP (pV 0 rfl) 1 (j3 - 1) 0 (fun _ => rfl) rfl rfl (by omega) rfl rfl (l_nx 12 rfl (a_idxP (pV 0 rfl) 1 j3 rfl rfl rfl (by omega) rfl (l_nx 13 rfl (a_ldP (pV 0 rfl) 1 j3 0 (fun _ => rfl) rfl rfl (by omega) rfl rfl (l_nx 14 rfl (a_idxP (pV 0 rfl) 1 j3 rfl rfl rfl (by omega) rfl (l_nx 15 rfl ?_))))))))
            refine a_stE 0 j3 (nth r (j3 - 1)) rfl (fun _ => rfl) rfl (by omega) rfl rfl rfl (by omega) (l_nx 16 rfl (a_idxP (pV 0 rfl) 1 (j3 - 1) rfl rfl rfl (by simp only [List.length_set]; omega) rfl (l_nx 17 rfl (a_stE 0 (j3 - 1) (nth r j3) rfl (fun _ => rfl) rfl (by omega) rfl rfl rfl (by simp only [List.length_set]; omega) (l_nilH [] rfl (by decide) (fun w' hw hS => g_done ?_))))))
            exact ⟨swp r j3 (j3 - 1), ⟨rfl, rfl, rfl, rfl, rfl, rfl, trivial⟩, ⟨rfl, haj, c7'⟩, hw⟩
           ·
            refine pk_of 12 rfl hw (a_idxP (pV 0 rfl) 1 j3 rfl rfl rfl (by omega) rfl (l_nilH [] rfl (by decide) (fun w' hw hS => g_pick2 9 13 ?_ ?_)))
            ·
             refine pk_of 9 rfl hw (a_ldP (pV 0 rfl) 1 (j3 - 1) 0 (fun _ => rfl) rfl rfl (by omega) rfl rfl (l_nx 13 rfl (a_ldP (pV 0 rfl) 1 j3 0 (fun _ => rfl) rfl rfl (by omega) rfl rfl (l_nx 14 rfl (a_idxP (pV 0 rfl) 1 j3 rfl rfl rfl (by omega) rfl (l_nx 15 rfl (a_stE 0 j3 (nth r (j3 - 1)) rfl (fun _ => rfl) rfl (by omega) rfl rfl rfl (by omega) (l_nx 16 rfl ?_))))))))
             refine a_idxP (pV 0 rfl) 1 (j3 - 1) rfl rfl rfl (by simp only [List.length_set]; omega) rfl (l_nx 17 rfl (a_stE 0 (j3 - 1) (nth r j3) rfl (fun _ => rfl) rfl (by omega) rfl rfl rfl (by simp only [List.length_set]; omega) (l_nilH [] rfl (by decide) (fun w' hw hS => g_done ?_))))
             exact ⟨swp r j3 (j3 - 1), ⟨rfl, rfl, rfl, rfl, rfl, rfl, trivial⟩, ⟨rfl, haj, c7'⟩, hw⟩
            ·
             refine pk_of 13 rfl hw (a_ldP (pV 0 rfl) 1 j3 0 (fun _ => rfl) rfl rfl (by omega) rfl rfl (l_nx 9 rfl (a_ldP (pV 0 rfl) 1 (j3 - 1) 0 (fun _ => rfl) rfl rfl (by omega) rfl rfl (l_nx 14 rfl (a_idxP (pV 0 rfl) 1 j3 rfl rfl rfl (by omega) rfl (l_nx 15 rfl (a_stE 0 j3 (nth r (j3 - 1)) rfl (fun _ => rfl) rfl (by omega) rfl rfl rfl (by omega) (l_nx 16 rfl ?_))))))))
             refine a_idxP (pV 0 rfl) 1 (j3 - 1) rfl rfl rfl (by simp only [List.length_set]; omega) rfl (l_nx 17 rfl (a_stE 0 (j3 - 1) (nth r j3) rfl (fun _ => rfl) rfl (by omega) rfl rfl rfl (by simp only [List.length_set]; omega) (l_nilH [] rfl (by decide) (fun w' hw hS => g_done ?_))))
             exact ⟨swp r j3 (j3 - 1), ⟨rfl, rfl, rfl, rfl, rfl, rfl, trivial⟩, ⟨rfl, haj, c7'⟩, hw⟩
          ·
           refine pk_of 12 rfl hw (a_idxP (pV 0 rfl) 1 j3 rfl rfl rfl (by omega) rfl (l_nilH [] rfl (by decide) (fun w' hw hS => g_pick2 8 13 ?_ ?_)))
           ·
            refine pk_of 8 rfl hw (a_idxP (pV 0 rfl) 1 (j3 - 1) rfl rfl rfl (by omega) rfl (l_nilH [] rfl (by decide) (fun w' hw hS => g_pick2 9 13 ?_ ?_)))
            ·
             refine pk_of 9 rfl hw (a_ldP (pV 0 rfl) 1 (j3 - 1) 0 (fun _ => rfl) rfl rfl (by omega) rfl rfl (l_nx 13 rfl (a_ldP (pV 0 rfl) 1 j3 0 (fun _ => rfl) rfl rfl (by omega) rfl rfl (l_nx 14 rfl (a_idxP (pV 0 rfl) 1 j3 rfl rfl rfl (by omega) rfl (l_nx 15 rfl (a_stE 0 j3 (nth r (j3 - 1)) rfl (fun _ => rfl) rfl (by omega) rfl rfl rfl (by omega) (l_nx 16 rfl ?_))))))))
             refine a_idxP (pV 0 rfl) 1 (j3 - 1) rfl rfl rfl (by simp only [List.length_set]; omega) rfl (l_nx 17 rfl (a_stE 0 (j3 - 1) (nth r j3) rfl (fun _ => rfl) rfl (by omega) rfl rfl rfl (by simp only [List.length_set]; omega) (l_nilH [] rfl (by decide) (fun w' hw hS => g_done ?_))))
             exact ⟨swp r j3 (j3 - 1), ⟨rfl, rfl, rfl, rfl, rfl, rfl, trivial⟩, ⟨rfl, haj, c7'⟩, hw⟩
            ·
             refine pk_of 13 rfl hw (a_ldP (pV 0 rfl) 1 j3 0 (fun _ => rfl) rfl rfl (by omega) rfl rfl (l_nx 9 rfl (a_ldP (pV 0 rfl) 1 (j3 - 1) 0 (fun _ => rfl) rfl rfl (by omega) rfl rfl (l_nx 14 rfl (a_idxP (pV 0 rfl) 1 j3 rfl rfl rfl (by omega) rfl (l_nx 15 rfl (a_stE 0 j3 (nth r (j3 - 1)) rfl (fun _ => rfl) rfl (by omega) rfl rfl rfl (by omega) (l_nx 16 rfl ?_))))))))
             refine a_idxP (pV 0 rfl) 1 (j3 - 1) rfl rfl rfl (by simp only [List.length_set]; omega) rfl (l_nx 17 rfl (a_stE 0 (j3 - 1) (nth r j3) rfl (fun _ => rfl) rfl (by omega) rfl rfl rfl (by simp only [List.length_set]; omega) (l_nilH [] rfl (by decide) (fun w' hw hS => g_done ?_))))
             exact ⟨swp r j3 (j3 - 1), ⟨rfl, rfl, rfl, rfl, rfl, rfl, trivial⟩, ⟨rfl, haj, c7'⟩, hw⟩
           ·
            refine pk_of 13 rfl hw (a_ldP (pV 0 rfl) 1 j3 0 (fun _ => rfl) rfl rfl (by omega) rfl rfl (l_nx 8 rfl (a_idxP (pV 0 rfl) 1 (j3 - 1) rfl rfl rfl (by omega) rfl (l_nx 9 rfl (a_ldP (pV 0 rfl) 1 (j3 - 1) 0 (fun _ => rfl) rfl rfl (by omega) rfl rfl (l_nx 14 rfl (a_idxP (pV 0 rfl) 1 j3 rfl rfl rfl (by omega) rfl (l_nx 15 rfl ?_))))))))
            refine a_stE 0 j3 (nth r (j3 - 1)) rfl (fun _ => rfl) rfl (by omega) rfl rfl rfl (by omega) (l_nx 16 rfl (a_idxP (pV 0 rfl) 1 (j3 - 1) rfl rfl rfl (by simp only [List.length_set]; omega) rfl (l_nx 17 rfl (a_stE 0 (j3 - 1) (nth r j3) rfl (fun _ => rfl) rfl (by omega) rfl rfl rfl (by simp only [List.length_set]; omega) (l_nilH [] rfl (by decide) (fun w' hw hS => g_done ?_))))))
            exact ⟨swp r j3 (j3 - 1), ⟨rfl, rfl, rfl, rfl, rfl, rfl, trivial⟩, ⟨rfl, haj, c7'⟩, hw⟩
        have hm := hΦ.1
        have haj := hΦ.2.1
        have c7' := hΦ.2.2
        refine c_last (l_mv rfl (l_sub (c := ((j3 - 1 : Nat) : Int)) rfl rfl (wsi1 (by omega) (by omega)) rfl (l_as rfl ?_)))
        exact l_nil (fun w' hw => ⟨j3 - 1, m, ⟨rfl, rfl, rfl, rfl, rfl, rfl, trivial⟩, ⟨⟨by omega, by omega⟩, (by rw [hm]; exact hS3.then_swp ⟨by omega, by omega⟩ ⟨by omega, by omega⟩ hb), (by rw [hm]; exact hI3.step haj (by omega) (by omega) c7')⟩, hw, (by omega)⟩)
       ·
        exact c_exit rfl (fun w' hw => ⟨r, ⟨rfl, rfl, rfl, rfl, rfl, trivial⟩, ⟨hS3, (by have h := hI3.done (fun h => absurd h (by omega)); rwa [show i2 - 1 + 1 = i2 by omega] at h)⟩, hw⟩)
      ·
       exact c_skip (fun w' hw => ⟨n, ⟨rfl, rfl, rfl, rfl, rfl, trivial⟩, ⟨hSn, Up.one (by omega)⟩, hw⟩)
     have hSr := hΦ.1
     have hUr := hΦ.2
     have hrl := hSr.len
     refine c_reg (l_mv rfl (l_mv rfl (l_sub (c := ((b - i2 : Nat) : Int)) rfl rfl (wsi (by omega) (by omega)) rfl (l_geq rfl rfl rfl (l_end (c_dec rfl (fun c9 => ?_) (fun c9 => ?_)))))))
     ·
      refine c_reg (l_mv rfl (l_add rfl rfl (wi64 (by omega)) rfl (l_as rfl (l_end (c_block ?_)))))
      refine c_loop2 (fun (j4 : Nat) (r : List Nat) => [(0, v), (1, Vj a), (2, Vj b), (7, Vj i2), (8, Vj j), (10, Vj j4)]) (fun (j4 : Nat) (r : List Nat) => (i2 + 1 ≤ j4 ∧ j4 ≤ b) ∧ Same a b l r ∧ Up a i2 r) (fun (j4 : Nat) (r : List Nat) => [Res.vec 28 1 v r.length (r.flatMap U1)]) (fun (j4 : Nat) (r : List Nat) => b - j4) (fun w' hw => ⟨i2 + 1, r, ⟨rfl, rfl, rfl, rfl, rfl, rfl, trivial⟩, ⟨⟨by omega, by omega⟩, hSr, hUr⟩, hw⟩) (fun j4 r g hΦ => ?_)
      have hj4 := hΦ.1
      have hS4 := hΦ.2.1
      have hU4 := hΦ.2.2
      have hl4 := hS4.len
      refine c_seq (c_reg (l_mv rfl (l_mv rfl (l_lss rfl rfl rfl (l_end (c_dec rfl (fun c10 => ?_) (fun c10 => ?_)))))))
      ·
       refine c_skipC (c_cut1 (fun (m : List Nat) => [(0, v), (1, Vj a), (2, Vj b), (7, Vj i2), (8, Vj j), (10, Vj j4)]) (fun (m : List Nat) => m = swp r j4 (j4 - 1)) (fun (m : List Nat) => [Res.vec 28 1 v m.length (m.flatMap U1)]) ?_ (fun m g hΦ => ?_))
       ·
        refine c_block (c_seq (c_seq (c_heldo [0] rfl (by decide) (by kernel_rfl) (fun w' hw hS => g_tk 0 rfl (v_mv) hS (g_tk 1 rfl (v_mv) hS (g_tk 2 rfl (w_idxP (pV 0 rfl) 1 j4 rfl rfl rfl (by omega)) hS (g_tk 3 rfl (w_ldP (pV 0 rfl) 1 j4 0 (fun _ => rfl) rfl rfl (by omega) rfl) hS (g_tk 4 rfl (v_mv) hS (g_tk 5 rfl (v_mv) hS (g_tk 6 rfl (v_sub (c := ((j4 - 1 : Nat) : Int)) rfl rfl (wsi1 (by omega) (by omega))) hS (g_tk 7 rfl (w_idxP (pV 0 rfl) 1 (j4 - 1) rfl rfl rfl (by omega)) hS (g_tk 8 rfl (w_ldP (pV 0 rfl) 1 (j4 - 1) 0 (fun _ => rfl) rfl rfl (by omega) rfl) hS ?_))))))))))))
        refine g_one 9 rfl hw (a_call rfl rfl (fun w' hw => (less_u (nth r j4) (nth r (j4 - 1)) w').mono ?_))
        rintro _ w1 ⟨rfl, hO⟩
        refine (?_ : CL _ _ _ _ _ _ (Own w S [Res.vec 28 1 v r.length (r.flatMap U1)])) w1 (hw.frame0 hO)
        refine l_nilH [0] rfl (by decide) (fun w' hw hS => g_tk 10 rfl (v_notp (q := olt (nth r j4) (nth r (j4 - 1))) rfl) hS (g_done ?_))
        refine (?_ : C _ _ _ _ _ _ _ (Own w S [Res.vec 28 1 v r.length (r.flatMap U1)])) _ hw
        refine c_dec rfl (fun c11 => ?_) (fun c11 => ?_)
        ·
         refine c_exitC rfl (c_last (l_mv rfl (l_add rfl rfl (wi64 (by omega)) rfl (l_as rfl ?_))))
         exact l_nil (fun w' hw => ⟨j + 1, i2, r, ⟨rfl, rfl, rfl, rfl, rfl, trivial⟩, ⟨⟨⟨by omega, by omega⟩, by omega⟩, hΦ.2⟩, hw, (by omega)⟩)
        ·
         refine c_skipC (c_heldo [] rfl (by decide) (by kernel_rfl) (fun w' hw hS => g_tk 0 rfl (v_mv) hS (g_tk 1 rfl (v_mv) hS (g_tk 2 rfl (v_mv) hS (g_tk 3 rfl (v_mv) hS (g_tk 4 rfl (v_sub (c := ((j4 - 1 : Nat) : Int)) rfl rfl (wsi1 (by omega) (by omega))) hS (g_tk 5 rfl (v_mv) hS (g_tk 6 rfl (v_mv) hS (g_tk 7 rfl (v_sub (c := ((j4 - 1 : Nat) : Int)) rfl rfl (wsi1 (by omega) (by omega))) hS (g_tk 10 rfl (v_mv) hS (g_tk 11 rfl (v_mv) hS (g_pick2 8 12 ?_ ?_))))))))))))
         ·
          refine pk_of 8 rfl hw (a_idxP (pV 0 rfl) 1 (j4 - 1) rfl rfl rfl (by omega) rfl (l_nilH [] rfl (by decide) (fun w' hw hS => g_pick2 9 12 ?_ ?_)))
          ·
           refine pk_of 9 rfl hw (a_ldP (pV 0 rfl) 1 (j4 - 1) 0 (fun _ => rfl) rfl rfl (by omega) rfl rfl (l_nx 12 rfl (a_idxP (pV 0 rfl) 1 j4 rfl rfl rfl (by omega) rfl (l_nx 13 rfl (a_ldP (pV 0 rfl) 1 j4 0 (fun _ => rfl) rfl rfl (by omega) rfl rfl (l_nx 14 rfl (a_idxP (pV 0 rfl) 1 j4 rfl rfl rfl (by omega) rfl (l_nx 15 rfl ?_))))))))
           refine a_stE 0 j4 (nth r (j4 - 1)) rfl (fun _ => rfl) rfl (by omega) rfl rfl rfl (by omega) (l_nx 16 rfl (a_idxP (pV 0 rfl) 1 (j4 - 1) rfl rfl rfl (by simp only [List.length_set]; omega) rfl (l_nx 17 rfl (a_stE 0 (j4 - 1) (nth r j4) rfl (fun _ => rfl) rfl (by omega) rfl rfl rfl (by simp only [List.length_set]; omega) (l_nilH [] rfl (by decide) (fun w' hw hS => g_done ?_))))))
           exact ⟨swp r j4 (j4 - 1), ⟨rfl, rfl, rfl, rfl, rfl, rfl, trivial⟩, rfl, hw⟩
          ·
           refine pk_of 12 rfl hw (a_idxP (pV 0 rfl) 1 j4 rfl rfl rfl (by omega) rfl (l_nilH [] rfl (by decide) (fun w' hw hS => g_pick2 9 13 ?_ ?_)))
           ·
            refine pk_of 9 rfl hw (a_ldP (pV 0 rfl) 1 (j4 - 1) 0 (fun _ => rfl) rfl rfl (by omega) rfl rfl (l_nx 13 rfl (a_ldP (pV 0 rfl) 1 j4 0 (fun _ => rfl) rfl rfl (by omega) rfl rfl (l_nx 14 rfl (a_idxP (pV 0 rfl) 1 j4 rfl rfl rfl (by omega) rfl (l_nx 15 rfl (a_stE 0 j4 (nth r (j4 - 1)) rfl (fun _ => rfl) rfl (by omega) rfl rfl rfl (by omega) (l_nx 16 rfl ?_))))))))
            refine a_idxP (pV 0 rfl) 1 (j4 - 1) rfl rfl rfl (by simp only [List.length_set]; omega) rfl (l_nx 17 rfl (a_stE 0 (j4 - 1) (nth r j4) rfl (fun _ => rfl) rfl (by omega) rfl rfl rfl (by simp only [List.length_set]; omega) (l_nilH [] rfl (by decide) (fun w' hw hS => g_done ?_))))
            exact ⟨swp r j4 (j4 - 1), ⟨rfl, rfl, rfl, rfl, rfl, rfl, trivial⟩, rfl, hw⟩
           ·
            refine pk_of 13 rfl hw (a_ldP (pV 0 rfl) 1 j4 0 (fun _ => rfl) rfl rfl (by omega) rfl rfl (l_nx 9 rfl (a_ldP (pV 0 rfl) 1 (j4 - 1) 0 (fun _ => rfl) rfl rfl (by omega) rfl rfl (l_nx 14 rfl (a_idxP (pV 0 rfl) 1 j4 rfl rfl rfl (by omega) rfl (l_nx 15 rfl (a_stE 0 j4 (nth r (j4 - 1)) rfl (fun _ => rfl) rfl (by omega) rfl rfl rfl (by omega) (l_nx 16 rfl ?_))))))))
            refine a_idxP (pV 0 rfl) 1 (j4 - 1) rfl rfl rfl (by simp only [List.length_set]; omega) rfl (l_nx 17 rfl (a_stE 0 (j4 - 1) (nth r j4) rfl (fun _ => rfl) rfl (by omega) rfl rfl rfl (by simp only [List.length_set]; omega) (l_nilH [] rfl (by decide) (fun w' hw hS => g_done ?_))))
            exact ⟨swp r j4 (j4 - 1), ⟨rfl, rfl, rfl, rfl, rfl, rfl, trivial⟩, rfl, hw⟩
         ·
          refine pk_of 12 rfl hw (a_idxP (pV 0 rfl) 1 j4 rfl rfl rfl (by omega) rfl (l_nilH [] rfl (by decide) (fun w' hw hS => g_pick2 8 13 ?_ ?_)))
          ·
           refine pk_of 8 rfl hw (a_idxP (pV 0 rfl) 1 (j4 - 1) rfl rfl rfl (by omega) rfl (l_nilH [] rfl (by decide) (fun w' hw hS => g_pick2 9 13 ?_ ?_)))
           ·
            refine pk_of 9 rfl hw (a_ldP (pV 0 rfl) 1 (j4 - 1) 0 (fun _ => rfl) rfl rfl (by omega) rfl rfl (l_nx 13 rfl (a_ldP (pV 0 rfl) 1 j4 0 (fun _ => rfl) rfl rfl (by omega) rfl rfl (l_nx 14 rfl (a_idxP (pV 0 rfl) 1 j4 rfl rfl rfl (by omega) rfl (l_nx 15 rfl (a_stE 0 j4 (nth r (j4 - 1)) rfl (fun _ => rfl) rfl (by omega) rfl rfl rfl (by omega) (l_nx 16 rfl ?_))))))))
            refine a_idxP (pV 0 rfl) 1 (j4 - 1) rfl rfl rfl (by simp only [List.length_set]; omega) rfl (l_nx 17 rfl (a_stE 0 (j4 - 1) (nth r j4) rfl (fun _ => rfl) rfl (by omega) rfl rfl rfl (by simp only [List.length_set]; omega) (l_nilH [] rfl (by decide) (fun w' hw hS => g_done ?_))))
            exact ⟨swp r j4 (j4 - 1), ⟨rfl, rfl, rfl, rfl, rfl, rfl, trivial⟩, rfl, hw⟩
           ·
            refine pk_of 13 rfl hw (a_ldP (pV 0 rfl) 1 j4 0 (fun _ => rfl) rfl rfl (by omega) rfl rfl (l_nx 9 rfl (a_ldP (pV 0 rfl) 1 (j4 - 1) 0 (fun _ => rfl) rfl rfl (by omega) rfl rfl (l_nx 14 rfl (a_idxP (pV 0 rfl) 1 j4 rfl rfl rfl (by omega) rfl (l_nx 15 rfl (a_stE 0 j4 (nth r (j4 - 1)) rfl (fun _ => rfl) rfl (by omega) rfl rfl rfl (by omega) (l_nx 16 rfl ?_))))))))
            refine a_idxP (pV 0 rfl) 1 (j4 - 1) rfl rfl rfl (by simp only [List.length_set]; omega) rfl (l_nx 17 rfl (a_stE 0 (j4 - 1) (nth r j4) rfl (fun _ => rfl) rfl (by omega) rfl rfl rfl (by simp only [List.length_set]; omega) (l_nilH [] rfl (by decide) (fun w' hw hS => g_done ?_))))
            exact ⟨swp r j4 (j4 - 1), ⟨rfl, rfl, rfl, rfl, rfl, rfl, trivial⟩, rfl, hw⟩
          ·
           refine pk_of 13 rfl hw (a_ldP (pV 0 rfl) 1 j4 0 (fun _ => rfl) rfl rfl (by omega) rfl rfl (l_nx 8 rfl (a_idxP (pV 0 rfl) 1 (j4 - 1) rfl rfl rfl (by omega) rfl (l_nx 9 rfl (a_ldP (pV 0 rfl) 1 (j4 - 1) 0 (fun _ => rfl) rfl rfl (by omega) rfl rfl (l_nx 14 rfl (a_idxP (pV 0 rfl) 1 j4 rfl rfl rfl (by omega) rfl (l_nx 15 rfl ?_))))))))
           refine a_stE 0 j4 (nth r (j4 - 1)) rfl (fun _ => rfl) rfl (by omega) rfl rfl rfl (by omega) (l_nx 16 rfl (a_idxP (pV 0 rfl) 1 (j4 - 1) rfl rfl rfl (by simp only [List.length_set]; omega) rfl (l_nx 17 rfl (a_stE 0 (j4 - 1) (nth r j4) rfl (fun _ => rfl) rfl (by omega) rfl rfl rfl (by simp only [List.length_set]; omega) (l_nilH [] rfl (by decide) (fun w' hw hS => g_done ?_))))))
           exact ⟨swp r j4 (j4 - 1), ⟨rfl, rfl, rfl, rfl, rfl, rfl, trivial⟩, rfl, hw⟩
       have hm := hΦ
       refine c_last (l_mv rfl (l_add rfl rfl (wi64 (by omega)) rfl (l_as rfl ?_)))
       exact l_nil (fun w' hw => ⟨j4 + 1, m, ⟨rfl, rfl, rfl, rfl, rfl, rfl, trivial⟩, ⟨⟨by omega, by omega⟩, (by rw [hm]; exact hS4.then_swp ⟨by omega, by omega⟩ ⟨by omega, by omega⟩ hb), (by rw [hm]; exact hU4.keep (Same.ex (a := i2) (b := b) ⟨by omega, by omega⟩ ⟨by omega, by omega⟩ (by omega)) (.inl (by omega)))⟩, hw, (by omega)⟩)
      ·
       refine c_exitC rfl (c_last (l_mv rfl (l_add rfl rfl (wi64 (by omega)) rfl (l_as rfl ?_))))
       exact l_nil (fun w' hw => ⟨j + 1, i2, r, ⟨rfl, rfl, rfl, rfl, rfl, trivial⟩, ⟨⟨⟨by omega, by omega⟩, by omega⟩, hΦ.2⟩, hw, (by omega)⟩)
     ·
      refine c_skipC (c_last (l_mv rfl (l_add rfl rfl (wi64 (by omega)) rfl (l_as rfl ?_))))
      exact l_nil (fun w' hw => ⟨j + 1, i2, r, ⟨rfl, rfl, rfl, rfl, rfl, trivial⟩, ⟨⟨⟨by omega, by omega⟩, by omega⟩, hSr, hUr⟩, hw, (by omega)⟩)
  ·
   refine c_exitC rfl (c_reg (l_as rfl (l_end ?_)))
   exact c_ret (ret1 (v := .bool false) rfl rfl (fun w' hw => ⟨q, false, rfl, hS1, (fun h => by cases h), hw⟩))
theorem order2_u {S : List Nat} (v : Value) (l : List Nat) (a b n o : Nat) (w : World) (ha : a < l.length) (hb : b < l.length) (hl : LenOk l.length) (hn : n ≤ 100) (hin : Own w S [Res.row o 3 [Vj n]] w) (hv : Rd w S (Res.sl v l.length (l.flatMap U1))) : Rets Tryz.prog 197 #[v, Vj a, Vj b, .pointer (some ⟨o, 0, none⟩)] w fun u_ w' => ∃ (x y m : Nat), u_ = .tuple #[Vj x, Vj y] ∧ ((x = a ∧ y = b) ∨ (x = b ∧ y = a)) ∧ m ≤ n + 1 ∧ Own w S [Res.row o 3 [Vj m]] w' := by
  refine fn_own Tryz.func197 rfl Tryz.ntmps197 hin ?_
  refine c_reg (l_as rfl (l_as rfl (l_end (c_seq (c_seq (c_heldo [0] rfl (by decide) (by kernel_rfl) (fun w' hw hS => g_tk 0 rfl (v_mv) hS (g_tk 1 rfl (v_mv) hS (g_tk 2 rfl (w_idxP (pR hv) 1 b rfl rfl rfl (by omega)) hS (g_tk 3 rfl (w_ldP (pR hv) 1 b 0 (fun _ => rfl) rfl rfl (by omega) rfl) hS (g_tk 4 rfl (v_mv) hS (g_tk 5 rfl (v_mv) hS ?_))))))))))))
  refine g_tk 6 rfl (w_idxP (pR hv) 1 a rfl rfl rfl (by omega)) hS (g_tk 7 rfl (w_ldP (pR hv) 1 a 0 (fun _ => rfl) rfl rfl (by omega) rfl) hS (g_one 8 rfl hw (a_call rfl rfl (fun w' hw => (less_u (nth l b) (nth l a) w').mono ?_))))
  rintro _ w1 ⟨rfl, hO⟩
  refine (?_ : CL _ _ _ _ _ _ (Own w S [Res.row o 3 [Vj n]])) w1 (hw.frame0 hO)
  refine l_nilH [0] rfl (by decide) (fun w' hw hS => g_done ?_)
  refine (?_ : C _ _ _ _ _ _ _ (Own w S [Res.row o 3 [Vj n]])) _ hw
  refine c_dec rfl (fun c1 => ?_) (fun c1 => ?_)
  ·
   refine c_reg (l_mv rfl (l_nck rfl rfl (a_ldo 0 (v := Vj n) rfl rfl rfl rfl (l_add rfl rfl (wi64 (by omega)) rfl (l_nck rfl rfl (a_st (cs := [Vj n]) 0 rfl rfl rfl rfl rfl (l_end (c_reg (l_mv rfl (l_mv rfl (l_as rfl (l_as rfl ?_))))))))))))
   refine l_end ?_
   exact c_ret (ret2 (v := Vj b) (v' := Vj a) rfl rfl rfl (fun w' hw => ⟨b, a, n + 1, rfl, (.inr ⟨rfl, rfl⟩), (Nat.le_refl _), hw⟩))
  ·
   refine c_skipC (c_reg (l_mv rfl (l_mv rfl (l_as rfl (l_as rfl (l_end ?_))))))
   exact c_ret (ret2 (v := Vj a) (v' := Vj b) rfl rfl rfl (fun w' hw => ⟨a, b, n, rfl, (.inl ⟨rfl, rfl⟩), (Nat.le_succ _), hw⟩))
theorem median_u {S : List Nat} (v : Value) (l : List Nat) (a b c n o : Nat) (w : World) (ha : a < l.length) (hb : b < l.length) (hc : c < l.length) (hl : LenOk l.length) (hn : n ≤ 90) (hin : Own w S [Res.row o 3 [Vj n]] w) (hv : Rd w S (Res.sl v l.length (l.flatMap U1))) : Rets Tryz.prog 186 #[v, Vj a, Vj b, Vj c, .pointer (some ⟨o, 0, none⟩)] w fun u_ w' => ∃ (x m : Nat), u_ = Vj x ∧ (x = a ∨ x = b ∨ x = c) ∧ m ≤ n + 3 ∧ Own w S [Res.row o 3 [Vj m]] w' := by
  refine fn_own Tryz.func186 rfl Tryz.ntmps186 hin ?_
  refine c_reg (l_as rfl (l_end (c_reg (l_mv rfl (l_mv rfl (l_mv rfl (l_mv rfl (a_call rfl rfl (fun w' hw => (order2_u v l a b n o w' (by first | omega | (simp <;> omega)) (by first | omega | (simp <;> omega)) (by first | assumption | omega | (simp <;> omega) | (constructor <;> (first | omega | (simp only [LenOk]; omega) | (simp <;> omega)))) (by first | omega | (simp <;> omega)) (hw.give [0] rfl (by decide)) (hw.rdTo hv [0] rfl)).mono ?_)))))))))
  rintro _ w1 ⟨x1_, y2_, m3_, rfl, hf1_4, hf1_4_1, hO⟩
  refine (?_ : CL _ _ _ _ _ _ (Own w S [Res.row o 3 [Vj m3_]])) w1 (hw.frameL [0] rfl hO)
  refine l_mv rfl (l_ext (vs := [Vj x1_, Vj y2_]) rfl rfl rfl (l_ext (vs := [Vj x1_, Vj y2_]) rfl rfl rfl (l_as rfl (l_as rfl (l_end (c_reg (l_mv rfl (l_mv rfl (l_mv rfl (l_mv rfl (a_call rfl rfl (fun w' hw => (order2_u v l y2_ c m3_ o w' (by first | omega | (simp <;> omega)) (by first | omega | (simp <;> omega)) (by first | assumption | omega | (simp <;> omega) | (constructor <;> (first | omega | (simp only [LenOk]; omega) | (simp <;> omega)))) (by first | omega | (simp <;> omega)) (hw.give [0] rfl (by decide)) (hw.rdTo hv [0] rfl)).mono ?_))))))))))))
  rintro _ w1 ⟨x4_, y5_, m6_, rfl, hf2_4, hf2_4_1, hO⟩
  refine (?_ : CL _ _ _ _ _ _ (Own w S [Res.row o 3 [Vj m6_]])) w1 (hw.frameL [0] rfl hO)
  refine l_mv rfl (l_ext (vs := [Vj x4_, Vj y5_]) rfl rfl rfl (l_ext (vs := [Vj x4_, Vj y5_]) rfl rfl rfl (l_as rfl (l_as rfl (l_end (c_reg (l_mv rfl (l_mv rfl (l_mv rfl (l_mv rfl (a_call rfl rfl (fun w' hw => (order2_u v l x1_ x4_ m6_ o w' (by first | omega | (simp <;> omega)) (by first | omega | (simp <;> omega)) (by first | assumption | omega | (simp <;> omega) | (constructor <;> (first | omega | (simp only [LenOk]; omega) | (simp <;> omega)))) (by first | omega | (simp <;> omega)) (hw.give [0] rfl (by decide)) (hw.rdTo hv [0] rfl)).mono ?_))))))))))))
  rintro _ w1 ⟨x7_, y8_, m9_, rfl, hf3_4, hf3_4_1, hO⟩
  refine (?_ : CL _ _ _ _ _ _ (Own w S [Res.row o 3 [Vj m9_]])) w1 (hw.frameL [0] rfl hO)
  refine l_mv rfl (l_ext (vs := [Vj x7_, Vj y8_]) rfl rfl rfl (l_ext (vs := [Vj x7_, Vj y8_]) rfl rfl rfl (l_as rfl (l_as rfl (l_end (c_reg (l_mv rfl (l_as rfl (l_end ?_)))))))))
  exact c_ret (ret1 (v := Vj y8_) rfl rfl (fun w' hw => ⟨y8_, m9_, rfl, (by omega), (by omega), hw⟩))
theorem medianAdj_u {S : List Nat} (v : Value) (l : List Nat) (a n o : Nat) (w : World) (ha : 1 ≤ a ∧ a + 1 < l.length) (hl : LenOk l.length) (hn : n ≤ 90) (hin : Own w S [Res.row o 3 [Vj n]] w) (hv : Rd w S (Res.sl v l.length (l.flatMap U1))) : Rets Tryz.prog 185 #[v, Vj a, .pointer (some ⟨o, 0, none⟩)] w fun u_ w' => ∃ (x m : Nat), u_ = Vj x ∧ (a ≤ x + 1 ∧ x ≤ a + 1) ∧ m ≤ n + 3 ∧ Own w S [Res.row o 3 [Vj m]] w' := by
  refine fn_own Tryz.func185 rfl Tryz.ntmps185 hin ?_
  refine c_reg (l_as rfl (l_end (c_reg (l_mv rfl (l_mv rfl (l_sub (c := ((a - 1 : Nat) : Int)) rfl rfl (wsi1 (by omega) (by omega)) rfl (l_mv rfl (l_mv rfl (l_add rfl rfl (wi64 (by omega)) rfl (l_mv rfl (a_call rfl rfl (fun w' hw => (median_u v l (a - 1) a (a + 1) n o w' (by first | omega | (simp <;> omega)) (by first | omega | (simp <;> omega)) (by first | omega | (simp <;> omega)) (by first | assumption | omega | (simp <;> omega) | (constructor <;> (first | omega | (simp only [LenOk]; omega) | (simp <;> omega)))) (by first | omega | (simp <;> omega)) (hw.give [0] rfl (by decide)) (hw.rdTo hv [0] rfl)).mono ?_))))))))))))
  rintro _ w1 ⟨x1_, m2_, rfl, hf1_7, hf1_7_1, hO⟩
  refine (?_ : CL _ _ _ _ _ _ (Own w S [Res.row o 3 [Vj m2_]])) w1 (hw.frameL [0] rfl hO)
  refine l_as rfl (l_end ?_)
  exact c_ret (ret1 (v := Vj x1_) rfl rfl (fun w' hw => ⟨x1_, m2_, rfl, (by omega), (by omega), hw⟩))
theorem pivot_u (v : Value) (l : List Nat) (a b : Nat) (w : World) (hab : a + 12 < b) (hb : b ≤ l.length) (hl : LenOk l.length) (hv : Rd w [] (Res.sl v l.length (l.flatMap U1))) : Rets Tryz.prog 144 #[v, Vj a, Vj b] w fun u_ w' => ∃ (p : Nat) (h : Int), u_ = .tuple #[Vj p, Vi h] ∧ (a ≤ p ∧ p < b) ∧ Own w [] [] w' := by
  refine fn_own Tryz.func144 rfl Tryz.ntmps144 (Own.start w) ?_
  refine c_reg (l_as rfl (l_as rfl (l_end (c_reg (l_mv rfl (l_mv rfl (l_sub (c := ((b - a : Nat) : Int)) rfl rfl (wsi (by omega) (by omega)) rfl (l_as rfl (l_end (c_reg (l_new (v := Vi 0) (by kernel_rfl) rfl (fun b9 => l_end ?_))))))))))))
  refine c_reg (l_mv rfl (l_mv rfl (l_quo (c := (((b - a) / 4 : Nat) : Int)) rfl rfl (by decide) (qui (b := 4) (by omega)) rfl (l_mul rfl rfl (wi64 (by omega)) rfl (l_add rfl rfl (wi64 (by omega)) rfl (l_as rfl (l_end (c_reg (l_mv rfl (l_mv rfl (l_quo (c := (((b - a) / 4 : Nat) : Int)) rfl rfl (by decide) (qui (b := 4) (by omega)) rfl (l_mul rfl rfl (wi64 (by omega)) rfl ?_))))))))))))
  refine l_add rfl rfl (wi64 (by omega)) rfl (l_as rfl (l_end (c_reg (l_mv rfl (l_mv rfl (l_quo (c := (((b - a) / 4 : Nat) : Int)) rfl rfl (by decide) (qui (b := 4) (by omega)) rfl (l_mul rfl rfl (wi64 (by omega)) rfl (l_add rfl rfl (wi64 (by omega)) rfl (l_as rfl (l_end (c_seq (c_reg ?_))))))))))))
  refine l_mv rfl (l_geq rfl rfl rfl (l_end (c_dec rfl (fun c1 => ?_) (fun c1 => ?_))))
  ·
   refine c_seq (c_reg (l_mv rfl (l_geq rfl rfl rfl (l_end (c_dec rfl (fun c2 => ?_) (fun c2 => ?_))))))
   ·
    refine c_reg (l_mv rfl (l_mv rfl (a_call rfl rfl (fun w' hw => (medianAdj_u v l (a + (((b - a) / 4) * 1)) 0 b9 w' (by first | omega | (simp <;> omega)) (by first | assumption | omega | (simp <;> omega) | (constructor <;> (first | omega | (simp only [LenOk]; omega) | (simp <;> omega)))) (by first | omega | (simp <;> omega)) (hw.give [0] rfl (by decide)) (hw.rdTo hv [0] rfl)).mono ?_))))
    rintro _ w1 ⟨x1_, m2_, rfl, hf8_2, hf8_2_1, hO⟩
    refine (?_ : CL _ _ _ _ _ _ (Own w [] [Res.row b9 3 [Vj m2_]])) w1 (hw.frameL [0] rfl hO)
    refine l_as rfl (l_end (c_reg (l_mv rfl (l_mv rfl (a_call rfl rfl (fun w' hw => (medianAdj_u v l (a + (((b - a) / 4) * 2)) m2_ b9 w' (by first | omega | (simp <;> omega)) (by first | assumption | omega | (simp <;> omega) | (constructor <;> (first | omega | (simp only [LenOk]; omega) | (simp <;> omega)))) (by first | omega | (simp <;> omega)) (hw.give [0] rfl (by decide)) (hw.rdTo hv [0] rfl)).mono ?_))))))
    rintro _ w1 ⟨x3_, m4_, rfl, hf9_2, hf9_2_1, hO⟩
    refine (?_ : CL _ _ _ _ _ _ (Own w [] [Res.row b9 3 [Vj m4_]])) w1 (hw.frameL [0] rfl hO)
    refine l_as rfl (l_end (c_last (l_mv rfl (l_mv rfl (a_call rfl rfl (fun w' hw => (medianAdj_u v l (a + (((b - a) / 4) * 3)) m4_ b9 w' (by first | omega | (simp <;> omega)) (by first | assumption | omega | (simp <;> omega) | (constructor <;> (first | omega | (simp only [LenOk]; omega) | (simp <;> omega)))) (by first | omega | (simp <;> omega)) (hw.give [0] rfl (by decide)) (hw.rdTo hv [0] rfl)).mono ?_))))))
    rintro _ w1 ⟨x5_, m6_, rfl, hf10_2, hf10_2_1, hO⟩
    refine (?_ : CL _ _ _ _ _ _ (Own w [] [Res.row b9 3 [Vj m6_]])) w1 (hw.frameL [0] rfl hO)
    refine l_as rfl (l_end (c_last (l_mv rfl (l_mv rfl (l_mv rfl (l_mv rfl (a_call rfl rfl (fun w' hw => (median_u v l x1_ x3_ x5_ m6_ b9 w' (by first | omega | (simp <;> omega)) (by first | omega | (simp <;> omega)) (by first | omega | (simp <;> omega)) (by first | assumption | omega | (simp <;> omega) | (constructor <;> (first | omega | (simp only [LenOk]; omega) | (simp <;> omega)))) (by first | omega | (simp <;> omega)) (hw.give [0] rfl (by decide)) (hw.rdTo hv [0] rfl)).mono ?_))))))))
    rintro _ w1 ⟨x7_, m8_, rfl, hf11_4, hf11_4_1, hO⟩
    refine (?_ : CL _ _ _ _ _ _ (Own w [] [Res.row b9 3 [Vj m8_]])) w1 (hw.frameL [0] rfl hO)
    refine l_as rfl (l_end (c_reg (a_ldo 0 (v := Vj m8_) rfl rfl rfl rfl (l_end (c_block (c_reg (l_eq rfl rfl rfl (l_as rfl (l_end (c_dec rfl (fun c3 => ?_) (fun c3 => ?_)))))))))))
    ·
     refine c_reg (l_mv rfl (l_as rfl (l_as rfl (l_end ?_))))
     exact c_ret (ret2 (v := Vj x7_) (v' := Vi 1) rfl rfl rfl (fun w' hw => ⟨x7_, 1, rfl, ⟨by omega, by omega⟩, hw.drop⟩))
    ·
     refine c_reg (l_eq rfl rfl rfl (l_as rfl (l_end (c_dec rfl (fun c4 => ?_) (fun c4 => ?_)))))
     ·
      refine c_reg (l_mv rfl (l_as rfl (l_as rfl (l_end ?_))))
      exact c_ret (ret2 (v := Vj x7_) (v' := Vi 2) rfl rfl rfl (fun w' hw => ⟨x7_, 2, rfl, ⟨by omega, by omega⟩, hw.drop⟩))
     ·
      refine c_reg (l_mv rfl (l_as rfl (l_as rfl (l_end ?_))))
      exact c_ret (ret2 (v := Vj x7_) (v' := Vi 0) rfl rfl rfl (fun w' hw => ⟨x7_, 0, rfl, ⟨by omega, by omega⟩, hw.drop⟩))
   ·
    refine c_skipC (c_last (l_mv rfl (l_mv rfl (l_mv rfl (l_mv rfl (a_call rfl rfl (fun w' hw => (median_u v l (a + (((b - a) / 4) * 1)) (a + (((b - a) / 4) * 2)) (a + (((b - a) / 4) * 3)) 0 b9 w' (by first | omega | (simp <;> omega)) (by first | omega | (simp <;> omega)) (by first | omega | (simp <;> omega)) (by first | assumption | omega | (simp <;> omega) | (constructor <;> (first | omega | (simp only [LenOk]; omega) | (simp <;> omega)))) (by first | omega | (simp <;> omega)) (hw.give [0] rfl (by decide)) (hw.rdTo hv [0] rfl)).mono ?_)))))))
    rintro _ w1 ⟨x9_, m10_, rfl, hf11_4, hf11_4_1, hO⟩
    refine (?_ : CL _ _ _ _ _ _ (Own w [] [Res.row b9 3 [Vj m10_]])) w1 (hw.frameL [0] rfl hO)
    refine l_as rfl (l_end (c_reg (a_ldo 0 (v := Vj m10_) rfl rfl rfl rfl (l_end (c_block (c_reg (l_eq rfl rfl rfl (l_as rfl (l_end (c_dec rfl (fun c5 => ?_) (fun c5 => ?_)))))))))))
    ·
     refine c_reg (l_mv rfl (l_as rfl (l_as rfl (l_end ?_))))
     exact c_ret (ret2 (v := Vj x9_) (v' := Vi 1) rfl rfl rfl (fun w' hw => ⟨x9_, 1, rfl, ⟨by omega, by omega⟩, hw.drop⟩))
    ·
     refine c_reg (l_eq rfl rfl rfl (l_as rfl (l_end (c_dec rfl (fun c6 => ?_) (fun c6 => ?_)))))
     ·
      refine c_reg (l_mv rfl (l_as rfl (l_as rfl (l_end ?_))))
      exact c_ret (ret2 (v := Vj x9_) (v' := Vi 2) rfl rfl rfl (fun w' hw => ⟨x9_, 2, rfl, ⟨by omega, by omega⟩, hw.drop⟩))
     ·
      refine c_reg (l_mv rfl (l_as rfl (l_as rfl (l_end ?_))))
      exact c_ret (ret2 (v := Vj x9_) (v' := Vi 0) rfl rfl rfl (fun w' hw => ⟨x9_, 0, rfl, ⟨by omega, by omega⟩, hw.drop⟩))
  ·
   refine c_skipC (c_reg (a_ldo 0 (v := Vi 0) rfl rfl rfl rfl (l_end (c_block (c_reg (l_eq rfl rfl rfl (l_as rfl (l_end (c_dec rfl (fun c7 => ?_) (fun c7 => ?_))))))))))
   ·
    refine c_reg (l_mv rfl (l_as rfl (l_as rfl (l_end ?_))))
    exact c_ret (ret2 (v := Vj (a + (((b - a) / 4) * 2))) (v' := Vi 1) rfl rfl rfl (fun w' hw => ⟨a + (((b - a) / 4) * 2), 1, rfl, ⟨by omega, by omega⟩, hw.drop⟩))
   ·
    refine c_reg (l_eq rfl rfl rfl (l_as rfl (l_end (c_dec rfl (fun c8 => ?_) (fun c8 => ?_)))))
    ·
     refine c_reg (l_mv rfl (l_as rfl (l_as rfl (l_end ?_))))
     exact c_ret (ret2 (v := Vj (a + (((b - a) / 4) * 2))) (v' := Vi 2) rfl rfl rfl (fun w' hw => ⟨a + (((b - a) / 4) * 2), 2, rfl, ⟨by omega, by omega⟩, hw.drop⟩))
    ·
     refine c_reg (l_mv rfl (l_as rfl (l_as rfl (l_end ?_))))
     exact c_ret (ret2 (v := Vj (a + (((b - a) / 4) * 2))) (v' := Vi 0) rfl rfl rfl (fun w' hw => ⟨a + (((b - a) / 4) * 2), 0, rfl, ⟨by omega, by omega⟩, hw.drop⟩))
theorem breakP_u {S : List Nat} (v : Value) (l : List Nat) (a b : Nat) (w : World) (ha : a ≤ b) (hb : b ≤ l.length) (hl : LenOk l.length) (hin : Own w S [Res.vec 28 1 v l.length (l.flatMap U1)] w) : Rets Tryz.prog 143 #[v, Vj a, Vj b] w fun u_ w' => ∃ (l' : List Nat), u_ = .tuple #[] ∧ Same a b l l' ∧ Own w S [Res.vec 28 1 v l'.length (l'.flatMap U1)] w' := by
  refine fn_own Tryz.func143 rfl Tryz.ntmps143 hin ?_
  refine c_reg (l_mv rfl (l_mv rfl (l_sub (c := ((b - a : Nat) : Int)) rfl rfl (wsi (by omega) (by omega)) rfl (l_as rfl (l_end (c_reg (l_mv rfl (l_geq rfl rfl rfl (l_end (c_dec rfl (fun c1 => ?_) (fun c1 => ?_)))))))))))
  ·
   have hM := pow_le (n := b - a) (by omega)
   have hM2 : 2 ^ bitLen (b - a) ≤ 4000000000000 := Nat.le_trans hM.1 (by omega)
   refine c_reg (l_mv rfl (l_cvt (by kernel_rfl) rfl (wu64 (by omega)) rfl ?_ (by kernel_rfl)))
   refine l_new (v := Vn 0) (by kernel_rfl) rfl (fun b7 => a_st (cs := [Vn 0]) 1 rfl rfl rfl rfl rfl (l_end (c_reg (l_mv rfl (a_call rfl rfl (fun w' hw => (np2_s (b - a) w' (by first | omega | (simp <;> omega))).mono ?_))))))
   rintro _ w1 ⟨rfl, hO⟩
   refine (?_ : CL _ _ _ _ _ _ (Own w S [Res.vec 28 1 v l.length (l.flatMap U1), Res.row b7 237 [Vn (b - a)]])) w1 (hw.frame0 hO)
   refine l_as rfl (l_end (c_reg (l_mv rfl (l_mv rfl (l_quo (c := (((b - a) / 4 : Nat) : Int)) rfl rfl (by decide) (qui (b := 4) (by omega)) rfl (l_mul rfl rfl (wi64 (by omega)) rfl (l_add rfl rfl (wi64 (by omega)) rfl (l_sub (c := ((a + (b - a) / 4 * 2 - 1 : Nat) : Int)) rfl rfl (wsi1 (a := a + (b - a) / 4 * 2) (by omega) (by omega)) rfl (l_as rfl (l_end (c_block ?_)))))))))))
   refine c_loop3 (fun (i : Nat) (q : List Nat) (y : Int) => [(0, v), (1, Vj a), (6, Vj (b - a)), (7, .pointer (some ⟨b7, 0, none⟩)), (8, Vn (2 ^ bitLen (b - a))), (9, Vj i)]) (fun (i : Nat) (q : List Nat) (y : Int) => (a + (b - a) / 4 * 2 ≤ i + 1 ∧ i ≤ a + (b - a) / 4 * 2 + 2) ∧ Same a b l q) (fun (i : Nat) (q : List Nat) (y : Int) => [Res.vec 28 1 v q.length (q.flatMap U1), Res.row b7 237 [.int .u64 y]]) (fun (i : Nat) (q : List Nat) (y : Int) => a + (b - a) / 4 * 2 + 2 - i) (fun w' hw => ⟨a + (b - a) / 4 * 2 - 1, l, ((b - a : Nat) : Int), ⟨rfl, rfl, rfl, rfl, rfl, rfl, trivial⟩, ⟨⟨by omega, by omega⟩, Same.refl _ _ _⟩, hw⟩) (fun i q y g hΦ => ?_)
   have hi1 := hΦ.1
   have hS1 := hΦ.2
   have hq1 := hS1.len
   refine c_seq (c_reg (l_mv rfl (l_mv rfl (l_mv rfl (l_quo (c := (((b - a) / 4 : Nat) : Int)) rfl rfl (by decide) (qui (b := 4) (by omega)) rfl (l_mul rfl rfl (wi64 (by omega)) rfl (l_add rfl rfl (wi64 (by omega)) rfl (l_add rfl rfl (wi64 (by omega)) rfl (l_leq rfl rfl rfl (l_end (c_dec rfl (fun c2 => ?_) (fun c2 => ?_))))))))))))
   ·
    refine c_skipC (c_cut2 (fun (n : List Nat) (y2 : Int) => [(0, v), (1, Vj a), (6, Vj (b - a)), (7, .pointer (some ⟨b7, 0, none⟩)), (8, Vn (2 ^ bitLen (b - a))), (9, Vj i)]) (fun (n : List Nat) (y2 : Int) => ∃ z, z < b - a ∧ n = swp q i (a + z)) (fun (n : List Nat) (y2 : Int) => [Res.vec 28 1 v n.length (n.flatMap U1), Res.row b7 237 [.int .u64 y2]]) ?_ (fun n y2 g hΦ => ?_))
    ·
     refine c_block (c_reg (a_call rfl rfl (fun w' hw => (next_s b7 y w' (hw.give [1] rfl (by decide))).mono ?_)))
     rintro _ w1 ⟨y1_, rfl, hO⟩
     have hz := and_lt (y := y1_) hM.2 hM2
     have hz2 := Nat.lt_of_lt_of_le hz hM.1
     refine (?_ : CL _ _ _ _ _ _ (Own w S [Res.vec 28 1 v q.length (q.flatMap U1), Res.row b7 237 [.int .u64 y1_]])) w1 (hw.frameL [1] rfl hO)
     refine l_mv rfl (l_sub (c := ((2 ^ bitLen (b - a) - 1 : Nat) : Int)) rfl rfl (ws (b := 1) hM.2 (Nat.lt_of_le_of_lt hM2 (by decide))) rfl (l_and (c := ((((y1_ % 18446744073709551616).toNat &&& (2 ^ bitLen (b - a) - 1)) : Nat) : Int)) rfl rfl (and_wrap hM.2 hM2) rfl (l_cvt (by kernel_rfl) rfl (wi64 (by omega)) rfl ?_ (by kernel_rfl))))
     refine l_as rfl (l_end (c_cut1 (fun (z : Nat) => [(0, v), (1, Vj a), (6, Vj (b - a)), (7, .pointer (some ⟨b7, 0, none⟩)), (8, Vn (2 ^ bitLen (b - a))), (9, Vj i), (10, Vj z)]) (fun (z : Nat) => z < b - a) (fun (z : Nat) => [Res.vec 28 1 v q.length (q.flatMap U1), Res.row b7 237 [.int .u64 y1_]]) ?_ (fun z g hΦ => ?_)))
     ·
      refine c_reg (l_mv rfl (l_mv rfl (l_geq rfl rfl rfl (l_end (c_dec rfl (fun c3 => ?_) (fun c3 => ?_))))))
      ·
       refine c_last (l_mv rfl (l_mv rfl (l_sub (c := ((((y1_ % 18446744073709551616).toNat &&& (2 ^ bitLen (b - a) - 1)) - (b - a) : Nat) : Int)) rfl rfl (wsi (by omega) (by omega)) rfl (l_as rfl ?_))))
       exact l_nil (fun w' hw => ⟨((y1_ % 18446744073709551616).toNat &&& (2 ^ bitLen (b - a) - 1)) - (b - a), ⟨rfl, rfl, rfl, rfl, rfl, rfl, rfl, trivial⟩, by omega, hw⟩)
      ·
       exact c_skip (fun w' hw => ⟨((y1_ % 18446744073709551616).toNat &&& (2 ^ bitLen (b - a) - 1)), ⟨rfl, rfl, rfl, rfl, rfl, rfl, rfl, trivial⟩, by omega, hw⟩)
     have hzz := hΦ
     refine c_heldo [1] rfl (by decide) (by kernel_rfl) (fun w' hw hS => g_tk 0 rfl (v_mv) hS (g_tk 1 rfl (v_mv) hS (g_tk 2 rfl (v_mv) hS (g_tk 3 rfl (v_mv) hS (g_tk 4 rfl (v_mv) hS (g_tk 5 rfl (v_add rfl rfl (wi64 (by omega))) hS (g_tk 6 rfl (v_mv) hS (g_tk 7 rfl (v_mv) hS (g_tk 8 rfl (v_mv) hS (g_tk 9 rfl (v_add rfl rfl (wi64 (by omega))) hS (g_tk 12 rfl (v_mv) hS (g_tk 13 rfl (v_mv) hS ?_))))))))))))
     refine g_pick2 10 14 ?_ ?_
     ·
      refine pk_of 10 rfl hw (a_idxP (pV 0 rfl) 1 (a + z) rfl rfl rfl (by omega) rfl (l_nilH [1] rfl (by decide) (fun w' hw hS => g_pick2 11 14 ?_ ?_)))
      ·
       refine pk_of 11 rfl hw (a_ldP (pV 0 rfl) 1 (a + z) 0 (fun _ => rfl) rfl rfl (by omega) rfl rfl (l_nilH [1] rfl (by decide) (fun w' hw hS => g_one 14 rfl hw (a_idxP (pV 0 rfl) 1 i rfl rfl rfl (by omega) rfl (l_nilH [1] rfl (by decide) (fun w' hw hS => g_one 15 rfl hw (a_ldP (pV 0 rfl) 1 i 0 (fun _ => rfl) rfl rfl (by omega) rfl rfl (l_nilH [1] rfl (by decide) (fun w' hw hS => g_one 16 rfl hw (a_idxP (pV 0 rfl) 1 i rfl rfl rfl (by omega) rfl (l_nilH [1] rfl (by decide) (fun w' hw hS => g_one 17 rfl hw ?_))))))))))))
       refine a_stE 0 i (nth q (a + z)) rfl (fun _ => rfl) rfl (by omega) rfl rfl rfl (by omega) (l_nilH [1] rfl (by decide) (fun w' hw hS => g_one 18 rfl hw (a_idxP (pV 0 rfl) 1 (a + z) rfl rfl rfl (by simp only [List.length_set]; omega) rfl (l_nilH [1] rfl (by decide) (fun w' hw hS => g_one 19 rfl hw (a_stE 0 (a + z) (nth q i) rfl (fun _ => rfl) rfl (by omega) rfl rfl rfl (by simp only [List.length_set]; omega) (l_nilH [1] rfl (by decide) (fun w' hw hS => g_done ?_))))))))
       exact ⟨swp q i (a + z), y1_, ⟨rfl, rfl, rfl, rfl, rfl, rfl, trivial⟩, ⟨z, hzz, rfl⟩, hw⟩
      ·
       refine pk_of 14 rfl hw (a_idxP (pV 0 rfl) 1 i rfl rfl rfl (by omega) rfl (l_nilH [1] rfl (by decide) (fun w' hw hS => g_pick2 11 15 ?_ ?_)))
       ·
        refine pk_of 11 rfl hw (a_ldP (pV 0 rfl) 1 (a + z) 0 (fun _ => rfl) rfl rfl (by omega) rfl rfl (l_nilH [1] rfl (by decide) (fun w' hw hS => g_one 15 rfl hw (a_ldP (pV 0 rfl) 1 i 0 (fun _ => rfl) rfl rfl (by omega) rfl rfl (l_nilH [1] rfl (by decide) (fun w' hw hS => g_one 16 rfl hw (a_idxP (pV 0 rfl) 1 i rfl rfl rfl (by omega) rfl (l_nilH [1] rfl (by decide) (fun w' hw hS => g_one 17 rfl hw (a_stE 0 i (nth q (a + z)) rfl (fun _ => rfl) rfl (by omega) rfl rfl rfl (by omega) (l_nilH [1] rfl (by decide) (fun w' hw hS => g_one 18 rfl hw ?_))))))))))))
        refine a_idxP (pV 0 rfl) 1 (a + z) rfl rfl rfl (by simp only [List.length_set]; omega) rfl (l_nilH [1] rfl (by decide) (fun w' hw hS => g_one 19 rfl hw (a_stE 0 (a + z) (nth q i) rfl (fun _ => rfl) rfl (by omega) rfl rfl rfl (by simp only [List.length_set]; omega) (l_nilH [1] rfl (by decide) (fun w' hw hS => g_done ?_)))))
        exact ⟨swp q i (a + z), y1_, ⟨rfl, rfl, rfl, rfl, rfl, rfl, trivial⟩, ⟨z, hzz, rfl⟩, hw⟩
       ·
        refine pk_of 15 rfl hw (a_ldP (pV 0 rfl) 1 i 0 (fun _ => rfl) rfl rfl (by omega) rfl rfl (l_nilH [1] rfl (by decide) (fun w' hw hS => g_one 11 rfl hw (a_ldP (pV 0 rfl) 1 (a + z) 0 (fun _ => rfl) rfl rfl (by omega) rfl rfl (l_nilH [1] rfl (by decide) (fun w' hw hS => g_one 16 rfl hw (a_idxP (pV 0 rfl) 1 i rfl rfl rfl (by omega) rfl (l_nilH [1] rfl (by decide) (fun w' hw hS => g_one 17 rfl hw (a_stE 0 i (nth q (a + z)) rfl (fun _ => rfl) rfl (by omega) rfl rfl rfl (by omega) (l_nilH [1] rfl (by decide) (fun w' hw hS => g_one 18 rfl hw ?_))))))))))))
        refine a_idxP (pV 0 rfl) 1 (a + z) rfl rfl rfl (by simp only [List.length_set]; omega) rfl (l_nilH [1] rfl (by decide) (fun w' hw hS => g_one 19 rfl hw (a_stE 0 (a + z) (nth q i) rfl (fun _ => rfl) rfl (by omega) rfl rfl rfl (by simp only [List.length_set]; omega) (l_nilH [1] rfl (by decide) (fun w' hw hS => g_done ?_)))))
        exact ⟨swp q i (a + z), y1_, ⟨rfl, rfl, rfl, rfl, rfl, rfl, trivial⟩, ⟨z, hzz, rfl⟩, hw⟩
     ·
      refine pk_of 14 rfl hw (a_idxP (pV 0 rfl) 1 i rfl rfl rfl (by omega) rfl (l_nilH [1] rfl (by decide) (fun w' hw hS => g_pick2 10 15 ?_ ?_)))
      ·
       refine pk_of 10 rfl hw (a_idxP (pV 0 rfl) 1 (a + z) rfl rfl rfl (by omega) rfl (l_nilH [1] rfl (by decide) (fun w' hw hS => g_pick2 11 15 ?_ ?_)))
       ·
        refine pk_of 11 rfl hw (a_ldP (pV 0 rfl) 1 (a + z) 0 (fun _ => rfl) rfl rfl (by omega) rfl rfl (l_nilH [1] rfl (by decide) (fun w' hw hS => g_one 15 rfl hw (a_ldP (pV 0 rfl) 1 i 0 (fun _ => rfl) rfl rfl (by omega) rfl rfl (l_nilH [1] rfl (by decide) (fun w' hw hS => g_one 16 rfl hw (a_idxP (pV 0 rfl) 1 i rfl rfl rfl (by omega) rfl (l_nilH [1] rfl (by decide) (fun w' hw hS => g_one 17 rfl hw (a_stE 0 i (nth q (a + z)) rfl (fun _ => rfl) rfl (by omega) rfl rfl rfl (by omega) (l_nilH [1] rfl (by decide) (fun w' hw hS => g_one 18 rfl hw ?_))))))))))))
        refine a_idxP (pV 0 rfl) 1 (a + z) rfl rfl rfl (by simp only [List.length_set]; omega) rfl (l_nilH [1] rfl (by decide) (fun w' hw hS => g_one 19 rfl hw (a_stE 0 (a + z) (nth q i) rfl (fun _ => rfl) rfl (by omega) rfl rfl rfl (by simp only [List.length_set]; omega) (l_nilH [1] rfl (by decide) (fun w' hw hS => g_done ?_)))))
        exact ⟨swp q i (a + z), y1_, ⟨rfl, rfl, rfl, rfl, rfl, rfl, trivial⟩, ⟨z, hzz, rfl⟩, hw⟩
       ·
        refine pk_of 15 rfl hw (a_ldP (pV 0 rfl) 1 i 0 (fun _ => rfl) rfl rfl (by omega) rfl rfl (l_nilH [1] rfl (by decide) (fun w' hw hS => g_one 11 rfl hw (a_ldP (pV 0 rfl) 1 (a + z) 0 (fun _ => rfl) rfl rfl (by omega) rfl rfl (l_nilH [1] rfl (by decide) (fun w' hw hS => g_one 16 rfl hw (a_idxP (pV 0 rfl) 1 i rfl rfl rfl (by omega) rfl (l_nilH [1] rfl (by decide) (fun w' hw hS => g_one 17 rfl hw (a_stE 0 i (nth q (a + z)) rfl (fun _ => rfl) rfl (by omega) rfl rfl rfl (by omega) (l_nilH [1] rfl (by decide) (fun w' hw hS => g_one 18 rfl hw ?_))))))))))))
        refine a_idxP (pV 0 rfl) 1 (a + z) rfl rfl rfl (by simp only [List.length_set]; omega) rfl (l_nilH [1] rfl (by decide) (fun w' hw hS => g_one 19 rfl hw (a_stE 0 (a + z) (nth q i) rfl (fun _ => rfl) rfl (by omega) rfl rfl rfl (by simp only [List.length_set]; omega) (l_nilH [1] rfl (by decide) (fun w' hw hS => g_done ?_)))))
        exact ⟨swp q i (a + z), y1_, ⟨rfl, rfl, rfl, rfl, rfl, rfl, trivial⟩, ⟨z, hzz, rfl⟩, hw⟩
      ·
       refine pk_of 15 rfl hw (a_ldP (pV 0 rfl) 1 i 0 (fun _ => rfl) rfl rfl (by omega) rfl rfl (l_nilH [1] rfl (by decide) (fun w' hw hS => g_one 10 rfl hw (a_idxP (pV 0 rfl) 1 (a + z) rfl rfl rfl (by omega) rfl (l_nilH [1] rfl (by decide) (fun w' hw hS => g_one 11 rfl hw (a_ldP (pV 0 rfl) 1 (a + z) 0 (fun _ => rfl) rfl rfl (by omega) rfl rfl (l_nilH [1] rfl (by decide) (fun w' hw hS => g_one 16 rfl hw (a_idxP (pV 0 rfl) 1 i rfl rfl rfl (by omega) rfl (l_nilH [1] rfl (by decide) (fun w' hw hS => g_one 17 rfl hw ?_))))))))))))
       refine a_stE 0 i (nth q (a + z)) rfl (fun _ => rfl) rfl (by omega) rfl rfl rfl (by omega) (l_nilH [1] rfl (by decide) (fun w' hw hS => g_one 18 rfl hw (a_idxP (pV 0 rfl) 1 (a + z) rfl rfl rfl (by simp only [List.length_set]; omega) rfl (l_nilH [1] rfl (by decide) (fun w' hw hS => g_one 19 rfl hw (a_stE 0 (a + z) (nth q i) rfl (fun _ => rfl) rfl (by omega) rfl rfl rfl (by simp only [List.length_set]; omega) (l_nilH [1] rfl (by decide) (fun w' hw hS => g_done ?_))))))))
       exact ⟨swp q i (a + z), y1_, ⟨rfl, rfl, rfl, rfl, rfl, rfl, trivial⟩, ⟨z, hzz, rfl⟩, hw⟩
    obtain ⟨z, hzz, hn⟩ := hΦ
    refine c_last (l_mv rfl (l_add rfl rfl (wi64 (by omega)) rfl (l_as rfl ?_)))
    exact l_nil (fun w' hw => ⟨i + 1, n, y2, ⟨rfl, rfl, rfl, rfl, rfl, rfl, trivial⟩, ⟨⟨by omega, by omega⟩, by rw [hn]; exact hS1.then_swp ⟨by omega, by omega⟩ ⟨by omega, by omega⟩ hb⟩, hw, (by omega)⟩)
   ·
    exact c_exit rfl (ret0 rfl (fun w' hw => ⟨q, rfl, hS1, hw.sel [0] rfl (by decide)⟩))
  ·
   exact c_skip (ret0 rfl (fun w' hw => ⟨l, rfl, Same.refl _ _ _, hw⟩))
end Go.Proofs.YthincafbmpialaaGreat
