/-
  THE WALKS OF the library's sort, over numbers of 64 bits: a little order, and the pivot.
-/
import Derived.Test.YtgcmbdgimepnmaaGreatSortU
set_option linter.unusedVariables false
set_option maxRecDepth 10000
namespace Go.Proofs.YtgcmbdgimepnmaaGreat
open Go Go.Sc Go.Proofs

theorem partIns_u {S : List Nat} (v : Value) (l : List Nat) (a b : Nat) (w : World) (ha : a < b) (hb : b ≤ l.length) (hl : LenOk l.length) (hpr : Pred a b l) (hin : Own w S [Res.vec 23 1 v l.length (l.flatMap U1)] w) : Rets Tryz.prog 96 #[v, .int .i64 (a : Nat), .int .i64 (b : Nat)] w fun u_ w' => ∃ (l' : List Nat) (r : Bool), u_ = .bool r ∧ Same a b l l' ∧ (r = true → Up a b l') ∧ Own w S [Res.vec 23 1 v l'.length (l'.flatMap U1)] w' := by
  refine fn_enter (args := [v, .int .i64 (a : Nat), .int .i64 (b : Nat)]) Tryz.func96 rfl Tryz.ntmps96 rfl (show Own w S [Res.vec 23 1 v l.length (l.flatMap U1)] w from hin) ?_
  refine c_reg (l_as rfl (l_end (c_reg (l_mv rfl (l_add rfl rfl (wi64 (by omega)) rfl (l_as rfl (l_end (c_seq (c_reg (l_as rfl (l_end (c_block ?_))))))))))))
  refine c_loop3 (fun (j i : Nat) (q : List Nat) => [(0, v), (1, .int .i64 (a : Nat)), (2, .int .i64 (b : Nat)), (7, .int .i64 (i : Nat)), (8, .int .i64 (j : Nat))]) (fun (j i : Nat) (q : List Nat) => ((a + 1 ≤ i ∧ i ≤ b) ∧ j ≤ 5) ∧ Same a b l q ∧ Up a i q) (fun (j i : Nat) (q : List Nat) => [Res.vec 23 1 v q.length (q.flatMap U1)]) (fun (j i : Nat) (q : List Nat) => 5 - j) (fun w' hw => ⟨0, a + 1, l, ⟨rfl, rfl, rfl, rfl, rfl, trivial⟩, ⟨⟨⟨by omega, by omega⟩, by omega⟩, Same.refl _ _ _, Up.one (by omega)⟩, hw⟩) (fun j i q g hΦ => ?_)
  have hi1 := hΦ.1
  have hS1 := hΦ.2.1
  have hU1 := hΦ.2.2
  have hq1 := hS1.len
  refine c_seq (c_reg (l_mv rfl (l_lss rfl rfl rfl (l_end (c_dec rfl (fun c1 => ?_) (fun c1 => ?_))))))
  ·
   refine c_skipC (c_seq (c_block (c_cut1 (fun (i2 : Nat) => [(0, v), (1, .int .i64 (a : Nat)), (2, .int .i64 (b : Nat)), (7, .int .i64 (i2 : Nat)), (8, .int .i64 (j : Nat))]) (fun (i2 : Nat) => (a + 1 ≤ i2 ∧ i2 ≤ b) ∧ Up a i2 q) (fun (i2 : Nat) => [Res.vec 23 1 v q.length (q.flatMap U1)]) ?_ (fun i2 g hΦ => ?_))))
   ·
    refine c_block ?_
    refine c_loop1 (fun (i2 : Nat) => [(0, v), (1, .int .i64 (a : Nat)), (2, .int .i64 (b : Nat)), (7, .int .i64 (i2 : Nat)), (8, .int .i64 (j : Nat))]) (fun (i2 : Nat) => (a + 1 ≤ i2 ∧ i2 ≤ b) ∧ Up a i2 q) (fun (i2 : Nat) => [Res.vec 23 1 v q.length (q.flatMap U1)]) (fun (i2 : Nat) => b - i2) (fun w' hw => ⟨i, ⟨rfl, rfl, rfl, rfl, rfl, trivial⟩, ⟨⟨by omega, by omega⟩, hU1⟩, hw⟩) (fun i2 g hΦ => ?_)
    have hi2 := hΦ.1
    have hU2 := hΦ.2
    refine c_seq (c_seq (c_heldo [0] rfl (by decide) (by kernel_rfl) (fun w' hw hS => h_tk 0 rfl (by kernel_rfl) (v_mv) hS (h_tk 1 rfl (by kernel_rfl) (v_mv) hS (h_tk 2 rfl (by kernel_rfl) (v_lss rfl rfl) hS (h_tk 3 rfl (by kernel_rfl) (v_mv) hS ?_))))))
    by_cases g5_3 : ((i2 : Nat) : Int) < ((b : Nat) : Int)
    ·
     refine h_tkg 4 rfl rfl (gT g5_3) (by kernel_rfl) (v_mv) hS (h_tkg 5 rfl rfl (gT g5_3) (by kernel_rfl) (v_mv) hS (h_tkg 6 rfl rfl (gT g5_3) (by kernel_rfl) (v_idxP (pV 0 rfl) 1 i2 rfl rfl (by kernel_rfl) rfl (by omega)) hS (h_tkg 7 rfl rfl (gT g5_3) (by kernel_rfl) (v_ldP (pV 0 rfl) 1 i2 0 (fun _ => rfl) rfl rfl (by omega) rfl (by kernel_rfl)) hS (h_tkg 8 rfl rfl (gT g5_3) (by kernel_rfl) (v_mv) hS (h_tkg 9 rfl rfl (gT g5_3) (by kernel_rfl) (v_mv) hS (h_tkg 10 rfl rfl (gT g5_3) (by kernel_rfl) (v_sub (c := ((i2 - 1 : Nat) : Int)) rfl rfl (wsi1 (by omega) (by omega))) hS (h_tkg 11 rfl rfl (gT g5_3) (by kernel_rfl) (v_idxP (pV 0 rfl) 1 (i2 - 1) rfl rfl (by kernel_rfl) rfl (by omega)) hS (h_tkg 12 rfl rfl (gT g5_3) (by kernel_rfl) (v_ldP (pV 0 rfl) 1 (i2 - 1) 0 (fun _ => rfl) rfl rfl (by omega) rfl (by kernel_rfl)) hS (h_one 13 (by kernel_rfl) rfl hw (l_on rfl (gT g5_3) (l_call (by kernel_rfl) rfl rfl (fun w' hw => (less_u (nth q i2) (nth q (i2 - 1)) w').mono ?_))))))))))))
     rintro _ w1 ⟨rfl, hO⟩
     refine (?_ : CL _ _ _ _ _ _ (Own w S [Res.vec 23 1 v q.length (q.flatMap U1)])) w1 (hw.frame0 hO)
     refine l_nilH [0] rfl (by decide) (fun w' hw hS => h_tkg 14 rfl rfl (gT g5_3) (by kernel_rfl) (v_notp (q := olt (nth q i2) (nth q (i2 - 1))) rfl) hS (h_tk 15 rfl (by kernel_rfl) (v_pickT (gT g5_3)) hS (h_done (by kernel_rfl) ?_)))
     refine (?_ : C _ _ _ _ _ _ _ (Own w S [Res.vec 23 1 v q.length (q.flatMap U1)])) _ hw
     refine c_dec rfl (fun c2 => ?_) (fun c2 => ?_)
     ·
      refine c_skipC (c_block (c_last (l_mv rfl (l_add rfl rfl (wi64 (by omega)) rfl (l_as rfl ?_)))))
      exact l_nil (fun w' hw => ⟨i2 + 1, ⟨rfl, rfl, rfl, rfl, rfl, trivial⟩, ⟨⟨by omega, by omega⟩, hU2.step c2⟩, hw, (by omega)⟩)
     ·
      exact c_exit rfl (fun w' hw => ⟨i2, ⟨rfl, rfl, rfl, rfl, rfl, trivial⟩, ⟨hi2, hU2⟩, hw⟩)
    ·
     refine h_ofg 4 rfl rfl (gF g5_3) rfl (by kernel_rfl) hS (h_ofg 5 rfl rfl (gF g5_3) rfl (by kernel_rfl) hS (h_ofg 6 rfl rfl (gF g5_3) rfl (by kernel_rfl) hS (h_ofg 7 rfl rfl (gF g5_3) rfl (by kernel_rfl) hS (h_ofg 8 rfl rfl (gF g5_3) rfl (by kernel_rfl) hS (h_ofg 9 rfl rfl (gF g5_3) rfl (by kernel_rfl) hS (h_ofg 10 rfl rfl (gF g5_3) rfl (by kernel_rfl) hS (h_ofg 11 rfl rfl (gF g5_3) rfl (by kernel_rfl) hS (h_ofg 12 rfl rfl (gF g5_3) rfl (by kernel_rfl) hS (h_ofg 13 rfl rfl (gF g5_3) rfl (by kernel_rfl) hS (h_ofg 14 rfl rfl (gF g5_3) rfl (by kernel_rfl) hS (h_tk 15 rfl (by kernel_rfl) (v_pickF (gF g5_3)) hS (h_done (by kernel_rfl) ?_))))))))))))
     refine (?_ : C _ _ _ _ _ _ _ (Own w S [Res.vec 23 1 v q.length (q.flatMap U1)])) _ hw
     refine c_no rfl ?_
     exact c_exit rfl (fun w' hw => ⟨i2, ⟨rfl, rfl, rfl, rfl, rfl, trivial⟩, ⟨hi2, hU2⟩, hw⟩)
   have hi3 := hΦ.1
   have hU3 := hΦ.2
   refine c_seq (c_reg (l_mv rfl (l_mv rfl (l_eq rfl rfl rfl (l_end (c_dec rfl (fun c4 => ?_) (fun c4 => ?_)))))))
   ·
    refine c_reg (l_as rfl (l_end ?_))
    exact c_ret (ret1 (v := .bool true) rfl rfl (fun w' hw => ⟨q, true, rfl, hS1, (fun _ => by rw [show b = i2 by omega]; exact hU3), hw⟩))
   ·
    refine c_skipC (c_seq (c_reg (l_mv rfl (l_mv rfl (l_sub rfl rfl (wi64 (by omega)) rfl (l_lss rfl rfl rfl (l_end (c_dec rfl (fun c5 => ?_) (fun c5 => ?_)))))))))
    ·
     refine c_reg (l_as rfl (l_end ?_))
     exact c_ret (ret1 (v := .bool false) rfl rfl (fun w' hw => ⟨q, false, rfl, hS1, (fun h => by cases h), hw⟩))
    ·
     refine c_skipC (c_cut1 (fun (n : List Nat) => [(0, v), (1, .int .i64 (a : Nat)), (2, .int .i64 (b : Nat)), (7, .int .i64 (i2 : Nat)), (8, .int .i64 (j : Nat))]) (fun (n : List Nat) => n = swp q i2 (i2 - 1)) (fun (n : List Nat) => [Res.vec 23 1 v n.length (n.flatMap U1)]) ?_ (fun n g hΦ => ?_))
     ·
      refine c_heldo [] rfl (by decide) (by kernel_rfl) (fun w' hw hS => h_tk 0 rfl (by kernel_rfl) (v_mv) hS (h_tk 1 rfl (by kernel_rfl) (v_mv) hS (h_tk 2 rfl (by kernel_rfl) (v_mv) hS (h_tk 3 rfl (by kernel_rfl) (v_mv) hS (h_tk 4 rfl (by kernel_rfl) (v_sub (c := ((i2 - 1 : Nat) : Int)) rfl rfl (wsi1 (by omega) (by omega))) hS (h_tk 5 rfl (by kernel_rfl) (v_mv) hS (h_tk 6 rfl (by kernel_rfl) (v_mv) hS (h_tk 7 rfl (by kernel_rfl) (v_sub (c := ((i2 - 1 : Nat) : Int)) rfl rfl (wsi1 (by omega) (by omega))) hS (h_tk 10 rfl (by kernel_rfl) (v_mv) hS (h_tk 11 rfl (by kernel_rfl) (v_mv) hS (h_pick2 (i := 8) (j := 12) (by kernel_rfl) ?_ ?_)))))))))))
      ·
       refine pk_of 8 rfl hw (l_idxP (pV 0 rfl) 1 (i2 - 1) rfl rfl (by kernel_rfl) rfl (by omega) rfl (l_nilH [] rfl (by decide) (fun w' hw hS => h_pick2 (i := 9) (j := 12) (by kernel_rfl) ?_ ?_)))
       ·
        refine pk_of 9 rfl hw (l_ldP (pV 0 rfl) 1 (i2 - 1) 0 (fun _ => rfl) rfl rfl (by omega) rfl (by kernel_rfl) rfl (l_nilH [] rfl (by decide) (fun w' hw hS => h_one 12 (by kernel_rfl) rfl hw (l_idxP (pV 0 rfl) 1 i2 rfl rfl (by kernel_rfl) rfl (by omega) rfl (l_nilH [] rfl (by decide) (fun w' hw hS => h_one 13 (by kernel_rfl) rfl hw (l_ldP (pV 0 rfl) 1 i2 0 (fun _ => rfl) rfl rfl (by omega) rfl (by kernel_rfl) rfl (l_nilH [] rfl (by decide) (fun w' hw hS => h_one 14 (by kernel_rfl) rfl hw (l_idxP (pV 0 rfl) 1 i2 rfl rfl (by kernel_rfl) rfl (by omega) rfl (l_nilH [] rfl (by decide) (fun w' hw hS => h_one 15 (by kernel_rfl) rfl hw ?_))))))))))))
        refine l_stE 0 i2 (nth q (i2 - 1)) rfl (fun _ => rfl) rfl (by omega) rfl rfl rfl (by omega) (by kernel_rfl) (l_nilH [] rfl (by decide) (fun w' hw hS => h_one 16 (by kernel_rfl) rfl hw (l_idxP (pV 0 rfl) 1 (i2 - 1) rfl rfl (by kernel_rfl) rfl (by simp only [List.length_set]; omega) rfl (l_nilH [] rfl (by decide) (fun w' hw hS => h_one 17 (by kernel_rfl) rfl hw (l_stE 0 (i2 - 1) (nth q i2) rfl (fun _ => rfl) rfl (by omega) rfl rfl rfl (by simp only [List.length_set]; omega) (by kernel_rfl) (l_nilH [] rfl (by decide) (fun w' hw hS => h_done (by kernel_rfl) ?_))))))))
        exact ⟨swp q i2 (i2 - 1), ⟨rfl, rfl, rfl, rfl, rfl, trivial⟩, rfl, hw⟩
       ·
        refine pk_of 12 rfl hw (l_idxP (pV 0 rfl) 1 i2 rfl rfl (by kernel_rfl) rfl (by omega) rfl (l_nilH [] rfl (by decide) (fun w' hw hS => h_pick2 (i := 9) (j := 13) (by kernel_rfl) ?_ ?_)))
        ·
         refine pk_of 9 rfl hw (l_ldP (pV 0 rfl) 1 (i2 - 1) 0 (fun _ => rfl) rfl rfl (by omega) rfl (by kernel_rfl) rfl (l_nilH [] rfl (by decide) (fun w' hw hS => h_one 13 (by kernel_rfl) rfl hw (l_ldP (pV 0 rfl) 1 i2 0 (fun _ => rfl) rfl rfl (by omega) rfl (by kernel_rfl) rfl (l_nilH [] rfl (by decide) (fun w' hw hS => h_one 14 (by kernel_rfl) rfl hw (l_idxP (pV 0 rfl) 1 i2 rfl rfl (by kernel_rfl) rfl (by omega) rfl (l_nilH [] rfl (by decide) (fun w' hw hS => h_one 15 (by kernel_rfl) rfl hw (l_stE 0 i2 (nth q (i2 - 1)) rfl (fun _ => rfl) rfl (by omega) rfl rfl rfl (by omega) (by kernel_rfl) (l_nilH [] rfl (by decide) (fun w' hw hS => h_one 16 (by kernel_rfl) rfl hw ?_))))))))))))
         refine l_idxP (pV 0 rfl) 1 (i2 - 1) rfl rfl (by kernel_rfl) rfl (by simp only [List.length_set]; omega) rfl (l_nilH [] rfl (by decide) (fun w' hw hS => h_one 17 (by kernel_rfl) rfl hw (l_stE 0 (i2 - 1) (nth q i2) rfl (fun _ => rfl) rfl (by omega) rfl rfl rfl (by simp only [List.length_set]; omega) (by kernel_rfl) (l_nilH [] rfl (by decide) (fun w' hw hS => h_done (by kernel_rfl) ?_)))))
         exact ⟨swp q i2 (i2 - 1), ⟨rfl, rfl, rfl, rfl, rfl, trivial⟩, rfl, hw⟩
        ·
         refine pk_of 13 rfl hw (l_ldP (pV 0 rfl) 1 i2 0 (fun _ => rfl) rfl rfl (by omega) rfl (by kernel_rfl) rfl (l_nilH [] rfl (by decide) (fun w' hw hS => h_one 9 (by kernel_rfl) rfl hw (l_ldP (pV 0 rfl) 1 (i2 - 1) 0 (fun _ => rfl) rfl rfl (by omega) rfl (by kernel_rfl) rfl (l_nilH [] rfl (by decide) (fun w' hw hS => h_one 14 (by kernel_rfl) rfl hw (l_idxP (pV 0 rfl) 1 i2 rfl rfl (by kernel_rfl) rfl (by omega) rfl (l_nilH [] rfl (by decide) (fun w' hw hS => h_one 15 (by kernel_rfl) rfl hw (l_stE 0 i2 (nth q (i2 - 1)) rfl (fun _ => rfl) rfl (by omega) rfl rfl rfl (by omega) (by kernel_rfl) (l_nilH [] rfl (by decide) (fun w' hw hS => h_one 16 (by kernel_rfl) rfl hw ?_))))))))))))
         refine l_idxP (pV 0 rfl) 1 (i2 - 1) rfl rfl (by kernel_rfl) rfl (by simp only [List.length_set]; omega) rfl (l_nilH [] rfl (by decide) (fun w' hw hS => h_one 17 (by kernel_rfl) rfl hw (l_stE 0 (i2 - 1) (nth q i2) rfl (fun _ => rfl) rfl (by omega) rfl rfl rfl (by simp only [List.length_set]; omega) (by kernel_rfl) (l_nilH [] rfl (by decide) (fun w' hw hS => h_done (by kernel_rfl) ?_)))))
         exact ⟨swp q i2 (i2 - 1), ⟨rfl, rfl, rfl, rfl, rfl, trivial⟩, rfl, hw⟩
      ·
       refine pk_of 12 rfl hw (l_idxP (pV 0 rfl) 1 i2 rfl rfl (by kernel_rfl) rfl (by omega) rfl (l_nilH [] rfl (by decide) (fun w' hw hS => h_pick2 (i := 8) (j := 13) (by kernel_rfl) ?_ ?_)))
       ·
        refine pk_of 8 rfl hw (l_idxP (pV 0 rfl) 1 (i2 - 1) rfl rfl (by kernel_rfl) rfl (by omega) rfl (l_nilH [] rfl (by decide) (fun w' hw hS => h_pick2 (i := 9) (j := 13) (by kernel_rfl) ?_ ?_)))
        ·
         refine pk_of 9 rfl hw (l_ldP (pV 0 rfl) 1 (i2 - 1) 0 (fun _ => rfl) rfl rfl (by omega) rfl (by kernel_rfl) rfl (l_nilH [] rfl (by decide) (fun w' hw hS => h_one 13 (by kernel_rfl) rfl hw (l_ldP (pV 0 rfl) 1 i2 0 (fun _ => rfl) rfl rfl (by omega) rfl (by kernel_rfl) rfl (l_nilH [] rfl (by decide) (fun w' hw hS => h_one 14 (by kernel_rfl) rfl hw (l_idxP (pV 0 rfl) 1 i2 rfl rfl (by kernel_rfl) rfl (by omega) rfl (l_nilH [] rfl (by decide) (fun w' hw hS => h_one 15 (by kernel_rfl) rfl hw (l_stE 0 i2 (nth q (i2 - 1)) rfl (fun _ => rfl) rfl (by omega) rfl rfl rfl (by omega) (by kernel_rfl) (l_nilH [] rfl (by decide) (fun w' hw hS => h_one 16 (by kernel_rfl) rfl hw ?_))))))))))))
         refine l_idxP (pV 0 rfl) 1 (i2 - 1) rfl rfl (by kernel_rfl) rfl (by simp only [List.length_set]; omega) rfl (l_nilH [] rfl (by decide) (fun w' hw hS => h_one 17 (by kernel_rfl) rfl hw (l_stE 0 (i2 - 1) (nth q i2) rfl (fun _ => rfl) rfl (by omega) rfl rfl rfl (by simp only [List.length_set]; omega) (by kernel_rfl) (l_nilH [] rfl (by decide) (fun w' hw hS => h_done (by kernel_rfl) ?_)))))
         exact ⟨swp q i2 (i2 - 1), ⟨rfl, rfl, rfl, rfl, rfl, trivial⟩, rfl, hw⟩
        ·
         refine pk_of 13 rfl hw (l_ldP (pV 0 rfl) 1 i2 0 (fun _ => rfl) rfl rfl (by omega) rfl (by kernel_rfl) rfl (l_nilH [] rfl (by decide) (fun w' hw hS => h_one 9 (by kernel_rfl) rfl hw (l_ldP (pV 0 rfl) 1 (i2 - 1) 0 (fun _ => rfl) rfl rfl (by omega) rfl (by kernel_rfl) rfl (l_nilH [] rfl (by decide) (fun w' hw hS => h_one 14 (by kernel_rfl) rfl hw (l_idxP (pV 0 rfl) 1 i2 rfl rfl (by kernel_rfl) rfl (by omega) rfl (l_nilH [] rfl (by decide) (fun w' hw hS => h_one 15 (by kernel_rfl) rfl hw (l_stE 0 i2 (nth q (i2 - 1)) rfl (fun _ => rfl) rfl (by omega) rfl rfl rfl (by omega) (by kernel_rfl) (l_nilH [] rfl (by decide) (fun w' hw hS => h_one 16 (by kernel_rfl) rfl hw ?_))))))))))))
         refine l_idxP (pV 0 rfl) 1 (i2 - 1) rfl rfl (by kernel_rfl) rfl (by simp only [List.length_set]; omega) rfl (l_nilH [] rfl (by decide) (fun w' hw hS => h_one 17 (by kernel_rfl) rfl hw (l_stE 0 (i2 - 1) (nth q i2) rfl (fun _ => rfl) rfl (by omega) rfl rfl rfl (by simp only [List.length_set]; omega) (by kernel_rfl) (l_nilH [] rfl (by decide) (fun w' hw hS => h_done (by kernel_rfl) ?_)))))
         exact ⟨swp q i2 (i2 - 1), ⟨rfl, rfl, rfl, rfl, rfl, trivial⟩, rfl, hw⟩
       ·
        refine pk_of 13 rfl hw (l_ldP (pV 0 rfl) 1 i2 0 (fun _ => rfl) rfl rfl (by omega) rfl (by kernel_rfl) rfl (l_nilH [] rfl (by decide) (fun w' hw hS => h_one 8 (by kernel_rfl) rfl hw (l_idxP (pV 0 rfl) 1 (i2 - 1) rfl rfl (by kernel_rfl) rfl (by omega) rfl (l_nilH [] rfl (by decide) (fun w' hw hS => h_one 9 (by kernel_rfl) rfl hw (l_ldP (pV 0 rfl) 1 (i2 - 1) 0 (fun _ => rfl) rfl rfl (by omega) rfl (by kernel_rfl) rfl (l_nilH [] rfl (by decide) (fun w' hw hS => h_one 14 (by kernel_rfl) rfl hw (l_idxP (pV 0 rfl) 1 i2 rfl rfl (by kernel_rfl) rfl (by omega) rfl (l_nilH [] rfl (by decide) (fun w' hw hS => h_one 15 (by kernel_rfl) rfl hw ?_))))))))))))
        refine l_stE 0 i2 (nth q (i2 - 1)) rfl (fun _ => rfl) rfl (by omega) rfl rfl rfl (by omega) (by kernel_rfl) (l_nilH [] rfl (by decide) (fun w' hw hS => h_one 16 (by kernel_rfl) rfl hw (l_idxP (pV 0 rfl) 1 (i2 - 1) rfl rfl (by kernel_rfl) rfl (by simp only [List.length_set]; omega) rfl (l_nilH [] rfl (by decide) (fun w' hw hS => h_one 17 (by kernel_rfl) rfl hw (l_stE 0 (i2 - 1) (nth q i2) rfl (fun _ => rfl) rfl (by omega) rfl rfl rfl (by simp only [List.length_set]; omega) (by kernel_rfl) (l_nilH [] rfl (by decide) (fun w' hw hS => h_done (by kernel_rfl) ?_))))))))
        exact ⟨swp q i2 (i2 - 1), ⟨rfl, rfl, rfl, rfl, rfl, trivial⟩, rfl, hw⟩
     have hn := hΦ
     have hSn : Same a b l n := by rw [hn]; exact hS1.then_swp ⟨by omega, by omega⟩ ⟨by omega, by omega⟩ hb
     have hnl := hSn.len
     have hUn : Up a (i2 - 1) n := by rw [hn]; exact (hU3.less (by omega)).keep (Same.ex (a := i2 - 1) (b := i2 + 1) ⟨by omega, by omega⟩ ⟨by omega, by omega⟩ (by omega)) (.inl (by omega))
     refine c_cut1 (fun (r : List Nat) => [(0, v), (1, .int .i64 (a : Nat)), (2, .int .i64 (b : Nat)), (7, .int .i64 (i2 : Nat)), (8, .int .i64 (j : Nat))]) (fun (r : List Nat) => Same a b l r ∧ Up a i2 r) (fun (r : List Nat) => [Res.vec 23 1 v r.length (r.flatMap U1)]) ?_ (fun r g hΦ => ?_)
     ·
      refine c_reg (l_mv rfl (l_mv rfl (l_sub (c := ((i2 - a : Nat) : Int)) rfl rfl (wsi (by omega) (by omega)) rfl (l_geq rfl rfl rfl (l_end (c_dec rfl (fun c6 => ?_) (fun c6 => ?_)))))))
      ·
       refine c_reg (l_mv rfl (l_sub (c := ((i2 - 1 : Nat) : Int)) rfl rfl (wsi1 (by omega) (by omega)) rfl (l_as rfl (l_end (c_block ?_)))))
       refine c_loop2 (fun (j3 : Nat) (r : List Nat) => [(0, v), (1, .int .i64 (a : Nat)), (2, .int .i64 (b : Nat)), (7, .int .i64 (i2 : Nat)), (8, .int .i64 (j : Nat)), (9, .int .i64 (j3 : Nat))]) (fun (j3 : Nat) (r : List Nat) => (a ≤ j3 ∧ j3 ≤ i2 - 1) ∧ Same a b l r ∧ Ins a (i2 - 1) j3 r) (fun (j3 : Nat) (r : List Nat) => [Res.vec 23 1 v r.length (r.flatMap U1)]) (fun (j3 : Nat) (r : List Nat) => j3) (fun w' hw => ⟨i2 - 1, n, ⟨rfl, rfl, rfl, rfl, rfl, rfl, trivial⟩, ⟨⟨by omega, by omega⟩, hSn, Ins.start hUn⟩, hw⟩) (fun j3 r g hΦ => ?_)
       have hj3 := hΦ.1
       have hS3 := hΦ.2.1
       have hI3 := hΦ.2.2
       have hl3 := hS3.len
       have hp3 := hpr.keep hS3 hb
       refine c_seq (c_reg (l_mv rfl (l_geq rfl rfl rfl (l_end (c_dec rfl (fun c7 => ?_) (fun c7 => ?_))))))
       ·
        refine c_skipC (c_cut1 (fun (m : List Nat) => [(0, v), (1, .int .i64 (a : Nat)), (2, .int .i64 (b : Nat)), (7, .int .i64 (i2 : Nat)), (8, .int .i64 (j : Nat)), (9, .int .i64 (j3 : Nat))]) (fun (m : List Nat) => m = swp r j3 (j3 - 1) ∧ a < j3 ∧ olt (nth r j3) (nth r (j3 - 1))) (fun (m : List Nat) => [Res.vec 23 1 v m.length (m.flatMap U1)]) ?_ (fun m g hΦ => ?_))
        ·
         refine c_block (c_seq (c_seq (c_heldo [0] rfl (by decide) (by kernel_rfl) (fun w' hw hS => h_tk 0 rfl (by kernel_rfl) (v_mv) hS (h_tk 1 rfl (by kernel_rfl) (v_mv) hS (h_tk 2 rfl (by kernel_rfl) (v_idxP (pV 0 rfl) 1 j3 rfl rfl (by kernel_rfl) rfl (by omega)) hS (h_tk 3 rfl (by kernel_rfl) (v_ldP (pV 0 rfl) 1 j3 0 (fun _ => rfl) rfl rfl (by omega) rfl (by kernel_rfl)) hS (h_tk 4 rfl (by kernel_rfl) (v_mv) hS (h_tk 5 rfl (by kernel_rfl) (v_mv) hS (h_tk 6 rfl (by kernel_rfl) (v_sub (c := ((j3 - 1 : Nat) : Int)) rfl rfl (wsi1 (by omega) (by omega))) hS (h_tk 7 rfl (by kernel_rfl) (v_idxP (pV 0 rfl) 1 (j3 - 1) rfl rfl (by kernel_rfl) rfl (by omega)) hS (h_tk 8 rfl (by kernel_rfl) (v_ldP (pV 0 rfl) 1 (j3 - 1) 0 (fun _ => rfl) rfl rfl (by omega) rfl (by kernel_rfl)) hS ?_))))))))))))
         refine h_one 9 (by kernel_rfl) rfl hw (l_call (by kernel_rfl) rfl rfl (fun w' hw => (less_u (nth r j3) (nth r (j3 - 1)) w').mono ?_))
         rintro _ w1 ⟨rfl, hO⟩
         refine (?_ : CL _ _ _ _ _ _ (Own w S [Res.vec 23 1 v r.length (r.flatMap U1)])) w1 (hw.frame0 hO)
         refine l_nilH [0] rfl (by decide) (fun w' hw hS => h_tk 10 rfl (by kernel_rfl) (v_notp (q := olt (nth r j3) (nth r (j3 - 1))) rfl) hS (h_done (by kernel_rfl) ?_))
         refine (?_ : C _ _ _ _ _ _ _ (Own w S [Res.vec 23 1 v r.length (r.flatMap U1)])) _ hw
         refine c_dec rfl (fun c8 => ?_) (fun c8 => ?_)
         ·
          exact c_exit rfl (fun w' hw => ⟨r, ⟨rfl, rfl, rfl, rfl, rfl, trivial⟩, ⟨hS3, (by have h := hI3.done (fun _ => c8); rwa [show i2 - 1 + 1 = i2 by omega] at h)⟩, hw⟩)
         ·
          have c7' := Decidable.not_not.1 c8
          have haj : a < j3 := (by rcases Nat.lt_or_ge a j3 with h | h; exact h; rcases hp3 with h0 | h0; omega; have h1 := h0 j3 (by omega) (by omega); rw [show a - 1 = j3 - 1 by omega] at h1; exact absurd c7' h1)
          refine c_skipC (c_heldo [] rfl (by decide) (by kernel_rfl) (fun w' hw hS => h_tk 0 rfl (by kernel_rfl) (v_mv) hS (h_tk 1 rfl (by kernel_rfl) (v_mv) hS (h_tk 2 rfl (by kernel_rfl) (v_mv) hS (h_tk 3 rfl (by kernel_rfl) (v_mv) hS (h_tk 4 rfl (by kernel_rfl) (v_sub (c := ((j3 - 1 : Nat) : Int)) rfl rfl (wsi1 (by omega) (by omega))) hS (h_tk 5 rfl (by kernel_rfl) (v_mv) hS (h_tk 6 rfl (by kernel_rfl) (v_mv) hS (h_tk 7 rfl (by kernel_rfl) (v_sub (c := ((j3 - 1 : Nat) : Int)) rfl rfl (wsi1 (by omega) (by omega))) hS (h_tk 10 rfl (by kernel_rfl) (v_mv) hS (h_tk 11 rfl (by kernel_rfl) (v_mv) hS (h_pick2 (i := 8) (j := 12) (by kernel_rfl) ?_ ?_))))))))))))
          ·
           refine pk_of 8 rfl hw (l_idxP (pV 0 rfl) 1 (j3 - 1) rfl rfl (by kernel_rfl) rfl (by omega) rfl (l_nilH [] rfl (by decide) (fun w' hw hS => h_pick2 (i := 9) (j := 12) (by kernel_rfl) ?_ ?_)))
           ·
            refine pk_of 9 rfl hw (l_ldP (pV 0 rfl) 1 (j3 - 1) 0 (fun _ => rfl) rfl rfl (by omega) rfl (by kernel_rfl) rfl (l_nilH [] rfl (by decide) (fun w' hw hS => h_one 12 (by kernel_rfl) rfl hw (l_idxP (pV 0 rfl) 1 j3 rfl rfl (by kernel_rfl) rfl (by omega) rfl (l_nilH [] rfl (by decide) (fun w' hw hS => h_one 13 (by kernel_rfl) rfl hw (l_ldP (pV 0 rfl) 1 j3 0 (fun _ => rfl) rfl rfl (by omega) rfl (by kernel_rfl) rfl (l_nilH [] rfl (by decide) (fun w' hw hS => h_one 14 (by kernel_rfl) rfl hw (l_idxP (pV 0 rfl) 1 j3 rfl rfl (by kernel_rfl) rfl (by omega) rfl (l_nilH [] rfl (by decide) (fun w' hw hS => h_one 15 (by kernel_rfl) rfl hw ?_))))))))))))
            refine l_stE 0 j3 (nth r (j3 - 1)) rfl (fun _ => rfl) rfl (by omega) rfl rfl rfl (by omega) (by kernel_rfl) (l_nilH [] rfl (by decide) (fun w' hw hS => h_one 16 (by kernel_rfl) rfl hw (l_idxP (pV 0 rfl) 1 (j3 - 1) rfl rfl (by kernel_rfl) rfl (by simp only [List.length_set]; omega) rfl (l_nilH [] rfl (by decide) (fun w' hw hS => h_one 17 (by kernel_rfl) rfl hw (l_stE 0 (j3 - 1) (nth r j3) rfl (fun _ => rfl) rfl (by omega) rfl rfl rfl (by simp only [List.length_set]; omega) (by kernel_rfl) (l_nilH [] rfl (by decide) (fun w' hw hS => h_done (by kernel_rfl) ?_))))))))
            exact ⟨swp r j3 (j3 - 1), ⟨rfl, rfl, rfl, rfl, rfl, rfl, trivial⟩, ⟨rfl, haj, c7'⟩, hw⟩
           ·
            refine pk_of 12 rfl hw (l_idxP (pV 0 rfl) 1 j3 rfl rfl (by kernel_rfl) rfl (by omega) rfl (l_nilH [] rfl (by decide) (fun w' hw hS => h_pick2 (i := 9) (j := 13) (by kernel_rfl) ?_ ?_)))
            ·
             refine pk_of 9 rfl hw (l_ldP (pV 0 rfl) 1 (j3 - 1) 0 (fun _ => rfl) rfl rfl (by omega) rfl (by kernel_rfl) rfl (l_nilH [] rfl (by decide) (fun w' hw hS => h_one 13 (by kernel_rfl) rfl hw (l_ldP (pV 0 rfl) 1 j3 0 (fun _ => rfl) rfl rfl (by omega) rfl (by kernel_rfl) rfl (l_nilH [] rfl (by decide) (fun w' hw hS => h_one 14 (by kernel_rfl) rfl hw (l_idxP (pV 0 rfl) 1 j3 rfl rfl (by kernel_rfl) rfl (by omega) rfl (l_nilH [] rfl (by decide) (fun w' hw hS => h_one 15 (by kernel_rfl) rfl hw (l_stE 0 j3 (nth r (j3 - 1)) rfl (fun _ => rfl) rfl (by omega) rfl rfl rfl (by omega) (by kernel_rfl) (l_nilH [] rfl (by decide) (fun w' hw hS => h_one 16 (by kernel_rfl) rfl hw ?_))))))))))))
             refine l_idxP (pV 0 rfl) 1 (j3 - 1) rfl rfl (by kernel_rfl) rfl (by simp only [List.length_set]; omega) rfl (l_nilH [] rfl (by decide) (fun w' hw hS => h_one 17 (by kernel_rfl) rfl hw (l_stE 0 (j3 - 1) (nth r j3) rfl (fun _ => rfl) rfl (by omega) rfl rfl rfl (by simp only [List.length_set]; omega) (by kernel_rfl) (l_nilH [] rfl (by decide) (fun w' hw hS => h_done (by kernel_rfl) ?_)))))
             exact ⟨swp r j3 (j3 - 1), ⟨rfl, rfl, rfl, rfl, rfl, rfl, trivial⟩, ⟨rfl, haj, c7'⟩, hw⟩
            ·
             refine pk_of 13 rfl hw (l_ldP (pV 0 rfl) 1 j3 0 (fun _ => rfl) rfl rfl (by omega) rfl (by kernel_rfl) rfl (l_nilH [] rfl (by decide) (fun w' hw hS => h_one 9 (by kernel_rfl) rfl hw (l_ldP (pV 0 rfl) 1 (j3 - 1) 0 (fun _ => rfl) rfl rfl (by omega) rfl (by kernel_rfl) rfl (l_nilH [] rfl (by decide) (fun w' hw hS => h_one 14 (by kernel_rfl) rfl hw (l_idxP (pV 0 rfl) 1 j3 rfl rfl (by kernel_rfl) rfl (by omega) rfl (l_nilH [] rfl (by decide) (fun w' hw hS => h_one 15 (by kernel_rfl) rfl hw (l_stE 0 j3 (nth r (j3 - 1)) rfl (fun _ => rfl) rfl (by omega) rfl rfl rfl (by omega) (by kernel_rfl) (l_nilH [] rfl (by decide) (fun w' hw hS => h_one 16 (by kernel_rfl) rfl hw ?_))))))))))))
             refine l_idxP (pV 0 rfl) 1 (j3 - 1) rfl rfl (by kernel_rfl) rfl (by simp only [List.length_set]; omega) rfl (l_nilH [] rfl (by decide) (fun w' hw hS => h_one 17 (by kernel_rfl) rfl hw (l_stE 0 (j3 - 1) (nth r j3) rfl (fun _ => rfl) rfl (by omega) rfl rfl rfl (by simp only [List.length_set]; omega) (by kernel_rfl) (l_nilH [] rfl (by decide) (fun w' hw hS => h_done (by kernel_rfl) ?_)))))
             exact ⟨swp r j3 (j3 - 1), ⟨rfl, rfl, rfl, rfl, rfl, rfl, trivial⟩, ⟨rfl, haj, c7'⟩, hw⟩
          ·
           refine pk_of 12 rfl hw (l_idxP (pV 0 rfl) 1 j3 rfl rfl (by kernel_rfl) rfl (by omega) rfl (l_nilH [] rfl (by decide) (fun w' hw hS => h_pick2 (i := 8) (j := 13) (by kernel_rfl) ?_ ?_)))
           ·
            refine pk_of 8 rfl hw (l_idxP (pV 0 rfl) 1 (j3 - 1) rfl rfl (by kernel_rfl) rfl (by omega) rfl (l_nilH [] rfl (by decide) (fun w' hw hS => h_pick2 (i := 9) (j := 13) (by kernel_rfl) ?_ ?_)))
            ·
             refine pk_of 9 rfl hw (l_ldP (pV 0 rfl) 1 (j3 - 1) 0 (fun _ => rfl) rfl rfl (by omega) rfl (by kernel_rfl) rfl (l_nilH [] rfl (by decide) (fun w' hw hS => h_one 13 (by kernel_rfl) rfl hw (l_ldP (pV 0 rfl) 1 j3 0 (fun _ => rfl) rfl rfl (by omega) rfl (by kernel_rfl) rfl (l_nilH [] rfl (by decide) (fun w' hw hS => h_one 14 (by kernel_rfl) rfl hw (l_idxP (pV 0 rfl) 1 j3 rfl rfl (by kernel_rfl) rfl (by omega) rfl (l_nilH [] rfl (by decide) (fun w' hw hS => h_one 15 (by kernel_rfl) rfl hw (l_stE 0 j3 (nth r (j3 - 1)) rfl (fun _ => rfl) rfl (by omega) rfl rfl rfl (by omega) (by kernel_rfl) (l_nilH [] rfl (by decide) (fun w' hw hS => h_one 16 (by kernel_rfl) rfl hw ?_))))))))))))
             refine l_idxP (pV 0 rfl) 1 (j3 - 1) rfl rfl (by kernel_rfl) rfl (by simp only [List.length_set]; omega) rfl (l_nilH [] rfl (by decide) (fun w' hw hS => h_one 17 (by kernel_rfl) rfl hw (l_stE 0 (j3 - 1) (nth r j3) rfl (fun _ => rfl) rfl (by omega) rfl rfl rfl (by simp only [List.length_set]; omega) (by kernel_rfl) (l_nilH [] rfl (by decide) (fun w' hw hS => h_done (by kernel_rfl) ?_)))))
             exact ⟨swp r j3 (j3 - 1), ⟨rfl, rfl, rfl, rfl, rfl, rfl, trivial⟩, ⟨rfl, haj, c7'⟩, hw⟩
            ·
             refine pk_of 13 rfl hw (l_ldP (pV 0 rfl) 1 j3 0 (fun _ => rfl) rfl rfl (by omega) rfl (by kernel_rfl) rfl (l_nilH [] rfl (by decide) (fun w' hw hS => h_one 9 (by kernel_rfl) rfl hw (l_ldP (pV 0 rfl) 1 (j3 - 1) 0 (fun _ => rfl) rfl rfl (by omega) rfl (by kernel_rfl) rfl (l_nilH [] rfl (by decide) (fun w' hw hS => h_one 14 (by kernel_rfl) rfl hw (l_idxP (pV 0 rfl) 1 j3 rfl rfl (by kernel_rfl) rfl (by omega) rfl (l_nilH [] rfl (by decide) (fun w' hw hS => h_one 15 (by kernel_rfl) rfl hw (l_stE 0 j3 (nth r (j3 - 1)) rfl (fun _ => rfl) rfl (by omega) rfl rfl rfl (by omega) (by kernel_rfl) (l_nilH [] rfl (by decide) (fun w' hw hS => h_one 16 (by kernel_rfl) rfl hw ?_))))))))))))
             refine l_idxP (pV 0 rfl) 1 (j3 - 1) rfl rfl (by kernel_rfl) rfl (by simp only [List.length_set]; omega) rfl (l_nilH [] rfl (by decide) (fun w' hw hS => h_one 17 (by kernel_rfl) rfl hw (l_stE 0 (j3 - 1) (nth r j3) rfl (fun _ => rfl) rfl (by omega) rfl rfl rfl (by simp only [List.length_set]; omega) (by kernel_rfl) (l_nilH [] rfl (by decide) (fun w' hw hS => h_done (by kernel_rfl) ?_)))))
             exact ⟨swp r j3 (j3 - 1), ⟨rfl, rfl, rfl, rfl, rfl, rfl, trivial⟩, ⟨rfl, haj, c7'⟩, hw⟩
           ·
            refine pk_of 13 rfl hw (l_ldP (pV 0 rfl) 1 j3 0 (fun _ => rfl) rfl rfl (by omega) rfl (by kernel_rfl) rfl (l_nilH [] rfl (by decide) (fun w' hw hS => h_one 8 (by kernel_rfl) rfl hw (l_idxP (pV 0 rfl) 1 (j3 - 1) rfl rfl (by kernel_rfl) rfl (by omega) rfl (l_nilH [] rfl (by decide) (fun w' hw hS => h_one 9 (by kernel_rfl) rfl hw (l_ldP (pV 0 rfl) 1 (j3 - 1) 0 (fun _ => rfl) rfl rfl (by omega) rfl (by kernel_rfl) rfl (l_nilH [] rfl (by decide) (fun w' hw hS => h_one 14 (by kernel_rfl) rfl hw (l_idxP (pV 0 rfl) 1 j3 rfl rfl (by kernel_rfl) rfl (by omega) rfl (l_nilH [] rfl (by decide) (fun w' hw hS => h_one 15 (by kernel_rfl) rfl hw ?_))))))))))))
            refine l_stE 0 j3 (nth r (j3 - 1)) rfl (fun _ => rfl) rfl (by omega) rfl rfl rfl (by omega) (by kernel_rfl) (l_nilH [] rfl (by decide) (fun w' hw hS => h_one 16 (by kernel_rfl) rfl hw (l_idxP (pV 0 rfl) 1 (j3 - 1) rfl rfl (by kernel_rfl) rfl (by simp only [List.length_set]; omega) rfl (l_nilH [] rfl (by decide) (fun w' hw hS => h_one 17 (by kernel_rfl) rfl hw (l_stE 0 (j3 - 1) (nth r j3) rfl (fun _ => rfl) rfl (by omega) rfl rfl rfl (by simp only [List.length_set]; omega) (by kernel_rfl) (l_nilH [] rfl (by decide) (fun w' hw hS => h_done (by kernel_rfl) ?_))))))))
            exact ⟨swp r j3 (j3 - 1), ⟨rfl, rfl, rfl, rfl, rfl, rfl, trivial⟩, ⟨rfl, haj, c7'⟩, hw⟩
        have hm := hΦ.1
        have haj := hΦ.2.1
        have c7' := hΦ.2.2
        refine c_last (l_mv rfl (l_sub (c := ((j3 - 1 : Nat) : Int)) rfl rfl (wsi1 (by omega) (by omega)) rfl (l_as rfl ?_)))
        exact l_nil (fun w' hw => ⟨j3 - 1, m, ⟨rfl, rfl, rfl, rfl, rfl, rfl, trivial⟩, ⟨⟨by omega, by omega⟩, (by rw [hm]; exact hS3.then_swp ⟨by omega, by omega⟩ ⟨by omega, by omega⟩ hb), (by rw [hm]; exact hI3.step haj (by omega) (by omega) c7')⟩, hw, (by omega)⟩)
       ·
        exact c_exit rfl (fun w' hw => ⟨r, ⟨rfl, rfl, rfl, rfl, rfl, trivial⟩, ⟨hS3, (by have h := hI3.done (fun h => absurd h (by omega)); rwa [show i2 - 1 + 1 = i2 by omega] at h)⟩, hw⟩)
      ·
       exact c_skip (fun w' hw => ⟨n, ⟨rfl, rfl, rfl, rfl, rfl, trivial⟩, ⟨hSn, Up.one (by omega)⟩, hw⟩)
     have hSr := hΦ.1
     have hUr := hΦ.2
     have hrl := hSr.len
     refine c_reg (l_mv rfl (l_mv rfl (l_sub (c := ((b - i2 : Nat) : Int)) rfl rfl (wsi (by omega) (by omega)) rfl (l_geq rfl rfl rfl (l_end (c_dec rfl (fun c9 => ?_) (fun c9 => ?_)))))))
     ·
      refine c_reg (l_mv rfl (l_add rfl rfl (wi64 (by omega)) rfl (l_as rfl (l_end (c_block ?_)))))
      refine c_loop2 (fun (j4 : Nat) (r : List Nat) => [(0, v), (1, .int .i64 (a : Nat)), (2, .int .i64 (b : Nat)), (7, .int .i64 (i2 : Nat)), (8, .int .i64 (j : Nat)), (10, .int .i64 (j4 : Nat))]) (fun (j4 : Nat) (r : List Nat) => (i2 + 1 ≤ j4 ∧ j4 ≤ b) ∧ Same a b l r ∧ Up a i2 r) (fun (j4 : Nat) (r : List Nat) => [Res.vec 23 1 v r.length (r.flatMap U1)]) (fun (j4 : Nat) (r : List Nat) => b - j4) (fun w' hw => ⟨i2 + 1, r, ⟨rfl, rfl, rfl, rfl, rfl, rfl, trivial⟩, ⟨⟨by omega, by omega⟩, hSr, hUr⟩, hw⟩) (fun j4 r g hΦ => ?_)
      have hj4 := hΦ.1
      have hS4 := hΦ.2.1
      have hU4 := hΦ.2.2
      have hl4 := hS4.len
      refine c_seq (c_reg (l_mv rfl (l_mv rfl (l_lss rfl rfl rfl (l_end (c_dec rfl (fun c10 => ?_) (fun c10 => ?_)))))))
      ·
       refine c_skipC (c_cut1 (fun (m : List Nat) => [(0, v), (1, .int .i64 (a : Nat)), (2, .int .i64 (b : Nat)), (7, .int .i64 (i2 : Nat)), (8, .int .i64 (j : Nat)), (10, .int .i64 (j4 : Nat))]) (fun (m : List Nat) => m = swp r j4 (j4 - 1)) (fun (m : List Nat) => [Res.vec 23 1 v m.length (m.flatMap U1)]) ?_ (fun m g hΦ => ?_))
       ·
        refine c_block (c_seq (c_seq (c_heldo [0] rfl (by decide) (by kernel_rfl) (fun w' hw hS => h_tk 0 rfl (by kernel_rfl) (v_mv) hS (h_tk 1 rfl (by kernel_rfl) (v_mv) hS (h_tk 2 rfl (by kernel_rfl) (v_idxP (pV 0 rfl) 1 j4 rfl rfl (by kernel_rfl) rfl (by omega)) hS (h_tk 3 rfl (by kernel_rfl) (v_ldP (pV 0 rfl) 1 j4 0 (fun _ => rfl) rfl rfl (by omega) rfl (by kernel_rfl)) hS (h_tk 4 rfl (by kernel_rfl) (v_mv) hS (h_tk 5 rfl (by kernel_rfl) (v_mv) hS (h_tk 6 rfl (by kernel_rfl) (v_sub (c := ((j4 - 1 : Nat) : Int)) rfl rfl (wsi1 (by omega) (by omega))) hS (h_tk 7 rfl (by kernel_rfl) (v_idxP (pV 0 rfl) 1 (j4 - 1) rfl rfl (by kernel_rfl) rfl (by omega)) hS (h_tk 8 rfl (by kernel_rfl) (v_ldP (pV 0 rfl) 1 (j4 - 1) 0 (fun _ => rfl) rfl rfl (by omega) rfl (by kernel_rfl)) hS ?_))))))))))))
        refine h_one 9 (by kernel_rfl) rfl hw (l_call (by kernel_rfl) rfl rfl (fun w' hw => (less_u (nth r j4) (nth r (j4 - 1)) w').mono ?_))
        rintro _ w1 ⟨rfl, hO⟩
        refine (?_ : CL _ _ _ _ _ _ (Own w S [Res.vec 23 1 v r.length (r.flatMap U1)])) w1 (hw.frame0 hO)
        refine l_nilH [0] rfl (by decide) (fun w' hw hS => h_tk 10 rfl (by kernel_rfl) (v_notp (q := olt (nth r j4) (nth r (j4 - 1))) rfl) hS (h_done (by kernel_rfl) ?_))
        refine (?_ : C _ _ _ _ _ _ _ (Own w S [Res.vec 23 1 v r.length (r.flatMap U1)])) _ hw
        refine c_dec rfl (fun c11 => ?_) (fun c11 => ?_)
        ·
         refine c_exitC rfl (c_last (l_mv rfl (l_add rfl rfl (wi64 (by omega)) rfl (l_as rfl ?_))))
         exact l_nil (fun w' hw => ⟨j + 1, i2, r, ⟨rfl, rfl, rfl, rfl, rfl, trivial⟩, ⟨⟨⟨by omega, by omega⟩, by omega⟩, hΦ.2⟩, hw, (by omega)⟩)
        ·
         refine c_skipC (c_heldo [] rfl (by decide) (by kernel_rfl) (fun w' hw hS => h_tk 0 rfl (by kernel_rfl) (v_mv) hS (h_tk 1 rfl (by kernel_rfl) (v_mv) hS (h_tk 2 rfl (by kernel_rfl) (v_mv) hS (h_tk 3 rfl (by kernel_rfl) (v_mv) hS (h_tk 4 rfl (by kernel_rfl) (v_sub (c := ((j4 - 1 : Nat) : Int)) rfl rfl (wsi1 (by omega) (by omega))) hS (h_tk 5 rfl (by kernel_rfl) (v_mv) hS (h_tk 6 rfl (by kernel_rfl) (v_mv) hS (h_tk 7 rfl (by kernel_rfl) (v_sub (c := ((j4 - 1 : Nat) : Int)) rfl rfl (wsi1 (by omega) (by omega))) hS (h_tk 10 rfl (by kernel_rfl) (v_mv) hS (h_tk 11 rfl (by kernel_rfl) (v_mv) hS (h_pick2 (i := 8) (j := 12) (by kernel_rfl) ?_ ?_))))))))))))
         ·
          refine pk_of 8 rfl hw (l_idxP (pV 0 rfl) 1 (j4 - 1) rfl rfl (by kernel_rfl) rfl (by omega) rfl (l_nilH [] rfl (by decide) (fun w' hw hS => h_pick2 (i := 9) (j := 12) (by kernel_rfl) ?_ ?_)))
          ·
           refine pk_of 9 rfl hw (l_ldP (pV 0 rfl) 1 (j4 - 1) 0 (fun _ => rfl) rfl rfl (by omega) rfl (by kernel_rfl) rfl (l_nilH [] rfl (by decide) (fun w' hw hS => h_one 12 (by kernel_rfl) rfl hw (l_idxP (pV 0 rfl) 1 j4 rfl rfl (by kernel_rfl) rfl (by omega) rfl (l_nilH [] rfl (by decide) (fun w' hw hS => h_one 13 (by kernel_rfl) rfl hw (l_ldP (pV 0 rfl) 1 j4 0 (fun _ => rfl) rfl rfl (by omega) rfl (by kernel_rfl) rfl (l_nilH [] rfl (by decide) (fun w' hw hS => h_one 14 (by kernel_rfl) rfl hw (l_idxP (pV 0 rfl) 1 j4 rfl rfl (by kernel_rfl) rfl (by omega) rfl (l_nilH [] rfl (by decide) (fun w' hw hS => h_one 15 (by kernel_rfl) rfl hw ?_))))))))))))
           refine l_stE 0 j4 (nth r (j4 - 1)) rfl (fun _ => rfl) rfl (by omega) rfl rfl rfl (by omega) (by kernel_rfl) (l_nilH [] rfl (by decide) (fun w' hw hS => h_one 16 (by kernel_rfl) rfl hw (l_idxP (pV 0 rfl) 1 (j4 - 1) rfl rfl (by kernel_rfl) rfl (by simp only [List.length_set]; omega) rfl (l_nilH [] rfl (by decide) (fun w' hw hS => h_one 17 (by kernel_rfl) rfl hw (l_stE 0 (j4 - 1) (nth r j4) rfl (fun _ => rfl) rfl (by omega) rfl rfl rfl (by simp only [List.length_set]; omega) (by kernel_rfl) (l_nilH [] rfl (by decide) (fun w' hw hS => h_done (by kernel_rfl) ?_))))))))
           exact ⟨swp r j4 (j4 - 1), ⟨rfl, rfl, rfl, rfl, rfl, rfl, trivial⟩, rfl, hw⟩
          ·
           refine pk_of 12 rfl hw (l_idxP (pV 0 rfl) 1 j4 rfl rfl (by kernel_rfl) rfl (by omega) rfl (l_nilH [] rfl (by decide) (fun w' hw hS => h_pick2 (i := 9) (j := 13) (by kernel_rfl) ?_ ?_)))
           ·
            refine pk_of 9 rfl hw (l_ldP (pV 0 rfl) 1 (j4 - 1) 0 (fun _ => rfl) rfl rfl (by omega) rfl (by kernel_rfl) rfl (l_nilH [] rfl (by decide) (fun w' hw hS => h_one 13 (by kernel_rfl) rfl hw (l_ldP (pV 0 rfl) 1 j4 0 (fun _ => rfl) rfl rfl (by omega) rfl (by kernel_rfl) rfl (l_nilH [] rfl (by decide) (fun w' hw hS => h_one 14 (by kernel_rfl) rfl hw (l_idxP (pV 0 rfl) 1 j4 rfl rfl (by kernel_rfl) rfl (by omega) rfl (l_nilH [] rfl (by decide) (fun w' hw hS => h_one 15 (by kernel_rfl) rfl hw (l_stE 0 j4 (nth r (j4 - 1)) rfl (fun _ => rfl) rfl (by omega) rfl rfl rfl (by omega) (by kernel_rfl) (l_nilH [] rfl (by decide) (fun w' hw hS => h_one 16 (by kernel_rfl) rfl hw ?_))))))))))))
            refine l_idxP (pV 0 rfl) 1 (j4 - 1) rfl rfl (by kernel_rfl) rfl (by simp only [List.length_set]; omega) rfl (l_nilH [] rfl (by decide) (fun w' hw hS => h_one 17 (by kernel_rfl) rfl hw (l_stE 0 (j4 - 1) (nth r j4) rfl (fun _ => rfl) rfl (by omega) rfl rfl rfl (by simp only [List.length_set]; omega) (by kernel_rfl) (l_nilH [] rfl (by decide) (fun w' hw hS => h_done (by kernel_rfl) ?_)))))
            exact ⟨swp r j4 (j4 - 1), ⟨rfl, rfl, rfl, rfl, rfl, rfl, trivial⟩, rfl, hw⟩
           ·
            refine pk_of 13 rfl hw (l_ldP (pV 0 rfl) 1 j4 0 (fun _ => rfl) rfl rfl (by omega) rfl (by kernel_rfl) rfl (l_nilH [] rfl (by decide) (fun w' hw hS => h_one 9 (by kernel_rfl) rfl hw (l_ldP (pV 0 rfl) 1 (j4 - 1) 0 (fun _ => rfl) rfl rfl (by omega) rfl (by kernel_rfl) rfl (l_nilH [] rfl (by decide) (fun w' hw hS => h_one 14 (by kernel_rfl) rfl hw (l_idxP (pV 0 rfl) 1 j4 rfl rfl (by kernel_rfl) rfl (by omega) rfl (l_nilH [] rfl (by decide) (fun w' hw hS => h_one 15 (by kernel_rfl) rfl hw (l_stE 0 j4 (nth r (j4 - 1)) rfl (fun _ => rfl) rfl (by omega) rfl rfl rfl (by omega) (by kernel_rfl) (l_nilH [] rfl (by decide) (fun w' hw hS => h_one 16 (by kernel_rfl) rfl hw ?_))))))))))))
            refine l_idxP (pV 0 rfl) 1 (j4 - 1) rfl rfl (by kernel_rfl) rfl (by simp only [List.length_set]; omega) rfl (l_nilH [] rfl (by decide) (fun w' hw hS => h_one 17 (by kernel_rfl) rfl hw (l_stE 0 (j4 - 1) (nth r j4) rfl (fun _ => rfl) rfl (by omega) rfl rfl rfl (by simp only [List.length_set]; omega) (by kernel_rfl) (l_nilH [] rfl (by decide) (fun w' hw hS => h_done (by kernel_rfl) ?_)))))
            exact ⟨swp r j4 (j4 - 1), ⟨rfl, rfl, rfl, rfl, rfl, rfl, trivial⟩, rfl, hw⟩
         ·
          refine pk_of 12 rfl hw (l_idxP (pV 0 rfl) 1 j4 rfl rfl (by kernel_rfl) rfl (by omega) rfl (l_nilH [] rfl (by decide) (fun w' hw hS => h_pick2 (i := 8) (j := 13) (by kernel_rfl) ?_ ?_)))
          ·
           refine pk_of 8 rfl hw (l_idxP (pV 0 rfl) 1 (j4 - 1) rfl rfl (by kernel_rfl) rfl (by omega) rfl (l_nilH [] rfl (by decide) (fun w' hw hS => h_pick2 (i := 9) (j := 13) (by kernel_rfl) ?_ ?_)))
           ·
            refine pk_of 9 rfl hw (l_ldP (pV 0 rfl) 1 (j4 - 1) 0 (fun _ => rfl) rfl rfl (by omega) rfl (by kernel_rfl) rfl (l_nilH [] rfl (by decide) (fun w' hw hS => h_one 13 (by kernel_rfl) rfl hw (l_ldP (pV 0 rfl) 1 j4 0 (fun _ => rfl) rfl rfl (by omega) rfl (by kernel_rfl) rfl (l_nilH [] rfl (by decide) (fun w' hw hS => h_one 14 (by kernel_rfl) rfl hw (l_idxP (pV 0 rfl) 1 j4 rfl rfl (by kernel_rfl) rfl (by omega) rfl (l_nilH [] rfl (by decide) (fun w' hw hS => h_one 15 (by kernel_rfl) rfl hw (l_stE 0 j4 (nth r (j4 - 1)) rfl (fun _ => rfl) rfl (by omega) rfl rfl rfl (by omega) (by kernel_rfl) (l_nilH [] rfl (by decide) (fun w' hw hS => h_one 16 (by kernel_rfl) rfl hw ?_))))))))))))
            refine l_idxP (pV 0 rfl) 1 (j4 - 1) rfl rfl (by kernel_rfl) rfl (by simp only [List.length_set]; omega) rfl (l_nilH [] rfl (by decide) (fun w' hw hS => h_one 17 (by kernel_rfl) rfl hw (l_stE 0 (j4 - 1) (nth r j4) rfl (fun _ => rfl) rfl (by omega) rfl rfl rfl (by simp only [List.length_set]; omega) (by kernel_rfl) (l_nilH [] rfl (by decide) (fun w' hw hS => h_done (by kernel_rfl) ?_)))))
            exact ⟨swp r j4 (j4 - 1), ⟨rfl, rfl, rfl, rfl, rfl, rfl, trivial⟩, rfl, hw⟩
           ·
            refine pk_of 13 rfl hw (l_ldP (pV 0 rfl) 1 j4 0 (fun _ => rfl) rfl rfl (by omega) rfl (by kernel_rfl) rfl (l_nilH [] rfl (by decide) (fun w' hw hS => h_one 9 (by kernel_rfl) rfl hw (l_ldP (pV 0 rfl) 1 (j4 - 1) 0 (fun _ => rfl) rfl rfl (by omega) rfl (by kernel_rfl) rfl (l_nilH [] rfl (by decide) (fun w' hw hS => h_one 14 (by kernel_rfl) rfl hw (l_idxP (pV 0 rfl) 1 j4 rfl rfl (by kernel_rfl) rfl (by omega) rfl (l_nilH [] rfl (by decide) (fun w' hw hS => h_one 15 (by kernel_rfl) rfl hw (l_stE 0 j4 (nth r (j4 - 1)) rfl (fun _ => rfl) rfl (by omega) rfl rfl rfl (by omega) (by kernel_rfl) (l_nilH [] rfl (by decide) (fun w' hw hS => h_one 16 (by kernel_rfl) rfl hw ?_))))))))))))
            refine l_idxP (pV 0 rfl) 1 (j4 - 1) rfl rfl (by kernel_rfl) rfl (by simp only [List.length_set]; omega) rfl (l_nilH [] rfl (by decide) (fun w' hw hS => h_one 17 (by kernel_rfl) rfl hw (l_stE 0 (j4 - 1) (nth r j4) rfl (fun _ => rfl) rfl (by omega) rfl rfl rfl (by simp only [List.length_set]; omega) (by kernel_rfl) (l_nilH [] rfl (by decide) (fun w' hw hS => h_done (by kernel_rfl) ?_)))))
            exact ⟨swp r j4 (j4 - 1), ⟨rfl, rfl, rfl, rfl, rfl, rfl, trivial⟩, rfl, hw⟩
          ·
           refine pk_of 13 rfl hw (l_ldP (pV 0 rfl) 1 j4 0 (fun _ => rfl) rfl rfl (by omega) rfl (by kernel_rfl) rfl (l_nilH [] rfl (by decide) (fun w' hw hS => h_one 8 (by kernel_rfl) rfl hw (l_idxP (pV 0 rfl) 1 (j4 - 1) rfl rfl (by kernel_rfl) rfl (by omega) rfl (l_nilH [] rfl (by decide) (fun w' hw hS => h_one 9 (by kernel_rfl) rfl hw (l_ldP (pV 0 rfl) 1 (j4 - 1) 0 (fun _ => rfl) rfl rfl (by omega) rfl (by kernel_rfl) rfl (l_nilH [] rfl (by decide) (fun w' hw hS => h_one 14 (by kernel_rfl) rfl hw (l_idxP (pV 0 rfl) 1 j4 rfl rfl (by kernel_rfl) rfl (by omega) rfl (l_nilH [] rfl (by decide) (fun w' hw hS => h_one 15 (by kernel_rfl) rfl hw ?_))))))))))))
           refine l_stE 0 j4 (nth r (j4 - 1)) rfl (fun _ => rfl) rfl (by omega) rfl rfl rfl (by omega) (by kernel_rfl) (l_nilH [] rfl (by decide) (fun w' hw hS => h_one 16 (by kernel_rfl) rfl hw (l_idxP (pV 0 rfl) 1 (j4 - 1) rfl rfl (by kernel_rfl) rfl (by simp only [List.length_set]; omega) rfl (l_nilH [] rfl (by decide) (fun w' hw hS => h_one 17 (by kernel_rfl) rfl hw (l_stE 0 (j4 - 1) (nth r j4) rfl (fun _ => rfl) rfl (by omega) rfl rfl rfl (by simp only [List.length_set]; omega) (by kernel_rfl) (l_nilH [] rfl (by decide) (fun w' hw hS => h_done (by kernel_rfl) ?_))))))))
           exact ⟨swp r j4 (j4 - 1), ⟨rfl, rfl, rfl, rfl, rfl, rfl, trivial⟩, rfl, hw⟩
       have hm := hΦ
       refine c_last (l_mv rfl (l_add rfl rfl (wi64 (by omega)) rfl (l_as rfl ?_)))
       exact l_nil (fun w' hw => ⟨j4 + 1, m, ⟨rfl, rfl, rfl, rfl, rfl, rfl, trivial⟩, ⟨⟨by omega, by omega⟩, (by rw [hm]; exact hS4.then_swp ⟨by omega, by omega⟩ ⟨by omega, by omega⟩ hb), (by rw [hm]; exact hU4.keep (Same.ex (a := i2) (b := b) ⟨by omega, by omega⟩ ⟨by omega, by omega⟩ (by omega)) (.inl (by omega)))⟩, hw, (by omega)⟩)
      ·
       refine c_exitC rfl (c_last (l_mv rfl (l_add rfl rfl (wi64 (by omega)) rfl (l_as rfl ?_))))
       exact l_nil (fun w' hw => ⟨j + 1, i2, r, ⟨rfl, rfl, rfl, rfl, rfl, trivial⟩, ⟨⟨⟨by omega, by omega⟩, by omega⟩, hΦ.2⟩, hw, (by omega)⟩)
     ·
      refine c_skipC (c_last (l_mv rfl (l_add rfl rfl (wi64 (by omega)) rfl (l_as rfl ?_))))
      exact l_nil (fun w' hw => ⟨j + 1, i2, r, ⟨rfl, rfl, rfl, rfl, rfl, trivial⟩, ⟨⟨⟨by omega, by omega⟩, by omega⟩, hSr, hUr⟩, hw, (by omega)⟩)
  ·
   refine c_exitC rfl (c_reg (l_as rfl (l_end ?_)))
   exact c_ret (ret1 (v := .bool false) rfl rfl (fun w' hw => ⟨q, false, rfl, hS1, (fun h => by cases h), hw⟩))
theorem order2_u {S : List Nat} (v : Value) (l : List Nat) (a b n o : Nat) (w : World) (ha : a < l.length) (hb : b < l.length) (hl : LenOk l.length) (hn : n ≤ 100) (hin : Own w S [Res.row o 3 [.int .i64 (n : Nat)]] w) (hv : Rd w S (Res.sl v l.length (l.flatMap U1))) : Rets Tryz.prog 116 #[v, .int .i64 (a : Nat), .int .i64 (b : Nat), .pointer (some ⟨o, 0, none⟩)] w fun u_ w' => ∃ (x y m : Nat), u_ = .tuple #[.int .i64 (x : Nat), .int .i64 (y : Nat)] ∧ ((x = a ∧ y = b) ∨ (x = b ∧ y = a)) ∧ m ≤ n + 1 ∧ Own w S [Res.row o 3 [.int .i64 (m : Nat)]] w' := by
  refine fn_enter (args := [v, .int .i64 (a : Nat), .int .i64 (b : Nat), .pointer (some ⟨o, 0, none⟩)]) Tryz.func116 rfl Tryz.ntmps116 rfl (show Own w S [Res.row o 3 [.int .i64 (n : Nat)]] w from hin) ?_
  refine c_reg (l_as rfl (l_as rfl (l_end (c_seq (c_seq (c_heldo [0] rfl (by decide) (by kernel_rfl) (fun w' hw hS => h_tk 0 rfl (by kernel_rfl) (v_mv) hS (h_tk 1 rfl (by kernel_rfl) (v_mv) hS (h_tk 2 rfl (by kernel_rfl) (v_idxP (pR hv) 1 b rfl rfl (by kernel_rfl) rfl (by omega)) hS (h_tk 3 rfl (by kernel_rfl) (v_ldP (pR hv) 1 b 0 (fun _ => rfl) rfl rfl (by omega) rfl (by kernel_rfl)) hS (h_tk 4 rfl (by kernel_rfl) (v_mv) hS (h_tk 5 rfl (by kernel_rfl) (v_mv) hS ?_))))))))))))
  refine h_tk 6 rfl (by kernel_rfl) (v_idxP (pR hv) 1 a rfl rfl (by kernel_rfl) rfl (by omega)) hS (h_tk 7 rfl (by kernel_rfl) (v_ldP (pR hv) 1 a 0 (fun _ => rfl) rfl rfl (by omega) rfl (by kernel_rfl)) hS (h_one 8 (by kernel_rfl) rfl hw (l_call (by kernel_rfl) rfl rfl (fun w' hw => (less_u (nth l b) (nth l a) w').mono ?_))))
  rintro _ w1 ⟨rfl, hO⟩
  refine (?_ : CL _ _ _ _ _ _ (Own w S [Res.row o 3 [.int .i64 (n : Nat)]])) w1 (hw.frame0 hO)
  refine l_nilH [0] rfl (by decide) (fun w' hw hS => h_done (by kernel_rfl) ?_)
  refine (?_ : C _ _ _ _ _ _ _ (Own w S [Res.row o 3 [.int .i64 (n : Nat)]])) _ hw
  refine c_dec rfl (fun c1 => ?_) (fun c1 => ?_)
  ·
   refine c_reg (l_mv rfl (l_nck rfl rfl (l_ldo 0 (v := .int .i64 (n : Nat)) rfl rfl rfl (by kernel_rfl) rfl (l_add rfl rfl (wi64 (by omega)) rfl (l_nck rfl rfl (l_st (cs := [.int .i64 (n : Nat)]) 0 rfl rfl rfl (by kernel_rfl) rfl (Nat.le_of_ble_eq_true rfl) (l_end (c_reg (l_mv rfl (l_mv rfl (l_as rfl (l_as rfl ?_))))))))))))
   refine l_end ?_
   exact c_ret (ret2 (v := .int .i64 (b : Nat)) (v' := .int .i64 (a : Nat)) rfl rfl rfl (fun w' hw => ⟨b, a, n + 1, rfl, (.inr ⟨rfl, rfl⟩), (Nat.le_refl _), hw⟩))
  ·
   refine c_skipC (c_reg (l_mv rfl (l_mv rfl (l_as rfl (l_as rfl (l_end ?_))))))
   exact c_ret (ret2 (v := .int .i64 (a : Nat)) (v' := .int .i64 (b : Nat)) rfl rfl rfl (fun w' hw => ⟨a, b, n, rfl, (.inl ⟨rfl, rfl⟩), (Nat.le_succ _), hw⟩))
theorem median_u {S : List Nat} (v : Value) (l : List Nat) (a b c n o : Nat) (w : World) (ha : a < l.length) (hb : b < l.length) (hc : c < l.length) (hl : LenOk l.length) (hn : n ≤ 90) (hin : Own w S [Res.row o 3 [.int .i64 (n : Nat)]] w) (hv : Rd w S (Res.sl v l.length (l.flatMap U1))) : Rets Tryz.prog 114 #[v, .int .i64 (a : Nat), .int .i64 (b : Nat), .int .i64 (c : Nat), .pointer (some ⟨o, 0, none⟩)] w fun u_ w' => ∃ (x m : Nat), u_ = .int .i64 (x : Nat) ∧ (x = a ∨ x = b ∨ x = c) ∧ m ≤ n + 3 ∧ Own w S [Res.row o 3 [.int .i64 (m : Nat)]] w' := by
  refine fn_enter (args := [v, .int .i64 (a : Nat), .int .i64 (b : Nat), .int .i64 (c : Nat), .pointer (some ⟨o, 0, none⟩)]) Tryz.func114 rfl Tryz.ntmps114 rfl (show Own w S [Res.row o 3 [.int .i64 (n : Nat)]] w from hin) ?_
  refine c_reg (l_as rfl (l_end (c_reg (l_mv rfl (l_mv rfl (l_mv rfl (l_mv rfl (l_call (by kernel_rfl) rfl rfl (fun w' hw => (order2_u v l a b n o w' (by first | assumption | omega | (simp <;> omega) | (constructor <;> (first | omega | (simp only [LenOk]; omega) | (simp <;> omega)))) (by first | assumption | omega | (simp <;> omega) | (constructor <;> (first | omega | (simp only [LenOk]; omega) | (simp <;> omega)))) (by first | assumption | omega | (simp <;> omega) | (constructor <;> (first | omega | (simp only [LenOk]; omega) | (simp <;> omega)))) (by first | assumption | omega | (simp <;> omega) | (constructor <;> (first | omega | (simp only [LenOk]; omega) | (simp <;> omega)))) (hw.give [0] rfl (by decide)) (hw.rdTo hv [0] rfl)).mono ?_)))))))))
  rintro _ w1 ⟨x1_, y2_, m3_, rfl, hf1_4, hf1_4_1, hO⟩
  refine (?_ : CL _ _ _ _ _ _ (Own w S [Res.row o 3 [.int .i64 (m3_ : Nat)]])) w1 (hw.frameL [0] rfl hO)
  refine l_mv rfl (l_ext (vs := [.int .i64 (x1_ : Nat), .int .i64 (y2_ : Nat)]) rfl rfl rfl (l_ext (vs := [.int .i64 (x1_ : Nat), .int .i64 (y2_ : Nat)]) rfl rfl rfl (l_as rfl (l_as rfl (l_end (c_reg (l_mv rfl (l_mv rfl (l_mv rfl (l_mv rfl (l_call (by kernel_rfl) rfl rfl (fun w' hw => (order2_u v l y2_ c m3_ o w' (by first | assumption | omega | (simp <;> omega) | (constructor <;> (first | omega | (simp only [LenOk]; omega) | (simp <;> omega)))) (by first | assumption | omega | (simp <;> omega) | (constructor <;> (first | omega | (simp only [LenOk]; omega) | (simp <;> omega)))) (by first | assumption | omega | (simp <;> omega) | (constructor <;> (first | omega | (simp only [LenOk]; omega) | (simp <;> omega)))) (by first | assumption | omega | (simp <;> omega) | (constructor <;> (first | omega | (simp only [LenOk]; omega) | (simp <;> omega)))) (hw.give [0] rfl (by decide)) (hw.rdTo hv [0] rfl)).mono ?_))))))))))))
  rintro _ w1 ⟨x4_, y5_, m6_, rfl, hf2_4, hf2_4_1, hO⟩
  refine (?_ : CL _ _ _ _ _ _ (Own w S [Res.row o 3 [.int .i64 (m6_ : Nat)]])) w1 (hw.frameL [0] rfl hO)
  refine l_mv rfl (l_ext (vs := [.int .i64 (x4_ : Nat), .int .i64 (y5_ : Nat)]) rfl rfl rfl (l_ext (vs := [.int .i64 (x4_ : Nat), .int .i64 (y5_ : Nat)]) rfl rfl rfl (l_as rfl (l_as rfl (l_end (c_reg (l_mv rfl (l_mv rfl (l_mv rfl (l_mv rfl (l_call (by kernel_rfl) rfl rfl (fun w' hw => (order2_u v l x1_ x4_ m6_ o w' (by first | assumption | omega | (simp <;> omega) | (constructor <;> (first | omega | (simp only [LenOk]; omega) | (simp <;> omega)))) (by first | assumption | omega | (simp <;> omega) | (constructor <;> (first | omega | (simp only [LenOk]; omega) | (simp <;> omega)))) (by first | assumption | omega | (simp <;> omega) | (constructor <;> (first | omega | (simp only [LenOk]; omega) | (simp <;> omega)))) (by first | assumption | omega | (simp <;> omega) | (constructor <;> (first | omega | (simp only [LenOk]; omega) | (simp <;> omega)))) (hw.give [0] rfl (by decide)) (hw.rdTo hv [0] rfl)).mono ?_))))))))))))
  rintro _ w1 ⟨x7_, y8_, m9_, rfl, hf3_4, hf3_4_1, hO⟩
  refine (?_ : CL _ _ _ _ _ _ (Own w S [Res.row o 3 [.int .i64 (m9_ : Nat)]])) w1 (hw.frameL [0] rfl hO)
  refine l_mv rfl (l_ext (vs := [.int .i64 (x7_ : Nat), .int .i64 (y8_ : Nat)]) rfl rfl rfl (l_ext (vs := [.int .i64 (x7_ : Nat), .int .i64 (y8_ : Nat)]) rfl rfl rfl (l_as rfl (l_as rfl (l_end (c_reg (l_mv rfl (l_as rfl (l_end ?_)))))))))
  exact c_ret (ret1 (v := .int .i64 (y8_ : Nat)) rfl rfl (fun w' hw => ⟨y8_, m9_, rfl, (by omega), (by omega), hw⟩))
theorem medianAdj_u {S : List Nat} (v : Value) (l : List Nat) (a n o : Nat) (w : World) (ha : 1 ≤ a ∧ a + 1 < l.length) (hl : LenOk l.length) (hn : n ≤ 90) (hin : Own w S [Res.row o 3 [.int .i64 (n : Nat)]] w) (hv : Rd w S (Res.sl v l.length (l.flatMap U1))) : Rets Tryz.prog 113 #[v, .int .i64 (a : Nat), .pointer (some ⟨o, 0, none⟩)] w fun u_ w' => ∃ (x m : Nat), u_ = .int .i64 (x : Nat) ∧ (a ≤ x + 1 ∧ x ≤ a + 1) ∧ m ≤ n + 3 ∧ Own w S [Res.row o 3 [.int .i64 (m : Nat)]] w' := by
  refine fn_enter (args := [v, .int .i64 (a : Nat), .pointer (some ⟨o, 0, none⟩)]) Tryz.func113 rfl Tryz.ntmps113 rfl (show Own w S [Res.row o 3 [.int .i64 (n : Nat)]] w from hin) ?_
  refine c_reg (l_as rfl (l_end (c_reg (l_mv rfl (l_mv rfl (l_sub (c := ((a - 1 : Nat) : Int)) rfl rfl (wsi1 (by omega) (by omega)) rfl (l_mv rfl (l_mv rfl (l_add rfl rfl (wi64 (by omega)) rfl (l_mv rfl (l_call (by kernel_rfl) rfl rfl (fun w' hw => (median_u v l (a - 1) a (a + 1) n o w' (by first | assumption | omega | (simp <;> omega) | (constructor <;> (first | omega | (simp only [LenOk]; omega) | (simp <;> omega)))) (by first | assumption | omega | (simp <;> omega) | (constructor <;> (first | omega | (simp only [LenOk]; omega) | (simp <;> omega)))) (by first | assumption | omega | (simp <;> omega) | (constructor <;> (first | omega | (simp only [LenOk]; omega) | (simp <;> omega)))) (by first | assumption | omega | (simp <;> omega) | (constructor <;> (first | omega | (simp only [LenOk]; omega) | (simp <;> omega)))) (by first | assumption | omega | (simp <;> omega) | (constructor <;> (first | omega | (simp only [LenOk]; omega) | (simp <;> omega)))) (hw.give [0] rfl (by decide)) (hw.rdTo hv [0] rfl)).mono ?_))))))))))))
  rintro _ w1 ⟨x1_, m2_, rfl, hf1_7, hf1_7_1, hO⟩
  refine (?_ : CL _ _ _ _ _ _ (Own w S [Res.row o 3 [.int .i64 (m2_ : Nat)]])) w1 (hw.frameL [0] rfl hO)
  refine l_as rfl (l_end ?_)
  exact c_ret (ret1 (v := .int .i64 (x1_ : Nat)) rfl rfl (fun w' hw => ⟨x1_, m2_, rfl, (by omega), (by omega), hw⟩))
theorem pivot_u (v : Value) (l : List Nat) (a b : Nat) (w : World) (hab : a + 12 < b) (hb : b ≤ l.length) (hl : LenOk l.length) (hv : Rd w [] (Res.sl v l.length (l.flatMap U1))) : Rets Tryz.prog 94 #[v, .int .i64 (a : Nat), .int .i64 (b : Nat)] w fun u_ w' => ∃ (p : Nat) (h : Int), u_ = .tuple #[.int .i64 (p : Nat), .int .i64 h] ∧ (a ≤ p ∧ p < b) ∧ Own w [] [] w' := by
  refine fn_enter (args := [v, .int .i64 (a : Nat), .int .i64 (b : Nat)]) Tryz.func94 rfl Tryz.ntmps94 rfl (Own.start w) ?_
  refine c_reg (l_as rfl (l_as rfl (l_end (c_reg (l_mv rfl (l_mv rfl (l_sub (c := ((b - a : Nat) : Int)) rfl rfl (wsi (by omega) (by omega)) rfl (l_as rfl (l_end (c_reg (l_new (v := .int .i64 0) (by kernel_rfl) rfl (fun b9 => l_end ?_))))))))))))
  refine c_reg (l_mv rfl (l_mv rfl (l_quo (c := (((b - a) / 4 : Nat) : Int)) rfl rfl (by decide) (qui (b := 4) (by omega)) rfl (l_mul rfl rfl (wi64 (by omega)) rfl (l_add rfl rfl (wi64 (by omega)) rfl (l_as rfl (l_end (c_reg (l_mv rfl (l_mv rfl (l_quo (c := (((b - a) / 4 : Nat) : Int)) rfl rfl (by decide) (qui (b := 4) (by omega)) rfl (l_mul rfl rfl (wi64 (by omega)) rfl ?_))))))))))))
  refine l_add rfl rfl (wi64 (by omega)) rfl (l_as rfl (l_end (c_reg (l_mv rfl (l_mv rfl (l_quo (c := (((b - a) / 4 : Nat) : Int)) rfl rfl (by decide) (qui (b := 4) (by omega)) rfl (l_mul rfl rfl (wi64 (by omega)) rfl (l_add rfl rfl (wi64 (by omega)) rfl (l_as rfl (l_end (c_seq (c_reg ?_))))))))))))
  refine l_mv rfl (l_geq rfl rfl rfl (l_end (c_dec rfl (fun c1 => ?_) (fun c1 => ?_))))
  ·
   refine c_seq (c_reg (l_mv rfl (l_geq rfl rfl rfl (l_end (c_dec rfl (fun c2 => ?_) (fun c2 => ?_))))))
   ·
    refine c_reg (l_mv rfl (l_mv rfl (l_call (by kernel_rfl) rfl rfl (fun w' hw => (medianAdj_u v l (a + (((b - a) / 4) * 1)) 0 b9 w' (by first | assumption | omega | (simp <;> omega) | (constructor <;> (first | omega | (simp only [LenOk]; omega) | (simp <;> omega)))) (by first | assumption | omega | (simp <;> omega) | (constructor <;> (first | omega | (simp only [LenOk]; omega) | (simp <;> omega)))) (by first | assumption | omega | (simp <;> omega) | (constructor <;> (first | omega | (simp only [LenOk]; omega) | (simp <;> omega)))) (hw.give [0] rfl (by decide)) (hw.rdTo hv [0] rfl)).mono ?_))))
    rintro _ w1 ⟨x1_, m2_, rfl, hf8_2, hf8_2_1, hO⟩
    refine (?_ : CL _ _ _ _ _ _ (Own w [] [Res.row b9 3 [.int .i64 (m2_ : Nat)]])) w1 (hw.frameL [0] rfl hO)
    refine l_as rfl (l_end (c_reg (l_mv rfl (l_mv rfl (l_call (by kernel_rfl) rfl rfl (fun w' hw => (medianAdj_u v l (a + (((b - a) / 4) * 2)) m2_ b9 w' (by first | assumption | omega | (simp <;> omega) | (constructor <;> (first | omega | (simp only [LenOk]; omega) | (simp <;> omega)))) (by first | assumption | omega | (simp <;> omega) | (constructor <;> (first | omega | (simp only [LenOk]; omega) | (simp <;> omega)))) (by first | assumption | omega | (simp <;> omega) | (constructor <;> (first | omega | (simp only [LenOk]; omega) | (simp <;> omega)))) (hw.give [0] rfl (by decide)) (hw.rdTo hv [0] rfl)).mono ?_))))))
    rintro _ w1 ⟨x3_, m4_, rfl, hf9_2, hf9_2_1, hO⟩
    refine (?_ : CL _ _ _ _ _ _ (Own w [] [Res.row b9 3 [.int .i64 (m4_ : Nat)]])) w1 (hw.frameL [0] rfl hO)
    refine l_as rfl (l_end (c_last (l_mv rfl (l_mv rfl (l_call (by kernel_rfl) rfl rfl (fun w' hw => (medianAdj_u v l (a + (((b - a) / 4) * 3)) m4_ b9 w' (by first | assumption | omega | (simp <;> omega) | (constructor <;> (first | omega | (simp only [LenOk]; omega) | (simp <;> omega)))) (by first | assumption | omega | (simp <;> omega) | (constructor <;> (first | omega | (simp only [LenOk]; omega) | (simp <;> omega)))) (by first | assumption | omega | (simp <;> omega) | (constructor <;> (first | omega | (simp only [LenOk]; omega) | (simp <;> omega)))) (hw.give [0] rfl (by decide)) (hw.rdTo hv [0] rfl)).mono ?_))))))
    rintro _ w1 ⟨x5_, m6_, rfl, hf10_2, hf10_2_1, hO⟩
    refine (?_ : CL _ _ _ _ _ _ (Own w [] [Res.row b9 3 [.int .i64 (m6_ : Nat)]])) w1 (hw.frameL [0] rfl hO)
    refine l_as rfl (l_end (c_last (l_mv rfl (l_mv rfl (l_mv rfl (l_mv rfl (l_call (by kernel_rfl) rfl rfl (fun w' hw => (median_u v l x1_ x3_ x5_ m6_ b9 w' (by first | assumption | omega | (simp <;> omega) | (constructor <;> (first | omega | (simp only [LenOk]; omega) | (simp <;> omega)))) (by first | assumption | omega | (simp <;> omega) | (constructor <;> (first | omega | (simp only [LenOk]; omega) | (simp <;> omega)))) (by first | assumption | omega | (simp <;> omega) | (constructor <;> (first | omega | (simp only [LenOk]; omega) | (simp <;> omega)))) (by first | assumption | omega | (simp <;> omega) | (constructor <;> (first | omega | (simp only [LenOk]; omega) | (simp <;> omega)))) (by first | assumption | omega | (simp <;> omega) | (constructor <;> (first | omega | (simp only [LenOk]; omega) | (simp <;> omega)))) (hw.give [0] rfl (by decide)) (hw.rdTo hv [0] rfl)).mono ?_))))))))
    rintro _ w1 ⟨x7_, m8_, rfl, hf11_4, hf11_4_1, hO⟩
    refine (?_ : CL _ _ _ _ _ _ (Own w [] [Res.row b9 3 [.int .i64 (m8_ : Nat)]])) w1 (hw.frameL [0] rfl hO)
    refine l_as rfl (l_end (c_reg (l_ldo 0 (v := .int .i64 (m8_ : Nat)) rfl rfl rfl (by kernel_rfl) rfl (l_end (c_block (c_reg (l_eq rfl rfl rfl (l_as rfl (l_end (c_dec rfl (fun c3 => ?_) (fun c3 => ?_)))))))))))
    ·
     refine c_reg (l_mv rfl (l_as rfl (l_as rfl (l_end ?_))))
     exact c_ret (ret2 (v := .int .i64 (x7_ : Nat)) (v' := .int .i64 1) rfl rfl rfl (fun w' hw => ⟨x7_, 1, rfl, ⟨by omega, by omega⟩, hw.drop⟩))
    ·
     refine c_reg (l_eq rfl rfl rfl (l_as rfl (l_end (c_dec rfl (fun c4 => ?_) (fun c4 => ?_)))))
     ·
      refine c_reg (l_mv rfl (l_as rfl (l_as rfl (l_end ?_))))
      exact c_ret (ret2 (v := .int .i64 (x7_ : Nat)) (v' := .int .i64 2) rfl rfl rfl (fun w' hw => ⟨x7_, 2, rfl, ⟨by omega, by omega⟩, hw.drop⟩))
     ·
      refine c_reg (l_mv rfl (l_as rfl (l_as rfl (l_end ?_))))
      exact c_ret (ret2 (v := .int .i64 (x7_ : Nat)) (v' := .int .i64 0) rfl rfl rfl (fun w' hw => ⟨x7_, 0, rfl, ⟨by omega, by omega⟩, hw.drop⟩))
   ·
    refine c_skipC (c_last (l_mv rfl (l_mv rfl (l_mv rfl (l_mv rfl (l_call (by kernel_rfl) rfl rfl (fun w' hw => (median_u v l (a + (((b - a) / 4) * 1)) (a + (((b - a) / 4) * 2)) (a + (((b - a) / 4) * 3)) 0 b9 w' (by first | assumption | omega | (simp <;> omega) | (constructor <;> (first | omega | (simp only [LenOk]; omega) | (simp <;> omega)))) (by first | assumption | omega | (simp <;> omega) | (constructor <;> (first | omega | (simp only [LenOk]; omega) | (simp <;> omega)))) (by first | assumption | omega | (simp <;> omega) | (constructor <;> (first | omega | (simp only [LenOk]; omega) | (simp <;> omega)))) (by first | assumption | omega | (simp <;> omega) | (constructor <;> (first | omega | (simp only [LenOk]; omega) | (simp <;> omega)))) (by first | assumption | omega | (simp <;> omega) | (constructor <;> (first | omega | (simp only [LenOk]; omega) | (simp <;> omega)))) (hw.give [0] rfl (by decide)) (hw.rdTo hv [0] rfl)).mono ?_)))))))
    rintro _ w1 ⟨x9_, m10_, rfl, hf11_4, hf11_4_1, hO⟩
    refine (?_ : CL _ _ _ _ _ _ (Own w [] [Res.row b9 3 [.int .i64 (m10_ : Nat)]])) w1 (hw.frameL [0] rfl hO)
    refine l_as rfl (l_end (c_reg (l_ldo 0 (v := .int .i64 (m10_ : Nat)) rfl rfl rfl (by kernel_rfl) rfl (l_end (c_block (c_reg (l_eq rfl rfl rfl (l_as rfl (l_end (c_dec rfl (fun c5 => ?_) (fun c5 => ?_)))))))))))
    ·
     refine c_reg (l_mv rfl (l_as rfl (l_as rfl (l_end ?_))))
     exact c_ret (ret2 (v := .int .i64 (x9_ : Nat)) (v' := .int .i64 1) rfl rfl rfl (fun w' hw => ⟨x9_, 1, rfl, ⟨by omega, by omega⟩, hw.drop⟩))
    ·
     refine c_reg (l_eq rfl rfl rfl (l_as rfl (l_end (c_dec rfl (fun c6 => ?_) (fun c6 => ?_)))))
     ·
      refine c_reg (l_mv rfl (l_as rfl (l_as rfl (l_end ?_))))
      exact c_ret (ret2 (v := .int .i64 (x9_ : Nat)) (v' := .int .i64 2) rfl rfl rfl (fun w' hw => ⟨x9_, 2, rfl, ⟨by omega, by omega⟩, hw.drop⟩))
     ·
      refine c_reg (l_mv rfl (l_as rfl (l_as rfl (l_end ?_))))
      exact c_ret (ret2 (v := .int .i64 (x9_ : Nat)) (v' := .int .i64 0) rfl rfl rfl (fun w' hw => ⟨x9_, 0, rfl, ⟨by omega, by omega⟩, hw.drop⟩))
  ·
   refine c_skipC (c_reg (l_ldo 0 (v := .int .i64 0) rfl rfl rfl (by kernel_rfl) rfl (l_end (c_block (c_reg (l_eq rfl rfl rfl (l_as rfl (l_end (c_dec rfl (fun c7 => ?_) (fun c7 => ?_))))))))))
   ·
    refine c_reg (l_mv rfl (l_as rfl (l_as rfl (l_end ?_))))
    exact c_ret (ret2 (v := .int .i64 (a + (((b - a) / 4) * 2) : Nat)) (v' := .int .i64 1) rfl rfl rfl (fun w' hw => ⟨a + (((b - a) / 4) * 2), 1, rfl, ⟨by omega, by omega⟩, hw.drop⟩))
   ·
    refine c_reg (l_eq rfl rfl rfl (l_as rfl (l_end (c_dec rfl (fun c8 => ?_) (fun c8 => ?_)))))
    ·
     refine c_reg (l_mv rfl (l_as rfl (l_as rfl (l_end ?_))))
     exact c_ret (ret2 (v := .int .i64 (a + (((b - a) / 4) * 2) : Nat)) (v' := .int .i64 2) rfl rfl rfl (fun w' hw => ⟨a + (((b - a) / 4) * 2), 2, rfl, ⟨by omega, by omega⟩, hw.drop⟩))
    ·
     refine c_reg (l_mv rfl (l_as rfl (l_as rfl (l_end ?_))))
     exact c_ret (ret2 (v := .int .i64 (a + (((b - a) / 4) * 2) : Nat)) (v' := .int .i64 0) rfl rfl rfl (fun w' hw => ⟨a + (((b - a) / 4) * 2), 0, rfl, ⟨by omega, by omega⟩, hw.drop⟩))
theorem breakP_u {S : List Nat} (v : Value) (l : List Nat) (a b : Nat) (w : World) (ha : a ≤ b) (hb : b ≤ l.length) (hl : LenOk l.length) (hin : Own w S [Res.vec 23 1 v l.length (l.flatMap U1)] w) : Rets Tryz.prog 93 #[v, .int .i64 (a : Nat), .int .i64 (b : Nat)] w fun u_ w' => ∃ (l' : List Nat), u_ = .tuple #[] ∧ Same a b l l' ∧ Own w S [Res.vec 23 1 v l'.length (l'.flatMap U1)] w' := by
  refine fn_enter (args := [v, .int .i64 (a : Nat), .int .i64 (b : Nat)]) Tryz.func93 rfl Tryz.ntmps93 rfl (show Own w S [Res.vec 23 1 v l.length (l.flatMap U1)] w from hin) ?_
  refine c_reg (l_mv rfl (l_mv rfl (l_sub (c := ((b - a : Nat) : Int)) rfl rfl (wsi (by omega) (by omega)) rfl (l_as rfl (l_end (c_reg (l_mv rfl (l_geq rfl rfl rfl (l_end (c_dec rfl (fun c1 => ?_) (fun c1 => ?_)))))))))))
  ·
   have hM := pow_le (n := b - a) (by omega)
   have hM2 : 2 ^ bitLen (b - a) ≤ 4000000000000 := Nat.le_trans hM.1 (by omega)
   refine c_reg (l_mv rfl (l_cvt (by kernel_rfl) rfl (wu64 (by omega)) rfl ?_ (by kernel_rfl)))
   refine l_new (v := .int .u64 (0 : Nat)) (by kernel_rfl) rfl (fun b7 => l_st (cs := [.int .u64 (0 : Nat)]) 1 rfl rfl rfl (by kernel_rfl) rfl (Nat.le_of_ble_eq_true rfl) (l_end (c_reg (l_mv rfl (l_call (by kernel_rfl) rfl rfl (fun w' hw => (np2_s (b - a) w' (by first | assumption | omega | (simp <;> omega) | (constructor <;> (first | omega | (simp only [LenOk]; omega) | (simp <;> omega))))).mono ?_))))))
   rintro _ w1 ⟨rfl, hO⟩
   refine (?_ : CL _ _ _ _ _ _ (Own w S [Res.vec 23 1 v l.length (l.flatMap U1), Res.row b7 174 [.int .u64 (b - a : Nat)]])) w1 (hw.frame0 hO)
   refine l_as rfl (l_end (c_reg (l_mv rfl (l_mv rfl (l_quo (c := (((b - a) / 4 : Nat) : Int)) rfl rfl (by decide) (qui (b := 4) (by omega)) rfl (l_mul rfl rfl (wi64 (by omega)) rfl (l_add rfl rfl (wi64 (by omega)) rfl (l_sub (c := ((a + (b - a) / 4 * 2 - 1 : Nat) : Int)) rfl rfl (wsi1 (a := a + (b - a) / 4 * 2) (by omega) (by omega)) rfl (l_as rfl (l_end (c_block ?_)))))))))))
   refine c_loop3 (fun (i : Nat) (q : List Nat) (y : Int) => [(0, v), (1, .int .i64 (a : Nat)), (6, .int .i64 (b - a : Nat)), (7, .pointer (some ⟨b7, 0, none⟩)), (8, .int .u64 ((2 ^ bitLen (b - a)) : Nat)), (9, .int .i64 (i : Nat))]) (fun (i : Nat) (q : List Nat) (y : Int) => (a + (b - a) / 4 * 2 ≤ i + 1 ∧ i ≤ a + (b - a) / 4 * 2 + 2) ∧ Same a b l q) (fun (i : Nat) (q : List Nat) (y : Int) => [Res.vec 23 1 v q.length (q.flatMap U1), Res.row b7 174 [.int .u64 y]]) (fun (i : Nat) (q : List Nat) (y : Int) => a + (b - a) / 4 * 2 + 2 - i) (fun w' hw => ⟨a + (b - a) / 4 * 2 - 1, l, ((b - a : Nat) : Int), ⟨rfl, rfl, rfl, rfl, rfl, rfl, trivial⟩, ⟨⟨by omega, by omega⟩, Same.refl _ _ _⟩, hw⟩) (fun i q y g hΦ => ?_)
   have hi1 := hΦ.1
   have hS1 := hΦ.2
   have hq1 := hS1.len
   refine c_seq (c_reg (l_mv rfl (l_mv rfl (l_mv rfl (l_quo (c := (((b - a) / 4 : Nat) : Int)) rfl rfl (by decide) (qui (b := 4) (by omega)) rfl (l_mul rfl rfl (wi64 (by omega)) rfl (l_add rfl rfl (wi64 (by omega)) rfl (l_add rfl rfl (wi64 (by omega)) rfl (l_leq rfl rfl rfl (l_end (c_dec rfl (fun c2 => ?_) (fun c2 => ?_))))))))))))
   ·
    refine c_skipC (c_cut2 (fun (n : List Nat) (y2 : Int) => [(0, v), (1, .int .i64 (a : Nat)), (6, .int .i64 (b - a : Nat)), (7, .pointer (some ⟨b7, 0, none⟩)), (8, .int .u64 ((2 ^ bitLen (b - a)) : Nat)), (9, .int .i64 (i : Nat))]) (fun (n : List Nat) (y2 : Int) => ∃ z, z < b - a ∧ n = swp q i (a + z)) (fun (n : List Nat) (y2 : Int) => [Res.vec 23 1 v n.length (n.flatMap U1), Res.row b7 174 [.int .u64 y2]]) ?_ (fun n y2 g hΦ => ?_))
    ·
     refine c_block (c_reg (l_call (by kernel_rfl) rfl rfl (fun w' hw => (next_s b7 y w' (hw.give [1] rfl (by decide))).mono ?_)))
     rintro _ w1 ⟨y1_, rfl, hO⟩
     have hz := and_lt (y := y1_) hM.2 hM2
     have hz2 := Nat.lt_of_lt_of_le hz hM.1
     refine (?_ : CL _ _ _ _ _ _ (Own w S [Res.vec 23 1 v q.length (q.flatMap U1), Res.row b7 174 [.int .u64 y1_]])) w1 (hw.frameL [1] rfl hO)
     refine l_mv rfl (l_sub (c := ((2 ^ bitLen (b - a) - 1 : Nat) : Int)) rfl rfl (ws (b := 1) hM.2 (Nat.lt_of_le_of_lt hM2 (by decide))) rfl (l_and (c := ((((y1_ % 18446744073709551616).toNat &&& (2 ^ bitLen (b - a) - 1)) : Nat) : Int)) rfl rfl (and_wrap hM.2 hM2) rfl (l_cvt (by kernel_rfl) rfl (wi64 (by omega)) rfl ?_ (by kernel_rfl))))
     refine l_as rfl (l_end (c_cut1 (fun (z : Nat) => [(0, v), (1, .int .i64 (a : Nat)), (6, .int .i64 (b - a : Nat)), (7, .pointer (some ⟨b7, 0, none⟩)), (8, .int .u64 ((2 ^ bitLen (b - a)) : Nat)), (9, .int .i64 (i : Nat)), (10, .int .i64 (z : Nat))]) (fun (z : Nat) => z < b - a) (fun (z : Nat) => [Res.vec 23 1 v q.length (q.flatMap U1), Res.row b7 174 [.int .u64 y1_]]) ?_ (fun z g hΦ => ?_)))
     ·
      refine c_reg (l_mv rfl (l_mv rfl (l_geq rfl rfl rfl (l_end (c_dec rfl (fun c3 => ?_) (fun c3 => ?_))))))
      ·
       refine c_last (l_mv rfl (l_mv rfl (l_sub (c := ((((y1_ % 18446744073709551616).toNat &&& (2 ^ bitLen (b - a) - 1)) - (b - a) : Nat) : Int)) rfl rfl (wsi (by omega) (by omega)) rfl (l_as rfl ?_))))
       exact l_nil (fun w' hw => ⟨((y1_ % 18446744073709551616).toNat &&& (2 ^ bitLen (b - a) - 1)) - (b - a), ⟨rfl, rfl, rfl, rfl, rfl, rfl, rfl, trivial⟩, by omega, hw⟩)
      ·
       exact c_skip (fun w' hw => ⟨((y1_ % 18446744073709551616).toNat &&& (2 ^ bitLen (b - a) - 1)), ⟨rfl, rfl, rfl, rfl, rfl, rfl, rfl, trivial⟩, by omega, hw⟩)
     have hzz := hΦ
     refine c_heldo [1] rfl (by decide) (by kernel_rfl) (fun w' hw hS => h_tk 0 rfl (by kernel_rfl) (v_mv) hS (h_tk 1 rfl (by kernel_rfl) (v_mv) hS (h_tk 2 rfl (by kernel_rfl) (v_mv) hS (h_tk 3 rfl (by kernel_rfl) (v_mv) hS (h_tk 4 rfl (by kernel_rfl) (v_mv) hS (h_tk 5 rfl (by kernel_rfl) (v_add rfl rfl (wi64 (by omega))) hS (h_tk 6 rfl (by kernel_rfl) (v_mv) hS (h_tk 7 rfl (by kernel_rfl) (v_mv) hS (h_tk 8 rfl (by kernel_rfl) (v_mv) hS (h_tk 9 rfl (by kernel_rfl) (v_add rfl rfl (wi64 (by omega))) hS (h_tk 12 rfl (by kernel_rfl) (v_mv) hS (h_tk 13 rfl (by kernel_rfl) (v_mv) hS ?_))))))))))))
     refine h_pick2 (i := 10) (j := 14) (by kernel_rfl) ?_ ?_
     ·
      refine pk_of 10 rfl hw (l_idxP (pV 0 rfl) 1 (a + z) rfl rfl (by kernel_rfl) rfl (by omega) rfl (l_nilH [1] rfl (by decide) (fun w' hw hS => h_pick2 (i := 11) (j := 14) (by kernel_rfl) ?_ ?_)))
      ·
       refine pk_of 11 rfl hw (l_ldP (pV 0 rfl) 1 (a + z) 0 (fun _ => rfl) rfl rfl (by omega) rfl (by kernel_rfl) rfl (l_nilH [1] rfl (by decide) (fun w' hw hS => h_one 14 (by kernel_rfl) rfl hw (l_idxP (pV 0 rfl) 1 i rfl rfl (by kernel_rfl) rfl (by omega) rfl (l_nilH [1] rfl (by decide) (fun w' hw hS => h_one 15 (by kernel_rfl) rfl hw (l_ldP (pV 0 rfl) 1 i 0 (fun _ => rfl) rfl rfl (by omega) rfl (by kernel_rfl) rfl (l_nilH [1] rfl (by decide) (fun w' hw hS => h_one 16 (by kernel_rfl) rfl hw (l_idxP (pV 0 rfl) 1 i rfl rfl (by kernel_rfl) rfl (by omega) rfl (l_nilH [1] rfl (by decide) (fun w' hw hS => h_one 17 (by kernel_rfl) rfl hw ?_))))))))))))
       refine l_stE 0 i (nth q (a + z)) rfl (fun _ => rfl) rfl (by omega) rfl rfl rfl (by omega) (by kernel_rfl) (l_nilH [1] rfl (by decide) (fun w' hw hS => h_one 18 (by kernel_rfl) rfl hw (l_idxP (pV 0 rfl) 1 (a + z) rfl rfl (by kernel_rfl) rfl (by simp only [List.length_set]; omega) rfl (l_nilH [1] rfl (by decide) (fun w' hw hS => h_one 19 (by kernel_rfl) rfl hw (l_stE 0 (a + z) (nth q i) rfl (fun _ => rfl) rfl (by omega) rfl rfl rfl (by simp only [List.length_set]; omega) (by kernel_rfl) (l_nilH [1] rfl (by decide) (fun w' hw hS => h_done (by kernel_rfl) ?_))))))))
       exact ⟨swp q i (a + z), y1_, ⟨rfl, rfl, rfl, rfl, rfl, rfl, trivial⟩, ⟨z, hzz, rfl⟩, hw⟩
      ·
       refine pk_of 14 rfl hw (l_idxP (pV 0 rfl) 1 i rfl rfl (by kernel_rfl) rfl (by omega) rfl (l_nilH [1] rfl (by decide) (fun w' hw hS => h_pick2 (i := 11) (j := 15) (by kernel_rfl) ?_ ?_)))
       ·
        refine pk_of 11 rfl hw (l_ldP (pV 0 rfl) 1 (a + z) 0 (fun _ => rfl) rfl rfl (by omega) rfl (by kernel_rfl) rfl (l_nilH [1] rfl (by decide) (fun w' hw hS => h_one 15 (by kernel_rfl) rfl hw (l_ldP (pV 0 rfl) 1 i 0 (fun _ => rfl) rfl rfl (by omega) rfl (by kernel_rfl) rfl (l_nilH [1] rfl (by decide) (fun w' hw hS => h_one 16 (by kernel_rfl) rfl hw (l_idxP (pV 0 rfl) 1 i rfl rfl (by kernel_rfl) rfl (by omega) rfl (l_nilH [1] rfl (by decide) (fun w' hw hS => h_one 17 (by kernel_rfl) rfl hw (l_stE 0 i (nth q (a + z)) rfl (fun _ => rfl) rfl (by omega) rfl rfl rfl (by omega) (by kernel_rfl) (l_nilH [1] rfl (by decide) (fun w' hw hS => h_one 18 (by kernel_rfl) rfl hw ?_))))))))))))
        refine l_idxP (pV 0 rfl) 1 (a + z) rfl rfl (by kernel_rfl) rfl (by simp only [List.length_set]; omega) rfl (l_nilH [1] rfl (by decide) (fun w' hw hS => h_one 19 (by kernel_rfl) rfl hw (l_stE 0 (a + z) (nth q i) rfl (fun _ => rfl) rfl (by omega) rfl rfl rfl (by simp only [List.length_set]; omega) (by kernel_rfl) (l_nilH [1] rfl (by decide) (fun w' hw hS => h_done (by kernel_rfl) ?_)))))
        exact ⟨swp q i (a + z), y1_, ⟨rfl, rfl, rfl, rfl, rfl, rfl, trivial⟩, ⟨z, hzz, rfl⟩, hw⟩
       ·
        refine pk_of 15 rfl hw (l_ldP (pV 0 rfl) 1 i 0 (fun _ => rfl) rfl rfl (by omega) rfl (by kernel_rfl) rfl (l_nilH [1] rfl (by decide) (fun w' hw hS => h_one 11 (by kernel_rfl) rfl hw (l_ldP (pV 0 rfl) 1 (a + z) 0 (fun _ => rfl) rfl rfl (by omega) rfl (by kernel_rfl) rfl (l_nilH [1] rfl (by decide) (fun w' hw hS => h_one 16 (by kernel_rfl) rfl hw (l_idxP (pV 0 rfl) 1 i rfl rfl (by kernel_rfl) rfl (by omega) rfl (l_nilH [1] rfl (by decide) (fun w' hw hS => h_one 17 (by kernel_rfl) rfl hw (l_stE 0 i (nth q (a + z)) rfl (fun _ => rfl) rfl (by omega) rfl rfl rfl (by omega) (by kernel_rfl) (l_nilH [1] rfl (by decide) (fun w' hw hS => h_one 18 (by kernel_rfl) rfl hw ?_))))))))))))
        refine l_idxP (pV 0 rfl) 1 (a + z) rfl rfl (by kernel_rfl) rfl (by simp only [List.length_set]; omega) rfl (l_nilH [1] rfl (by decide) (fun w' hw hS => h_one 19 (by kernel_rfl) rfl hw (l_stE 0 (a + z) (nth q i) rfl (fun _ => rfl) rfl (by omega) rfl rfl rfl (by simp only [List.length_set]; omega) (by kernel_rfl) (l_nilH [1] rfl (by decide) (fun w' hw hS => h_done (by kernel_rfl) ?_)))))
        exact ⟨swp q i (a + z), y1_, ⟨rfl, rfl, rfl, rfl, rfl, rfl, trivial⟩, ⟨z, hzz, rfl⟩, hw⟩
     ·
      refine pk_of 14 rfl hw (l_idxP (pV 0 rfl) 1 i rfl rfl (by kernel_rfl) rfl (by omega) rfl (l_nilH [1] rfl (by decide) (fun w' hw hS => h_pick2 (i := 10) (j := 15) (by kernel_rfl) ?_ ?_)))
      ·
       refine pk_of 10 rfl hw (l_idxP (pV 0 rfl) 1 (a + z) rfl rfl (by kernel_rfl) rfl (by omega) rfl (l_nilH [1] rfl (by decide) (fun w' hw hS => h_pick2 (i := 11) (j := 15) (by kernel_rfl) ?_ ?_)))
       ·
        refine pk_of 11 rfl hw (l_ldP (pV 0 rfl) 1 (a + z) 0 (fun _ => rfl) rfl rfl (by omega) rfl (by kernel_rfl) rfl (l_nilH [1] rfl (by decide) (fun w' hw hS => h_one 15 (by kernel_rfl) rfl hw (l_ldP (pV 0 rfl) 1 i 0 (fun _ => rfl) rfl rfl (by omega) rfl (by kernel_rfl) rfl (l_nilH [1] rfl (by decide) (fun w' hw hS => h_one 16 (by kernel_rfl) rfl hw (l_idxP (pV 0 rfl) 1 i rfl rfl (by kernel_rfl) rfl (by omega) rfl (l_nilH [1] rfl (by decide) (fun w' hw hS => h_one 17 (by kernel_rfl) rfl hw (l_stE 0 i (nth q (a + z)) rfl (fun _ => rfl) rfl (by omega) rfl rfl rfl (by omega) (by kernel_rfl) (l_nilH [1] rfl (by decide) (fun w' hw hS => h_one 18 (by kernel_rfl) rfl hw ?_))))))))))))
        refine l_idxP (pV 0 rfl) 1 (a + z) rfl rfl (by kernel_rfl) rfl (by simp only [List.length_set]; omega) rfl (l_nilH [1] rfl (by decide) (fun w' hw hS => h_one 19 (by kernel_rfl) rfl hw (l_stE 0 (a + z) (nth q i) rfl (fun _ => rfl) rfl (by omega) rfl rfl rfl (by simp only [List.length_set]; omega) (by kernel_rfl) (l_nilH [1] rfl (by decide) (fun w' hw hS => h_done (by kernel_rfl) ?_)))))
        exact ⟨swp q i (a + z), y1_, ⟨rfl, rfl, rfl, rfl, rfl, rfl, trivial⟩, ⟨z, hzz, rfl⟩, hw⟩
       ·
        refine pk_of 15 rfl hw (l_ldP (pV 0 rfl) 1 i 0 (fun _ => rfl) rfl rfl (by omega) rfl (by kernel_rfl) rfl (l_nilH [1] rfl (by decide) (fun w' hw hS => h_one 11 (by kernel_rfl) rfl hw (l_ldP (pV 0 rfl) 1 (a + z) 0 (fun _ => rfl) rfl rfl (by omega) rfl (by kernel_rfl) rfl (l_nilH [1] rfl (by decide) (fun w' hw hS => h_one 16 (by kernel_rfl) rfl hw (l_idxP (pV 0 rfl) 1 i rfl rfl (by kernel_rfl) rfl (by omega) rfl (l_nilH [1] rfl (by decide) (fun w' hw hS => h_one 17 (by kernel_rfl) rfl hw (l_stE 0 i (nth q (a + z)) rfl (fun _ => rfl) rfl (by omega) rfl rfl rfl (by omega) (by kernel_rfl) (l_nilH [1] rfl (by decide) (fun w' hw hS => h_one 18 (by kernel_rfl) rfl hw ?_))))))))))))
        refine l_idxP (pV 0 rfl) 1 (a + z) rfl rfl (by kernel_rfl) rfl (by simp only [List.length_set]; omega) rfl (l_nilH [1] rfl (by decide) (fun w' hw hS => h_one 19 (by kernel_rfl) rfl hw (l_stE 0 (a + z) (nth q i) rfl (fun _ => rfl) rfl (by omega) rfl rfl rfl (by simp only [List.length_set]; omega) (by kernel_rfl) (l_nilH [1] rfl (by decide) (fun w' hw hS => h_done (by kernel_rfl) ?_)))))
        exact ⟨swp q i (a + z), y1_, ⟨rfl, rfl, rfl, rfl, rfl, rfl, trivial⟩, ⟨z, hzz, rfl⟩, hw⟩
      ·
       refine pk_of 15 rfl hw (l_ldP (pV 0 rfl) 1 i 0 (fun _ => rfl) rfl rfl (by omega) rfl (by kernel_rfl) rfl (l_nilH [1] rfl (by decide) (fun w' hw hS => h_one 10 (by kernel_rfl) rfl hw (l_idxP (pV 0 rfl) 1 (a + z) rfl rfl (by kernel_rfl) rfl (by omega) rfl (l_nilH [1] rfl (by decide) (fun w' hw hS => h_one 11 (by kernel_rfl) rfl hw (l_ldP (pV 0 rfl) 1 (a + z) 0 (fun _ => rfl) rfl rfl (by omega) rfl (by kernel_rfl) rfl (l_nilH [1] rfl (by decide) (fun w' hw hS => h_one 16 (by kernel_rfl) rfl hw (l_idxP (pV 0 rfl) 1 i rfl rfl (by kernel_rfl) rfl (by omega) rfl (l_nilH [1] rfl (by decide) (fun w' hw hS => h_one 17 (by kernel_rfl) rfl hw ?_))))))))))))
       refine l_stE 0 i (nth q (a + z)) rfl (fun _ => rfl) rfl (by omega) rfl rfl rfl (by omega) (by kernel_rfl) (l_nilH [1] rfl (by decide) (fun w' hw hS => h_one 18 (by kernel_rfl) rfl hw (l_idxP (pV 0 rfl) 1 (a + z) rfl rfl (by kernel_rfl) rfl (by simp only [List.length_set]; omega) rfl (l_nilH [1] rfl (by decide) (fun w' hw hS => h_one 19 (by kernel_rfl) rfl hw (l_stE 0 (a + z) (nth q i) rfl (fun _ => rfl) rfl (by omega) rfl rfl rfl (by simp only [List.length_set]; omega) (by kernel_rfl) (l_nilH [1] rfl (by decide) (fun w' hw hS => h_done (by kernel_rfl) ?_))))))))
       exact ⟨swp q i (a + z), y1_, ⟨rfl, rfl, rfl, rfl, rfl, rfl, trivial⟩, ⟨z, hzz, rfl⟩, hw⟩
    obtain ⟨z, hzz, hn⟩ := hΦ
    refine c_last (l_mv rfl (l_add rfl rfl (wi64 (by omega)) rfl (l_as rfl ?_)))
    exact l_nil (fun w' hw => ⟨i + 1, n, y2, ⟨rfl, rfl, rfl, rfl, rfl, rfl, trivial⟩, ⟨⟨by omega, by omega⟩, by rw [hn]; exact hS1.then_swp ⟨by omega, by omega⟩ ⟨by omega, by omega⟩ hb⟩, hw, (by omega)⟩)
   ·
    exact c_exit rfl (ret0 rfl (fun w' hw => ⟨q, rfl, hS1, hw.sel [0] rfl (by decide)⟩))
  ·
   exact c_skip (ret0 rfl (fun w' hw => ⟨l, rfl, Same.refl _ _ _, hw⟩))
end Go.Proofs.YtgcmbdgimepnmaaGreat
