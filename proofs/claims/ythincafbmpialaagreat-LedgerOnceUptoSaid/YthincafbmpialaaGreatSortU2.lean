/-
  THE WALKS OF the library's sort, over numbers of 64 bits: parting.
-/
import Derived.Test.YthincafbmpialaaGreatSortU
set_option linter.unusedVariables false
set_option maxRecDepth 10000
namespace Go.Proofs.YthincafbmpialaaGreat
open Go Go.Sc Go.Proofs

theorem part_u {S : List Nat} (v : Value) (l : List Nat) (a b p : Nat) (w : World) (ha : a ≤ p ∧ p < b) (hb : b ≤ l.length) (hl : LenOk l.length) (hin : Own w S [Res.vec 28 1 v l.length (l.flatMap U1)] w) : Rets Tryz.prog 149 #[v, Vj a, Vj b, Vj p] w fun u_ w' => ∃ (l' : List Nat) (m : Nat) (al : Bool), u_ = .tuple #[Vj m, .bool al] ∧ Same a b l l' ∧ (a ≤ m ∧ m < b) ∧ Part a b m l' ∧ Own w S [Res.vec 28 1 v l'.length (l'.flatMap U1)] w' := by
  refine fn_own Tryz.func149 rfl Tryz.ntmps149 hin ?_
  refine c_reg (l_as rfl (l_as rfl (l_end (c_cut1 (fun (q : List Nat) => [(0, v), (1, Vj a), (2, Vj b)]) (fun (q : List Nat) => Same a b l q) (fun (q : List Nat) => [Res.vec 28 1 v q.length (q.flatMap U1)]) ?_ (fun q g hΦ => ?_)))))
  ·
   refine c_heldo [] rfl (by decide) (by kernel_rfl) (fun w' hw hS => g_tk 0 rfl (v_mv) hS (g_tk 1 rfl (v_mv) hS (g_tk 2 rfl (v_mv) hS (g_tk 3 rfl (v_mv) hS (g_tk 4 rfl (v_mv) hS (g_tk 5 rfl (v_mv) hS (g_tk 8 rfl (v_mv) hS (g_tk 9 rfl (v_mv) hS (g_pick2 6 10 ?_ ?_)))))))))
   ·
    refine pk_of 6 rfl hw (a_idxP (pV 0 rfl) 1 p rfl rfl rfl (by omega) rfl (l_nilH [] rfl (by decide) (fun w' hw hS => g_pick2 7 10 ?_ ?_)))
    ·
     refine pk_of 7 rfl hw (a_ldP (pV 0 rfl) 1 p 0 (fun _ => rfl) rfl rfl (by omega) rfl rfl (l_nx 10 rfl (a_idxP (pV 0 rfl) 1 a rfl rfl rfl (by omega) rfl (l_nx 11 rfl (a_ldP (pV 0 rfl) 1 a 0 (fun _ => rfl) rfl rfl (by omega) rfl rfl (l_nx 12 rfl (a_idxP (pV 0 rfl) 1 a rfl rfl rfl (by omega) rfl (l_nx 13 rfl ?_))))))))
     refine a_stE 0 a (nth l p) rfl (fun _ => rfl) rfl (by omega) rfl rfl rfl (by omega) (l_nx 14 rfl (a_idxP (pV 0 rfl) 1 p rfl rfl rfl (by simp only [List.length_set]; omega) rfl (l_nx 15 rfl (a_stE 0 p (nth l a) rfl (fun _ => rfl) rfl (by omega) rfl rfl rfl (by simp only [List.length_set]; omega) (l_nilH [] rfl (by decide) (fun w' hw hS => g_done ?_))))))
     exact ⟨swp l a p, ⟨rfl, rfl, rfl, trivial⟩, Same.ex ⟨by omega, by omega⟩ ⟨by omega, by omega⟩ hb, hw⟩
    ·
     refine pk_of 10 rfl hw (a_idxP (pV 0 rfl) 1 a rfl rfl rfl (by omega) rfl (l_nilH [] rfl (by decide) (fun w' hw hS => g_pick2 7 11 ?_ ?_)))
     ·
      refine pk_of 7 rfl hw (a_ldP (pV 0 rfl) 1 p 0 (fun _ => rfl) rfl rfl (by omega) rfl rfl (l_nx 11 rfl (a_ldP (pV 0 rfl) 1 a 0 (fun _ => rfl) rfl rfl (by omega) rfl rfl (l_nx 12 rfl (a_idxP (pV 0 rfl) 1 a rfl rfl rfl (by omega) rfl (l_nx 13 rfl (a_stE 0 a (nth l p) rfl (fun _ => rfl) rfl (by omega) rfl rfl rfl (by omega) (l_nx 14 rfl ?_))))))))
      refine a_idxP (pV 0 rfl) 1 p rfl rfl rfl (by simp only [List.length_set]; omega) rfl (l_nx 15 rfl (a_stE 0 p (nth l a) rfl (fun _ => rfl) rfl (by omega) rfl rfl rfl (by simp only [List.length_set]; omega) (l_nilH [] rfl (by decide) (fun w' hw hS => g_done ?_))))
      exact ⟨swp l a p, ⟨rfl, rfl, rfl, trivial⟩, Same.ex ⟨by omega, by omega⟩ ⟨by omega, by omega⟩ hb, hw⟩
     ·
      refine pk_of 11 rfl hw (a_ldP (pV 0 rfl) 1 a 0 (fun _ => rfl) rfl rfl (by omega) rfl rfl (l_nx 7 rfl (a_ldP (pV 0 rfl) 1 p 0 (fun _ => rfl) rfl rfl (by omega) rfl rfl (l_nx 12 rfl (a_idxP (pV 0 rfl) 1 a rfl rfl rfl (by omega) rfl (l_nx 13 rfl (a_stE 0 a (nth l p) rfl (fun _ => rfl) rfl (by omega) rfl rfl rfl (by omega) (l_nx 14 rfl ?_))))))))
      refine a_idxP (pV 0 rfl) 1 p rfl rfl rfl (by simp only [List.length_set]; omega) rfl (l_nx 15 rfl (a_stE 0 p (nth l a) rfl (fun _ => rfl) rfl (by omega) rfl rfl rfl (by simp only [List.length_set]; omega) (l_nilH [] rfl (by decide) (fun w' hw hS => g_done ?_))))
      exact ⟨swp l a p, ⟨rfl, rfl, rfl, trivial⟩, Same.ex ⟨by omega, by omega⟩ ⟨by omega, by omega⟩ hb, hw⟩
   ·
    refine pk_of 10 rfl hw (a_idxP (pV 0 rfl) 1 a rfl rfl rfl (by omega) rfl (l_nilH [] rfl (by decide) (fun w' hw hS => g_pick2 6 11 ?_ ?_)))
    ·
     refine pk_of 6 rfl hw (a_idxP (pV 0 rfl) 1 p rfl rfl rfl (by omega) rfl (l_nilH [] rfl (by decide) (fun w' hw hS => g_pick2 7 11 ?_ ?_)))
     ·
      refine pk_of 7 rfl hw (a_ldP (pV 0 rfl) 1 p 0 (fun _ => rfl) rfl rfl (by omega) rfl rfl (l_nx 11 rfl (a_ldP (pV 0 rfl) 1 a 0 (fun _ => rfl) rfl rfl (by omega) rfl rfl (l_nx 12 rfl (a_idxP (pV 0 rfl) 1 a rfl rfl rfl (by omega) rfl (l_nx 13 rfl (a_stE 0 a (nth l p) rfl (fun _ => rfl) rfl (by omega) rfl rfl rfl (by omega) (l_nx 14 rfl ?_))))))))
      refine a_idxP (pV 0 rfl) 1 p rfl rfl rfl (by simp only [List.length_set]; omega) rfl (l_nx 15 rfl (a_stE 0 p (nth l a) rfl (fun _ => rfl) rfl (by omega) rfl rfl rfl (by simp only [List.length_set]; omega) (l_nilH [] rfl (by decide) (fun w' hw hS => g_done ?_))))
      exact ⟨swp l a p, ⟨rfl, rfl, rfl, trivial⟩, Same.ex ⟨by omega, by omega⟩ ⟨by omega, by omega⟩ hb, hw⟩
     ·
      refine pk_of 11 rfl hw (a_ldP (pV 0 rfl) 1 a 0 (fun _ => rfl) rfl rfl (by omega) rfl rfl (l_nx 7 rfl (a_ldP (pV 0 rfl) 1 p 0 (fun _ => rfl) rfl rfl (by omega) rfl rfl (l_nx 12 rfl (a_idxP (pV 0 rfl) 1 a rfl rfl rfl (by omega) rfl (l_nx 13 rfl (a_stE 0 a (nth l p) rfl (fun _ => rfl) rfl (by omega) rfl rfl rfl (by omega) (l_nx 14 rfl ?_))))))))
      refine a_idxP (pV 0 rfl) 1 p rfl rfl rfl (by simp only [List.length_set]; omega) rfl (l_nx 15 rfl (a_stE 0 p (nth l a) rfl (fun _ => rfl) rfl (by omega) rfl rfl rfl (by simp only [List.length_set]; omega) (l_nilH [] rfl (by decide) (fun w' hw hS => g_done ?_))))
      exact ⟨swp l a p, ⟨rfl, rfl, rfl, trivial⟩, Same.ex ⟨by omega, by omega⟩ ⟨by omega, by omega⟩ hb, hw⟩
    ·
     refine pk_of 11 rfl hw (a_ldP (pV 0 rfl) 1 a 0 (fun _ => rfl) rfl rfl (by omega) rfl rfl (l_nx 6 rfl (a_idxP (pV 0 rfl) 1 p rfl rfl rfl (by omega) rfl (l_nx 7 rfl (a_ldP (pV 0 rfl) 1 p 0 (fun _ => rfl) rfl rfl (by omega) rfl rfl (l_nx 12 rfl (a_idxP (pV 0 rfl) 1 a rfl rfl rfl (by omega) rfl (l_nx 13 rfl ?_))))))))
     refine a_stE 0 a (nth l p) rfl (fun _ => rfl) rfl (by omega) rfl rfl rfl (by omega) (l_nx 14 rfl (a_idxP (pV 0 rfl) 1 p rfl rfl rfl (by simp only [List.length_set]; omega) rfl (l_nx 15 rfl (a_stE 0 p (nth l a) rfl (fun _ => rfl) rfl (by omega) rfl rfl rfl (by simp only [List.length_set]; omega) (l_nilH [] rfl (by decide) (fun w' hw hS => g_done ?_))))))
     exact ⟨swp l a p, ⟨rfl, rfl, rfl, trivial⟩, Same.ex ⟨by omega, by omega⟩ ⟨by omega, by omega⟩ hb, hw⟩
  have hql := hΦ.len
  have hSq := hΦ
  refine c_reg (l_mv rfl (l_add rfl rfl (wi64 (by omega)) rfl (l_mv rfl (l_sub (c := ((b - 1 : Nat) : Int)) rfl rfl (wsi1 (by omega) (by omega)) rfl (l_as rfl (l_as rfl (l_end (c_cut1 (fun (i : Nat) => [(0, v), (1, Vj a), (10, Vj i), (11, Vj (b - 1))]) (fun (i : Nat) => (a + 1 ≤ i ∧ i ≤ b) ∧ Lo a i q ∧ (i < b → ole (nth q a) (nth q i))) (fun (i : Nat) => [Res.vec 28 1 v q.length (q.flatMap U1)]) ?_ (fun i g hΦ => ?_)))))))))
  ·
   refine c_block ?_
   refine c_loop1 (fun (i : Nat) => [(0, v), (1, Vj a), (10, Vj i), (11, Vj (b - 1))]) (fun (i : Nat) => (a + 1 ≤ i ∧ i ≤ b) ∧ Lo a i q) (fun (i : Nat) => [Res.vec 28 1 v q.length (q.flatMap U1)]) (fun (i : Nat) => b - i) (fun w' hw => ⟨a + 1, ⟨rfl, rfl, rfl, rfl, trivial⟩, ⟨⟨by omega, by omega⟩, fun k h1 h2 => by omega⟩, hw⟩) (fun i g hΦ => ?_)
   have hi1 := hΦ.1
   have hLo := hΦ.2
   refine c_seq (c_seq (c_heldo [0] rfl (by decide) (by kernel_rfl) (fun w' hw hS => g_tk 0 rfl (v_mv) hS (g_tk 1 rfl (v_mv) hS (g_tk 2 rfl (v_leq rfl rfl) hS (g_tk 3 rfl (v_mv) hS ?_))))))
   by_cases g3_3 : ((i : Nat) : Int) ≤ ((b - 1 : Nat) : Int)
   ·
    refine g_tkg 4 rfl rfl (gT g3_3) (v_mv) hS (g_tkg 5 rfl rfl (gT g3_3) (v_mv) hS (g_tkg 6 rfl rfl (gT g3_3) (w_idxP (pV 0 rfl) 1 i rfl rfl rfl (by omega)) hS (g_tkg 7 rfl rfl (gT g3_3) (w_ldP (pV 0 rfl) 1 i 0 (fun _ => rfl) rfl rfl (by omega) rfl) hS (g_tkg 8 rfl rfl (gT g3_3) (v_mv) hS (g_tkg 9 rfl rfl (gT g3_3) (v_mv) hS (g_tkg 10 rfl rfl (gT g3_3) (w_idxP (pV 0 rfl) 1 a rfl rfl rfl (by omega)) hS (g_tkg 11 rfl rfl (gT g3_3) (w_ldP (pV 0 rfl) 1 a 0 (fun _ => rfl) rfl rfl (by omega) rfl) hS (g_one 12 rfl hw (l_on rfl (gT g3_3) (a_call rfl rfl (fun w' hw => (less_u (nth q i) (nth q a) w').mono ?_)))))))))))
    rintro _ w1 ⟨rfl, hO⟩
    refine (?_ : CL _ _ _ _ _ _ (Own w S [Res.vec 28 1 v q.length (q.flatMap U1)])) w1 (hw.frame0 hO)
    refine l_nilH [0] rfl (by decide) (fun w' hw hS => g_tk 13 rfl (v_pickT (gT g3_3)) hS (g_done ?_))
    refine (?_ : C _ _ _ _ _ _ _ (Own w S [Res.vec 28 1 v q.length (q.flatMap U1)])) _ hw
    refine c_dec rfl (fun c1 => ?_) (fun c1 => ?_)
    ·
     refine c_skipC (c_block (c_last (l_mv rfl (l_add rfl rfl (wi64 (by omega)) rfl (l_as rfl ?_)))))
     exact l_nil (fun w' hw => ⟨i + 1, ⟨rfl, rfl, rfl, rfl, trivial⟩, ⟨⟨by omega, by omega⟩, hLo.step c1⟩, hw, (by omega)⟩)
    ·
     exact c_exit rfl (fun w' hw => ⟨i, ⟨rfl, rfl, rfl, rfl, trivial⟩, ⟨hi1, hLo, fun _ => c1⟩, hw⟩)
   ·
    refine g_ofg 4 rfl rfl (gF g3_3) rfl hS (g_ofg 5 rfl rfl (gF g3_3) rfl hS (g_ofg 6 rfl rfl (gF g3_3) rfl hS (g_ofg 7 rfl rfl (gF g3_3) rfl hS (g_ofg 8 rfl rfl (gF g3_3) rfl hS (g_ofg 9 rfl rfl (gF g3_3) rfl hS (g_ofg 10 rfl rfl (gF g3_3) rfl hS (g_ofg 11 rfl rfl (gF g3_3) rfl hS (g_ofg 12 rfl rfl (gF g3_3) rfl hS (g_tk 13 rfl (v_pickF (gF g3_3)) hS (g_done ?_))))))))))
    refine (?_ : C _ _ _ _ _ _ _ (Own w S [Res.vec 28 1 v q.length (q.flatMap U1)])) _ hw
    refine c_no rfl ?_
    exact c_exit rfl (fun w' hw => ⟨i, ⟨rfl, rfl, rfl, rfl, trivial⟩, ⟨hi1, hLo, fun h => absurd h (by omega)⟩, hw⟩)
  have hi2 := hΦ.1
  have hLo2 := hΦ.2.1
  have hge := hΦ.2.2
  refine c_cut1 (fun (j : Nat) => [(0, v), (1, Vj a), (10, Vj i), (11, Vj j)]) (fun (j : Nat) => (i ≤ j + 1 ∧ j < b) ∧ Hi a j b q ∧ (i ≤ j → olt (nth q j) (nth q a))) (fun (j : Nat) => [Res.vec 28 1 v q.length (q.flatMap U1)]) ?_ (fun j g hΦ => ?_)
  ·
   refine c_block ?_
   refine c_loop1 (fun (j : Nat) => [(0, v), (1, Vj a), (10, Vj i), (11, Vj j)]) (fun (j : Nat) => (i ≤ j + 1 ∧ j < b) ∧ Hi a j b q) (fun (j : Nat) => [Res.vec 28 1 v q.length (q.flatMap U1)]) (fun (j : Nat) => j) (fun w' hw => ⟨b - 1, ⟨rfl, rfl, rfl, rfl, trivial⟩, ⟨⟨by omega, by omega⟩, fun k h1 h2 => by omega⟩, hw⟩) (fun j g hΦ => ?_)
   have hj1 := hΦ.1
   have hHi := hΦ.2
   refine c_seq (c_seq (c_heldo [0] rfl (by decide) (by kernel_rfl) (fun w' hw hS => g_tk 0 rfl (v_mv) hS (g_tk 1 rfl (v_mv) hS (g_tk 2 rfl (v_leq rfl rfl) hS (g_tk 3 rfl (v_mv) hS ?_))))))
   by_cases g5_3 : ((i : Nat) : Int) ≤ ((j : Nat) : Int)
   ·
    refine g_tkg 4 rfl rfl (gT g5_3) (v_mv) hS (g_tkg 5 rfl rfl (gT g5_3) (v_mv) hS (g_tkg 6 rfl rfl (gT g5_3) (w_idxP (pV 0 rfl) 1 j rfl rfl rfl (by omega)) hS (g_tkg 7 rfl rfl (gT g5_3) (w_ldP (pV 0 rfl) 1 j 0 (fun _ => rfl) rfl rfl (by omega) rfl) hS (g_tkg 8 rfl rfl (gT g5_3) (v_mv) hS (g_tkg 9 rfl rfl (gT g5_3) (v_mv) hS (g_tkg 10 rfl rfl (gT g5_3) (w_idxP (pV 0 rfl) 1 a rfl rfl rfl (by omega)) hS (g_tkg 11 rfl rfl (gT g5_3) (w_ldP (pV 0 rfl) 1 a 0 (fun _ => rfl) rfl rfl (by omega) rfl) hS (g_one 12 rfl hw (l_on rfl (gT g5_3) (a_call rfl rfl (fun w' hw => (less_u (nth q j) (nth q a) w').mono ?_)))))))))))
    rintro _ w1 ⟨rfl, hO⟩
    refine (?_ : CL _ _ _ _ _ _ (Own w S [Res.vec 28 1 v q.length (q.flatMap U1)])) w1 (hw.frame0 hO)
    refine l_nilH [0] rfl (by decide) (fun w' hw hS => g_tkg 13 rfl rfl (gT g5_3) (v_notp (q := olt (nth q j) (nth q a)) rfl) hS (g_tk 14 rfl (v_pickT (gT g5_3)) hS (g_done ?_)))
    refine (?_ : C _ _ _ _ _ _ _ (Own w S [Res.vec 28 1 v q.length (q.flatMap U1)])) _ hw
    refine c_dec rfl (fun c3 => ?_) (fun c3 => ?_)
    ·
     refine c_skipC (c_block (c_last (l_mv rfl (l_sub (c := ((j - 1 : Nat) : Int)) rfl rfl (wsi1 (by omega) (by omega)) rfl (l_as rfl ?_)))))
     exact l_nil (fun w' hw => ⟨j - 1, ⟨rfl, rfl, rfl, rfl, trivial⟩, ⟨⟨by omega, by omega⟩, hHi.step c3⟩, hw, (by omega)⟩)
    ·
     exact c_exit rfl (fun w' hw => ⟨j, ⟨rfl, rfl, rfl, rfl, trivial⟩, ⟨hj1, hHi, fun _ => Decidable.not_not.1 c3⟩, hw⟩)
   ·
    refine g_ofg 4 rfl rfl (gF g5_3) rfl hS (g_ofg 5 rfl rfl (gF g5_3) rfl hS (g_ofg 6 rfl rfl (gF g5_3) rfl hS (g_ofg 7 rfl rfl (gF g5_3) rfl hS (g_ofg 8 rfl rfl (gF g5_3) rfl hS (g_ofg 9 rfl rfl (gF g5_3) rfl hS (g_ofg 10 rfl rfl (gF g5_3) rfl hS (g_ofg 11 rfl rfl (gF g5_3) rfl hS (g_ofg 12 rfl rfl (gF g5_3) rfl hS (g_ofg 13 rfl rfl (gF g5_3) rfl hS (g_tk 14 rfl (v_pickF (gF g5_3)) hS (g_done ?_)))))))))))
    refine (?_ : C _ _ _ _ _ _ _ (Own w S [Res.vec 28 1 v q.length (q.flatMap U1)])) _ hw
    refine c_no rfl ?_
    exact c_exit rfl (fun w' hw => ⟨j, ⟨rfl, rfl, rfl, rfl, trivial⟩, ⟨hj1, hHi, fun h => absurd h (by omega)⟩, hw⟩)
  have hj2 := hΦ.1
  have hHi2 := hΦ.2.1
  have hlt := hΦ.2.2
  refine c_seq (c_reg (l_mv rfl (l_mv rfl (l_gtr rfl rfl rfl (l_end (c_dec rfl (fun c5 => ?_) (fun c5 => ?_)))))))
  ·
   refine c_cut1 (fun (n : List Nat) => [(11, Vj j)]) (fun (n : List Nat) => n = swp q j a) (fun (n : List Nat) => [Res.vec 28 1 v n.length (n.flatMap U1)]) ?_ (fun n g hΦ => ?_)
   ·
    refine c_heldo [] rfl (by decide) (by kernel_rfl) (fun w' hw hS => g_tk 0 rfl (v_mv) hS (g_tk 1 rfl (v_mv) hS (g_tk 2 rfl (v_mv) hS (g_tk 3 rfl (v_mv) hS (g_tk 4 rfl (v_mv) hS (g_tk 5 rfl (v_mv) hS (g_tk 8 rfl (v_mv) hS (g_tk 9 rfl (v_mv) hS (g_pick2 6 10 ?_ ?_)))))))))
    ·
     refine pk_of 6 rfl hw (a_idxP (pV 0 rfl) 1 a rfl rfl rfl (by omega) rfl (l_nilH [] rfl (by decide) (fun w' hw hS => g_pick2 7 10 ?_ ?_)))
     ·
      refine pk_of 7 rfl hw (a_ldP (pV 0 rfl) 1 a 0 (fun _ => rfl) rfl rfl (by omega) rfl rfl (l_nx 10 rfl (a_idxP (pV 0 rfl) 1 j rfl rfl rfl (by omega) rfl (l_nx 11 rfl (a_ldP (pV 0 rfl) 1 j 0 (fun _ => rfl) rfl rfl (by omega) rfl rfl (l_nx 12 rfl (a_idxP (pV 0 rfl) 1 j rfl rfl rfl (by omega) rfl (l_nx 13 rfl ?_))))))))
      refine a_stE 0 j (nth q a) rfl (fun _ => rfl) rfl (by omega) rfl rfl rfl (by omega) (l_nx 14 rfl (a_idxP (pV 0 rfl) 1 a rfl rfl rfl (by simp only [List.length_set]; omega) rfl (l_nx 15 rfl (a_stE 0 a (nth q j) rfl (fun _ => rfl) rfl (by omega) rfl rfl rfl (by simp only [List.length_set]; omega) (l_nilH [] rfl (by decide) (fun w' hw hS => g_done ?_))))))
      exact ⟨swp q j a, ⟨rfl, trivial⟩, rfl, hw⟩
     ·
      refine pk_of 10 rfl hw (a_idxP (pV 0 rfl) 1 j rfl rfl rfl (by omega) rfl (l_nilH [] rfl (by decide) (fun w' hw hS => g_pick2 7 11 ?_ ?_)))
      ·
       refine pk_of 7 rfl hw (a_ldP (pV 0 rfl) 1 a 0 (fun _ => rfl) rfl rfl (by omega) rfl rfl (l_nx 11 rfl (a_ldP (pV 0 rfl) 1 j 0 (fun _ => rfl) rfl rfl (by omega) rfl rfl (l_nx 12 rfl (a_idxP (pV 0 rfl) 1 j rfl rfl rfl (by omega) rfl (l_nx 13 rfl (a_stE 0 j (nth q a) rfl (fun _ => rfl) rfl (by omega) rfl rfl rfl (by omega) (l_nx 14 rfl ?_))))))))
       refine a_idxP (pV 0 rfl) 1 a rfl rfl rfl (by simp only [List.length_set]; omega) rfl (l_nx 15 rfl (a_stE 0 a (nth q j) rfl (fun _ => rfl) rfl (by omega) rfl rfl rfl (by simp only [List.length_set]; omega) (l_nilH [] rfl (by decide) (fun w' hw hS => g_done ?_))))
       exact ⟨swp q j a, ⟨rfl, trivial⟩, rfl, hw⟩
      ·
       refine pk_of 11 rfl hw (a_ldP (pV 0 rfl) 1 j 0 (fun _ => rfl) rfl rfl (by omega) rfl rfl (l_nx 7 rfl (a_ldP (pV 0 rfl) 1 a 0 (fun _ => rfl) rfl rfl (by omega) rfl rfl (l_nx 12 rfl (a_idxP (pV 0 rfl) 1 j rfl rfl rfl (by omega) rfl (l_nx 13 rfl (a_stE 0 j (nth q a) rfl (fun _ => rfl) rfl (by omega) rfl rfl rfl (by omega) (l_nx 14 rfl ?_))))))))
       refine a_idxP (pV 0 rfl) 1 a rfl rfl rfl (by simp only [List.length_set]; omega) rfl (l_nx 15 rfl (a_stE 0 a (nth q j) rfl (fun _ => rfl) rfl (by omega) rfl rfl rfl (by simp only [List.length_set]; omega) (l_nilH [] rfl (by decide) (fun w' hw hS => g_done ?_))))
       exact ⟨swp q j a, ⟨rfl, trivial⟩, rfl, hw⟩
    ·
     refine pk_of 10 rfl hw (a_idxP (pV 0 rfl) 1 j rfl rfl rfl (by omega) rfl (l_nilH [] rfl (by decide) (fun w' hw hS => g_pick2 6 11 ?_ ?_)))
     ·
      refine pk_of 6 rfl hw (a_idxP (pV 0 rfl) 1 a rfl rfl rfl (by omega) rfl (l_nilH [] rfl (by decide) (fun w' hw hS => g_pick2 7 11 ?_ ?_)))
      ·
       refine pk_of 7 rfl hw (a_ldP (pV 0 rfl) 1 a 0 (fun _ => rfl) rfl rfl (by omega) rfl rfl (l_nx 11 rfl (a_ldP (pV 0 rfl) 1 j 0 (fun _ => rfl) rfl rfl (by omega) rfl rfl (l_nx 12 rfl (a_idxP (pV 0 rfl) 1 j rfl rfl rfl (by omega) rfl (l_nx 13 rfl (a_stE 0 j (nth q a) rfl (fun _ => rfl) rfl (by omega) rfl rfl rfl (by omega) (l_nx 14 rfl ?_))))))))
       refine a_idxP (pV 0 rfl) 1 a rfl rfl rfl (by simp only [List.length_set]; omega) rfl (l_nx 15 rfl (a_stE 0 a (nth q j) rfl (fun _ => rfl) rfl (by omega) rfl rfl rfl (by simp only [List.length_set]; omega) (l_nilH [] rfl (by decide) (fun w' hw hS => g_done ?_))))
       exact ⟨swp q j a, ⟨rfl, trivial⟩, rfl, hw⟩
      ·
       refine pk_of 11 rfl hw (a_ldP (pV 0 rfl) 1 j 0 (fun _ => rfl) rfl rfl (by omega) rfl rfl (l_nx 7 rfl (a_ldP (pV 0 rfl) 1 a 0 (fun _ => rfl) rfl rfl (by omega) rfl rfl (l_nx 12 rfl (a_idxP (pV 0 rfl) 1 j rfl rfl rfl (by omega) rfl (l_nx 13 rfl (a_stE 0 j (nth q a) rfl (fun _ => rfl) rfl (by omega) rfl rfl rfl (by omega) (l_nx 14 rfl ?_))))))))
       refine a_idxP (pV 0 rfl) 1 a rfl rfl rfl (by simp only [List.length_set]; omega) rfl (l_nx 15 rfl (a_stE 0 a (nth q j) rfl (fun _ => rfl) rfl (by omega) rfl rfl rfl (by simp only [List.length_set]; omega) (l_nilH [] rfl (by decide) (fun w' hw hS => g_done ?_))))
       exact ⟨swp q j a, ⟨rfl, trivial⟩, rfl, hw⟩
     ·
      refine pk_of 11 rfl hw (a_ldP (pV 0 rfl) 1 j 0 (fun _ => rfl) rfl rfl (by omega) rfl rfl (l_nx 6 rfl (a_idxP (pV 0 rfl) 1 a rfl rfl rfl (by omega) rfl (l_nx 7 rfl (a_ldP (pV 0 rfl) 1 a 0 (fun _ => rfl) rfl rfl (by omega) rfl rfl (l_nx 12 rfl (a_idxP (pV 0 rfl) 1 j rfl rfl rfl (by omega) rfl (l_nx 13 rfl ?_))))))))
      refine a_stE 0 j (nth q a) rfl (fun _ => rfl) rfl (by omega) rfl rfl rfl (by omega) (l_nx 14 rfl (a_idxP (pV 0 rfl) 1 a rfl rfl rfl (by simp only [List.length_set]; omega) rfl (l_nx 15 rfl (a_stE 0 a (nth q j) rfl (fun _ => rfl) rfl (by omega) rfl rfl rfl (by simp only [List.length_set]; omega) (l_nilH [] rfl (by decide) (fun w' hw hS => g_done ?_))))))
      exact ⟨swp q j a, ⟨rfl, trivial⟩, rfl, hw⟩
   have hn := hΦ
   refine c_reg (l_mv rfl (l_as rfl (l_as rfl (l_end ?_))))
   exact c_ret (ret2 (v := Vj j) (v' := .bool true) rfl rfl rfl (fun w' hw => ⟨n, j, true, rfl, (by rw [hn]; exact hSq.then_swp ⟨by omega, by omega⟩ ⟨by omega, by omega⟩ hb), ⟨by omega, by omega⟩, (by rw [hn]; exact part_end (by rw [show j + 1 = i by omega]; exact hLo2) hHi2 (by omega) (by omega) (by omega)), hw⟩))
  ·
   refine c_skipC (c_cut1 (fun (n : List Nat) => [(0, v), (1, Vj a), (10, Vj i), (11, Vj j)]) (fun (n : List Nat) => n = swp q i j) (fun (n : List Nat) => [Res.vec 28 1 v n.length (n.flatMap U1)]) ?_ (fun n g hΦ => ?_))
   ·
    refine c_heldo [] rfl (by decide) (by kernel_rfl) (fun w' hw hS => g_tk 0 rfl (v_mv) hS (g_tk 1 rfl (v_mv) hS (g_tk 2 rfl (v_mv) hS (g_tk 3 rfl (v_mv) hS (g_tk 4 rfl (v_mv) hS (g_tk 5 rfl (v_mv) hS (g_tk 8 rfl (v_mv) hS (g_tk 9 rfl (v_mv) hS (g_pick2 6 10 ?_ ?_)))))))))
    ·
     refine pk_of 6 rfl hw (a_idxP (pV 0 rfl) 1 j rfl rfl rfl (by omega) rfl (l_nilH [] rfl (by decide) (fun w' hw hS => g_pick2 7 10 ?_ ?_)))
     ·
      refine pk_of 7 rfl hw (a_ldP (pV 0 rfl) 1 j 0 (fun _ => rfl) rfl rfl (by omega) rfl rfl (l_nx 10 rfl (a_idxP (pV 0 rfl) 1 i rfl rfl rfl (by omega) rfl (l_nx 11 rfl (a_ldP (pV 0 rfl) 1 i 0 (fun _ => rfl) rfl rfl (by omega) rfl rfl (l_nx 12 rfl (a_idxP (pV 0 rfl) 1 i rfl rfl rfl (by omega) rfl (l_nx 13 rfl ?_))))))))
      refine a_stE 0 i (nth q j) rfl (fun _ => rfl) rfl (by omega) rfl rfl rfl (by omega) (l_nx 14 rfl (a_idxP (pV 0 rfl) 1 j rfl rfl rfl (by simp only [List.length_set]; omega) rfl (l_nx 15 rfl (a_stE 0 j (nth q i) rfl (fun _ => rfl) rfl (by omega) rfl rfl rfl (by simp only [List.length_set]; omega) (l_nilH [] rfl (by decide) (fun w' hw hS => g_done ?_))))))
      exact ⟨swp q i j, ⟨rfl, rfl, rfl, rfl, trivial⟩, rfl, hw⟩
     ·
      refine pk_of 10 rfl hw (a_idxP (pV 0 rfl) 1 i rfl rfl rfl (by omega) rfl (l_nilH [] rfl (by decide) (fun w' hw hS => g_pick2 7 11 ?_ ?_)))
      ·
       refine pk_of 7 rfl hw (a_ldP (pV 0 rfl) 1 j 0 (fun _ => rfl) rfl rfl (by omega) rfl rfl (l_nx 11 rfl (a_ldP (pV 0 rfl) 1 i 0 (fun _ => rfl) rfl rfl (by omega) rfl rfl (l_nx 12 rfl (a_idxP (pV 0 rfl) 1 i rfl rfl rfl (by omega) rfl (l_nx 13 rfl (a_stE 0 i (nth q j) rfl (fun _ => rfl) rfl (by omega) rfl rfl rfl (by omega) (l_nx 14 rfl ?_))))))))
       refine a_idxP (pV 0 rfl) 1 j rfl rfl rfl (by simp only [List.length_set]; omega) rfl (l_nx 15 rfl (a_stE 0 j (nth q i) rfl (fun _ => rfl) rfl (by omega) rfl rfl rfl (by simp only [List.length_set]; omega) (l_nilH [] rfl (by decide) (fun w' hw hS => g_done ?_))))
       exact ⟨swp q i j, ⟨rfl, rfl, rfl, rfl, trivial⟩, rfl, hw⟩
      ·
       refine pk_of 11 rfl hw (a_ldP (pV 0 rfl) 1 i 0 (fun _ => rfl) rfl rfl (by omega) rfl rfl (l_nx 7 rfl (a_ldP (pV 0 rfl) 1 j 0 (fun _ => rfl) rfl rfl (by omega) rfl rfl (l_nx 12 rfl (a_idxP (pV 0 rfl) 1 i rfl rfl rfl (by omega) rfl (l_nx 13 rfl (a_stE 0 i (nth q j) rfl (fun _ => rfl) rfl (by omega) rfl rfl rfl (by omega) (l_nx 14 rfl ?_))))))))
       refine a_idxP (pV 0 rfl) 1 j rfl rfl rfl (by simp only [List.length_set]; omega) rfl (l_nx 15 rfl (a_stE 0 j (nth q i) rfl (fun _ => rfl) rfl (by omega) rfl rfl rfl (by simp only [List.length_set]; omega) (l_nilH [] rfl (by decide) (fun w' hw hS => g_done ?_))))
       exact ⟨swp q i j, ⟨rfl, rfl, rfl, rfl, trivial⟩, rfl, hw⟩
    ·
     refine pk_of 10 rfl hw (a_idxP (pV 0 rfl) 1 i rfl rfl rfl (by omega) rfl (l_nilH [] rfl (by decide) (fun w' hw hS => g_pick2 6 11 ?_ ?_)))
     ·
      refine pk_of 6 rfl hw (a_idxP (pV 0 rfl) 1 j rfl rfl rfl (by omega) rfl (l_nilH [] rfl (by decide) (fun w' hw hS => g_pick2 7 11 ?_ ?_)))
      ·
       refine pk_of 7 rfl hw (a_ldP (pV 0 rfl) 1 j 0 (fun _ => rfl) rfl rfl (by omega) rfl rfl (l_nx 11 rfl (a_ldP (pV 0 rfl) 1 i 0 (fun _ => rfl) rfl rfl (by omega) rfl rfl (l_nx 12 rfl (a_idxP (pV 0 rfl) 1 i rfl rfl rfl (by omega) rfl (l_nx 13 rfl (a_stE 0 i (nth q j) rfl (fun _ => rfl) rfl (by omega) rfl rfl rfl (by omega) (l_nx 14 rfl ?_))))))))
       refine a_idxP (pV 0 rfl) 1 j rfl rfl rfl (by simp only [List.length_set]; omega) rfl (l_nx 15 rfl (a_stE 0 j (nth q i) rfl (fun _ => rfl) rfl (by omega) rfl rfl rfl (by simp only [List.length_set]; omega) (l_nilH [] rfl (by decide) (fun w' hw hS => g_done ?_))))
       exact ⟨swp q i j, ⟨rfl, rfl, rfl, rfl, trivial⟩, rfl, hw⟩
      ·
       refine pk_of 11 rfl hw (a_ldP (pV 0 rfl) 1 i 0 (fun _ => rfl) rfl rfl (by omega) rfl rfl (l_nx 7 rfl (a_ldP (pV 0 rfl) 1 j 0 (fun _ => rfl) rfl rfl (by omega) rfl rfl (l_nx 12 rfl (a_idxP (pV 0 rfl) 1 i rfl rfl rfl (by omega) rfl (l_nx 13 rfl (a_stE 0 i (nth q j) rfl (fun _ => rfl) rfl (by omega) rfl rfl rfl (by omega) (l_nx 14 rfl ?_))))))))
       refine a_idxP (pV 0 rfl) 1 j rfl rfl rfl (by simp only [List.length_set]; omega) rfl (l_nx 15 rfl (a_stE 0 j (nth q i) rfl (fun _ => rfl) rfl (by omega) rfl rfl rfl (by simp only [List.length_set]; omega) (l_nilH [] rfl (by decide) (fun w' hw hS => g_done ?_))))
       exact ⟨swp q i j, ⟨rfl, rfl, rfl, rfl, trivial⟩, rfl, hw⟩
     ·
      refine pk_of 11 rfl hw (a_ldP (pV 0 rfl) 1 i 0 (fun _ => rfl) rfl rfl (by omega) rfl rfl (l_nx 6 rfl (a_idxP (pV 0 rfl) 1 j rfl rfl rfl (by omega) rfl (l_nx 7 rfl (a_ldP (pV 0 rfl) 1 j 0 (fun _ => rfl) rfl rfl (by omega) rfl rfl (l_nx 12 rfl (a_idxP (pV 0 rfl) 1 i rfl rfl rfl (by omega) rfl (l_nx 13 rfl ?_))))))))
      refine a_stE 0 i (nth q j) rfl (fun _ => rfl) rfl (by omega) rfl rfl rfl (by omega) (l_nx 14 rfl (a_idxP (pV 0 rfl) 1 j rfl rfl rfl (by simp only [List.length_set]; omega) rfl (l_nx 15 rfl (a_stE 0 j (nth q i) rfl (fun _ => rfl) rfl (by omega) rfl rfl rfl (by simp only [List.length_set]; omega) (l_nilH [] rfl (by decide) (fun w' hw hS => g_done ?_))))))
      exact ⟨swp q i j, ⟨rfl, rfl, rfl, rfl, trivial⟩, rfl, hw⟩
   have hn := hΦ
   have hij : i < j := (by have h1 := hlt (by omega); have h2 := hge (by omega); rcases Nat.lt_or_ge i j with h | h; exact h; rw [show i = j by omega] at h2; exact absurd h1 h2)
   have hsw := lohi_swap hLo2 hHi2 hij (by omega) (by omega) (by omega) (hge (by omega)) (hlt (by omega))
   refine c_reg (l_mv rfl (l_add rfl rfl (wi64 (by omega)) rfl (l_as rfl (l_end (c_reg (l_mv rfl (l_sub (c := ((j - 1 : Nat) : Int)) rfl rfl (wsi1 (by omega) (by omega)) rfl (l_as rfl (l_end (c_seq (c_block ?_)))))))))))
   refine c_loop3 (fun (i j : Nat) (q : List Nat) => [(0, v), (1, Vj a), (10, Vj i), (11, Vj j)]) (fun (i j : Nat) (q : List Nat) => ((a + 1 ≤ i ∧ i ≤ j + 1) ∧ j < b) ∧ Same a b l q ∧ Lo a i q ∧ Hi a j b q) (fun (i j : Nat) (q : List Nat) => [Res.vec 28 1 v q.length (q.flatMap U1)]) (fun (i j : Nat) (q : List Nat) => j + 1 - i) (fun w' hw => ⟨i + 1, j - 1, n, ⟨rfl, rfl, rfl, rfl, trivial⟩, ⟨⟨⟨by omega, by omega⟩, by omega⟩, (by rw [hn]; exact hSq.then_swp ⟨by omega, by omega⟩ ⟨by omega, by omega⟩ hb), (by rw [hn]; exact hsw.1), (by rw [hn]; exact hsw.2)⟩, hw⟩) (fun i j q g hΦ => ?_)
   have hij3 := hΦ.1
   have hS3 := hΦ.2.1
   have hL3 := hΦ.2.2.1
   have hH3 := hΦ.2.2.2
   have hq3 := hS3.len
   refine c_block (c_cut1 (fun (i2 : Nat) => [(0, v), (1, Vj a), (10, Vj i2), (11, Vj j)]) (fun (i2 : Nat) => (i ≤ i2 ∧ i2 ≤ j + 1) ∧ Lo a i2 q ∧ (i2 ≤ j → ole (nth q a) (nth q i2))) (fun (i2 : Nat) => [Res.vec 28 1 v q.length (q.flatMap U1)]) ?_ (fun i2 g hΦ => ?_))
   ·
    refine c_block ?_
    refine c_loop1 (fun (i2 : Nat) => [(0, v), (1, Vj a), (10, Vj i2), (11, Vj j)]) (fun (i2 : Nat) => (i ≤ i2 ∧ i2 ≤ j + 1) ∧ Lo a i2 q) (fun (i2 : Nat) => [Res.vec 28 1 v q.length (q.flatMap U1)]) (fun (i2 : Nat) => j + 1 - i2) (fun w' hw => ⟨i, ⟨rfl, rfl, rfl, rfl, trivial⟩, ⟨⟨by omega, by omega⟩, hL3⟩, hw⟩) (fun i2 g hΦ => ?_)
    have hi4 := hΦ.1
    have hL4 := hΦ.2
    refine c_seq (c_seq (c_heldo [0] rfl (by decide) (by kernel_rfl) (fun w' hw hS => g_tk 0 rfl (v_mv) hS (g_tk 1 rfl (v_mv) hS (g_tk 2 rfl (v_leq rfl rfl) hS (g_tk 3 rfl (v_mv) hS ?_))))))
    by_cases g13_3 : ((i2 : Nat) : Int) ≤ ((j : Nat) : Int)
    ·
     refine g_tkg 4 rfl rfl (gT g13_3) (v_mv) hS (g_tkg 5 rfl rfl (gT g13_3) (v_mv) hS (g_tkg 6 rfl rfl (gT g13_3) (w_idxP (pV 0 rfl) 1 i2 rfl rfl rfl (by omega)) hS (g_tkg 7 rfl rfl (gT g13_3) (w_ldP (pV 0 rfl) 1 i2 0 (fun _ => rfl) rfl rfl (by omega) rfl) hS (g_tkg 8 rfl rfl (gT g13_3) (v_mv) hS (g_tkg 9 rfl rfl (gT g13_3) (v_mv) hS (g_tkg 10 rfl rfl (gT g13_3) (w_idxP (pV 0 rfl) 1 a rfl rfl rfl (by omega)) hS (g_tkg 11 rfl rfl (gT g13_3) (w_ldP (pV 0 rfl) 1 a 0 (fun _ => rfl) rfl rfl (by omega) rfl) hS (g_one 12 rfl hw (l_on rfl (gT g13_3) (a_call rfl rfl (fun w' hw => (less_u (nth q i2) (nth q a) w').mono ?_)))))))))))
     rintro _ w1 ⟨rfl, hO⟩
     refine (?_ : CL _ _ _ _ _ _ (Own w S [Res.vec 28 1 v q.length (q.flatMap U1)])) w1 (hw.frame0 hO)
     refine l_nilH [0] rfl (by decide) (fun w' hw hS => g_tk 13 rfl (v_pickT (gT g13_3)) hS (g_done ?_))
     refine (?_ : C _ _ _ _ _ _ _ (Own w S [Res.vec 28 1 v q.length (q.flatMap U1)])) _ hw
     refine c_dec rfl (fun c6 => ?_) (fun c6 => ?_)
     ·
      refine c_skipC (c_block (c_last (l_mv rfl (l_add rfl rfl (wi64 (by omega)) rfl (l_as rfl ?_)))))
      exact l_nil (fun w' hw => ⟨i2 + 1, ⟨rfl, rfl, rfl, rfl, trivial⟩, ⟨⟨by omega, by omega⟩, hL4.step c6⟩, hw, (by omega)⟩)
     ·
      exact c_exit rfl (fun w' hw => ⟨i2, ⟨rfl, rfl, rfl, rfl, trivial⟩, ⟨hi4, hL4, fun _ => c6⟩, hw⟩)
    ·
     refine g_ofg 4 rfl rfl (gF g13_3) rfl hS (g_ofg 5 rfl rfl (gF g13_3) rfl hS (g_ofg 6 rfl rfl (gF g13_3) rfl hS (g_ofg 7 rfl rfl (gF g13_3) rfl hS (g_ofg 8 rfl rfl (gF g13_3) rfl hS (g_ofg 9 rfl rfl (gF g13_3) rfl hS (g_ofg 10 rfl rfl (gF g13_3) rfl hS (g_ofg 11 rfl rfl (gF g13_3) rfl hS (g_ofg 12 rfl rfl (gF g13_3) rfl hS (g_tk 13 rfl (v_pickF (gF g13_3)) hS (g_done ?_))))))))))
     refine (?_ : C _ _ _ _ _ _ _ (Own w S [Res.vec 28 1 v q.length (q.flatMap U1)])) _ hw
     refine c_no rfl ?_
     exact c_exit rfl (fun w' hw => ⟨i2, ⟨rfl, rfl, rfl, rfl, trivial⟩, ⟨hi4, hL4, fun h => absurd h (by omega)⟩, hw⟩)
   have hi5 := hΦ.1
   have hL5 := hΦ.2.1
   have hge5 := hΦ.2.2
   refine c_cut1 (fun (j2 : Nat) => [(0, v), (1, Vj a), (10, Vj i2), (11, Vj j2)]) (fun (j2 : Nat) => (i2 ≤ j2 + 1 ∧ j2 ≤ j) ∧ Hi a j2 b q ∧ (i2 ≤ j2 → olt (nth q j2) (nth q a))) (fun (j2 : Nat) => [Res.vec 28 1 v q.length (q.flatMap U1)]) ?_ (fun j2 g hΦ => ?_)
   ·
    refine c_block ?_
    refine c_loop1 (fun (j2 : Nat) => [(0, v), (1, Vj a), (10, Vj i2), (11, Vj j2)]) (fun (j2 : Nat) => (i2 ≤ j2 + 1 ∧ j2 ≤ j) ∧ Hi a j2 b q) (fun (j2 : Nat) => [Res.vec 28 1 v q.length (q.flatMap U1)]) (fun (j2 : Nat) => j2) (fun w' hw => ⟨j, ⟨rfl, rfl, rfl, rfl, trivial⟩, ⟨⟨by omega, by omega⟩, hH3⟩, hw⟩) (fun j2 g hΦ => ?_)
    have hj6 := hΦ.1
    have hH6 := hΦ.2
    refine c_seq (c_seq (c_heldo [0] rfl (by decide) (by kernel_rfl) (fun w' hw hS => g_tk 0 rfl (v_mv) hS (g_tk 1 rfl (v_mv) hS (g_tk 2 rfl (v_leq rfl rfl) hS (g_tk 3 rfl (v_mv) hS ?_))))))
    by_cases g15_3 : ((i2 : Nat) : Int) ≤ ((j2 : Nat) : Int)
    ·
     refine g_tkg 4 rfl rfl (gT g15_3) (v_mv) hS (g_tkg 5 rfl rfl (gT g15_3) (v_mv) hS (g_tkg 6 rfl rfl (gT g15_3) (w_idxP (pV 0 rfl) 1 j2 rfl rfl rfl (by omega)) hS (g_tkg 7 rfl rfl (gT g15_3) (w_ldP (pV 0 rfl) 1 j2 0 (fun _ => rfl) rfl rfl (by omega) rfl) hS (g_tkg 8 rfl rfl (gT g15_3) (v_mv) hS (g_tkg 9 rfl rfl (gT g15_3) (v_mv) hS (g_tkg 10 rfl rfl (gT g15_3) (w_idxP (pV 0 rfl) 1 a rfl rfl rfl (by omega)) hS (g_tkg 11 rfl rfl (gT g15_3) (w_ldP (pV 0 rfl) 1 a 0 (fun _ => rfl) rfl rfl (by omega) rfl) hS (g_one 12 rfl hw (l_on rfl (gT g15_3) (a_call rfl rfl (fun w' hw => (less_u (nth q j2) (nth q a) w').mono ?_)))))))))))
     rintro _ w1 ⟨rfl, hO⟩
     refine (?_ : CL _ _ _ _ _ _ (Own w S [Res.vec 28 1 v q.length (q.flatMap U1)])) w1 (hw.frame0 hO)
     refine l_nilH [0] rfl (by decide) (fun w' hw hS => g_tkg 13 rfl rfl (gT g15_3) (v_notp (q := olt (nth q j2) (nth q a)) rfl) hS (g_tk 14 rfl (v_pickT (gT g15_3)) hS (g_done ?_)))
     refine (?_ : C _ _ _ _ _ _ _ (Own w S [Res.vec 28 1 v q.length (q.flatMap U1)])) _ hw
     refine c_dec rfl (fun c8 => ?_) (fun c8 => ?_)
     ·
      refine c_skipC (c_block (c_last (l_mv rfl (l_sub (c := ((j2 - 1 : Nat) : Int)) rfl rfl (wsi1 (by omega) (by omega)) rfl (l_as rfl ?_)))))
      exact l_nil (fun w' hw => ⟨j2 - 1, ⟨rfl, rfl, rfl, rfl, trivial⟩, ⟨⟨by omega, by omega⟩, hH6.step c8⟩, hw, (by omega)⟩)
     ·
      exact c_exit rfl (fun w' hw => ⟨j2, ⟨rfl, rfl, rfl, rfl, trivial⟩, ⟨hj6, hH6, fun _ => Decidable.not_not.1 c8⟩, hw⟩)
    ·
     refine g_ofg 4 rfl rfl (gF g15_3) rfl hS (g_ofg 5 rfl rfl (gF g15_3) rfl hS (g_ofg 6 rfl rfl (gF g15_3) rfl hS (g_ofg 7 rfl rfl (gF g15_3) rfl hS (g_ofg 8 rfl rfl (gF g15_3) rfl hS (g_ofg 9 rfl rfl (gF g15_3) rfl hS (g_ofg 10 rfl rfl (gF g15_3) rfl hS (g_ofg 11 rfl rfl (gF g15_3) rfl hS (g_ofg 12 rfl rfl (gF g15_3) rfl hS (g_ofg 13 rfl rfl (gF g15_3) rfl hS (g_tk 14 rfl (v_pickF (gF g15_3)) hS (g_done ?_)))))))))))
     refine (?_ : C _ _ _ _ _ _ _ (Own w S [Res.vec 28 1 v q.length (q.flatMap U1)])) _ hw
     refine c_no rfl ?_
     exact c_exit rfl (fun w' hw => ⟨j2, ⟨rfl, rfl, rfl, rfl, trivial⟩, ⟨hj6, hH6, fun h => absurd h (by omega)⟩, hw⟩)
   have hj7 := hΦ.1
   have hH7 := hΦ.2.1
   have hlt7 := hΦ.2.2
   refine c_seq (c_reg (l_mv rfl (l_mv rfl (l_gtr rfl rfl rfl (l_end (c_dec rfl (fun c10 => ?_) (fun c10 => ?_)))))))
   ·
    refine c_exitC rfl (c_cut1 (fun (n : List Nat) => [(11, Vj j2)]) (fun (n : List Nat) => n = swp q j2 a) (fun (n : List Nat) => [Res.vec 28 1 v n.length (n.flatMap U1)]) ?_ (fun n g hΦ => ?_))
    ·
     refine c_heldo [] rfl (by decide) (by kernel_rfl) (fun w' hw hS => g_tk 0 rfl (v_mv) hS (g_tk 1 rfl (v_mv) hS (g_tk 2 rfl (v_mv) hS (g_tk 3 rfl (v_mv) hS (g_tk 4 rfl (v_mv) hS (g_tk 5 rfl (v_mv) hS (g_tk 8 rfl (v_mv) hS (g_tk 9 rfl (v_mv) hS (g_pick2 6 10 ?_ ?_)))))))))
     ·
      refine pk_of 6 rfl hw (a_idxP (pV 0 rfl) 1 a rfl rfl rfl (by omega) rfl (l_nilH [] rfl (by decide) (fun w' hw hS => g_pick2 7 10 ?_ ?_)))
      ·
       refine pk_of 7 rfl hw (a_ldP (pV 0 rfl) 1 a 0 (fun _ => rfl) rfl rfl (by omega) rfl rfl (l_nx 10 rfl (a_idxP (pV 0 rfl) 1 j2 rfl rfl rfl (by omega) rfl (l_nx 11 rfl (a_ldP (pV 0 rfl) 1 j2 0 (fun _ => rfl) rfl rfl (by omega) rfl rfl (l_nx 12 rfl (a_idxP (pV 0 rfl) 1 j2 rfl rfl rfl (by omega) rfl (l_nx 13 rfl ?_))))))))
       refine a_stE 0 j2 (nth q a) rfl (fun _ => rfl) rfl (by omega) rfl rfl rfl (by omega) (l_nx 14 rfl (a_idxP (pV 0 rfl) 1 a rfl rfl rfl (by simp only [List.length_set]; omega) rfl (l_nx 15 rfl (a_stE 0 a (nth q j2) rfl (fun _ => rfl) rfl (by omega) rfl rfl rfl (by simp only [List.length_set]; omega) (l_nilH [] rfl (by decide) (fun w' hw hS => g_done ?_))))))
       exact ⟨swp q j2 a, ⟨rfl, trivial⟩, rfl, hw⟩
      ·
       refine pk_of 10 rfl hw (a_idxP (pV 0 rfl) 1 j2 rfl rfl rfl (by omega) rfl (l_nilH [] rfl (by decide) (fun w' hw hS => g_pick2 7 11 ?_ ?_)))
       ·
        refine pk_of 7 rfl hw (a_ldP (pV 0 rfl) 1 a 0 (fun _ => rfl) rfl rfl (by omega) rfl rfl (l_nx 11 rfl (a_ldP (pV 0 rfl) 1 j2 0 (fun _ => rfl) rfl rfl (by omega) rfl rfl (l_nx 12 rfl (a_idxP (pV 0 rfl) 1 j2 rfl rfl rfl (by omega) rfl (l_nx 13 rfl (a_stE 0 j2 (nth q a) rfl (fun _ => rfl) rfl (by omega) rfl rfl rfl (by omega) (l_nx 14 rfl ?_))))))))
        refine a_idxP (pV 0 rfl) 1 a rfl rfl rfl (by simp only [List.length_set]; omega) rfl (l_nx 15 rfl (a_stE 0 a (nth q j2) rfl (fun _ => rfl) rfl (by omega) rfl rfl rfl (by simp only [List.length_set]; omega) (l_nilH [] rfl (by decide) (fun w' hw hS => g_done ?_))))
        exact ⟨swp q j2 a, ⟨rfl, trivial⟩, rfl, hw⟩
       ·
        refine pk_of 11 rfl hw (a_ldP (pV 0 rfl) 1 j2 0 (fun _ => rfl) rfl rfl (by omega) rfl rfl (l_nx 7 rfl (a_ldP (pV 0 rfl) 1 a 0 (fun _ => rfl) rfl rfl (by omega) rfl rfl (l_nx 12 rfl (a_idxP (pV 0 rfl) 1 j2 rfl rfl rfl (by omega) rfl (l_nx 13 rfl (a_stE 0 j2 (nth q a) rfl (fun _ => rfl) rfl (by omega) rfl rfl rfl (by omega) (l_nx 14 rfl ?_))))))))
        refine a_idxP (pV 0 rfl) 1 a rfl rfl rfl (by simp only [List.length_set]; omega) rfl (l_nx 15 rfl (a_stE 0 a (nth q j2) rfl (fun _ => rfl) rfl (by omega) rfl rfl rfl (by simp only [List.length_set]; omega) (l_nilH [] rfl (by decide) (fun w' hw hS => g_done ?_))))
        exact ⟨swp q j2 a, ⟨rfl, trivial⟩, rfl, hw⟩
     ·
      refine pk_of 10 rfl hw (a_idxP (pV 0 rfl) 1 j2 rfl rfl rfl (by omega) rfl (l_nilH [] rfl (by decide) (fun w' hw hS => g_pick2 6 11 ?_ ?_)))
      ·
       refine pk_of 6 rfl hw (a_idxP (pV 0 rfl) 1 a rfl rfl rfl (by omega) rfl (l_nilH [] rfl (by decide) (fun w' hw hS => g_pick2 7 11 ?_ ?_)))
       ·
        refine pk_of 7 rfl hw (a_ldP (pV 0 rfl) 1 a 0 (fun _ => rfl) rfl rfl (by omega) rfl rfl (l_nx 11 rfl (a_ldP (pV 0 rfl) 1 j2 0 (fun _ => rfl) rfl rfl (by omega) rfl rfl (l_nx 12 rfl (a_idxP (pV 0 rfl) 1 j2 rfl rfl rfl (by omega) rfl (l_nx 13 rfl (a_stE 0 j2 (nth q a) rfl (fun _ => rfl) rfl (by omega) rfl rfl rfl (by omega) (l_nx 14 rfl ?_))))))))
        refine a_idxP (pV 0 rfl) 1 a rfl rfl rfl (by simp only [List.length_set]; omega) rfl (l_nx 15 rfl (a_stE 0 a (nth q j2) rfl (fun _ => rfl) rfl (by omega) rfl rfl rfl (by simp only [List.length_set]; omega) (l_nilH [] rfl (by decide) (fun w' hw hS => g_done ?_))))
        exact ⟨swp q j2 a, ⟨rfl, trivial⟩, rfl, hw⟩
       ·
        refine pk_of 11 rfl hw (a_ldP (pV 0 rfl) 1 j2 0 (fun _ => rfl) rfl rfl (by omega) rfl rfl (l_nx 7 rfl (a_ldP (pV 0 rfl) 1 a 0 (fun _ => rfl) rfl rfl (by omega) rfl rfl (l_nx 12 rfl (a_idxP (pV 0 rfl) 1 j2 rfl rfl rfl (by omega) rfl (l_nx 13 rfl (a_stE 0 j2 (nth q a) rfl (fun _ => rfl) rfl (by omega) rfl rfl rfl (by omega) (l_nx 14 rfl ?_))))))))
        refine a_idxP (pV 0 rfl) 1 a rfl rfl rfl (by simp only [List.length_set]; omega) rfl (l_nx 15 rfl (a_stE 0 a (nth q j2) rfl (fun _ => rfl) rfl (by omega) rfl rfl rfl (by simp only [List.length_set]; omega) (l_nilH [] rfl (by decide) (fun w' hw hS => g_done ?_))))
        exact ⟨swp q j2 a, ⟨rfl, trivial⟩, rfl, hw⟩
      ·
       refine pk_of 11 rfl hw (a_ldP (pV 0 rfl) 1 j2 0 (fun _ => rfl) rfl rfl (by omega) rfl rfl (l_nx 6 rfl (a_idxP (pV 0 rfl) 1 a rfl rfl rfl (by omega) rfl (l_nx 7 rfl (a_ldP (pV 0 rfl) 1 a 0 (fun _ => rfl) rfl rfl (by omega) rfl rfl (l_nx 12 rfl (a_idxP (pV 0 rfl) 1 j2 rfl rfl rfl (by omega) rfl (l_nx 13 rfl ?_))))))))
       refine a_stE 0 j2 (nth q a) rfl (fun _ => rfl) rfl (by omega) rfl rfl rfl (by omega) (l_nx 14 rfl (a_idxP (pV 0 rfl) 1 a rfl rfl rfl (by simp only [List.length_set]; omega) rfl (l_nx 15 rfl (a_stE 0 a (nth q j2) rfl (fun _ => rfl) rfl (by omega) rfl rfl rfl (by simp only [List.length_set]; omega) (l_nilH [] rfl (by decide) (fun w' hw hS => g_done ?_))))))
       exact ⟨swp q j2 a, ⟨rfl, trivial⟩, rfl, hw⟩
    have hn := hΦ
    refine c_reg (l_mv rfl (l_as rfl (l_as rfl (l_end ?_))))
    exact c_ret (ret2 (v := Vj j2) (v' := .bool false) rfl rfl rfl (fun w' hw => ⟨n, j2, false, rfl, (by rw [hn]; exact hS3.then_swp ⟨by omega, by omega⟩ ⟨by omega, by omega⟩ hb), ⟨by omega, by omega⟩, (by rw [hn]; exact part_end (by rw [show j2 + 1 = i2 by omega]; exact hL5) hH7 (by omega) (by omega) (by omega)), hw⟩))
   ·
    refine c_skipC (c_cut1 (fun (n : List Nat) => [(0, v), (1, Vj a), (10, Vj i2), (11, Vj j2)]) (fun (n : List Nat) => n = swp q i2 j2) (fun (n : List Nat) => [Res.vec 28 1 v n.length (n.flatMap U1)]) ?_ (fun n g hΦ => ?_))
    ·
     refine c_heldo [] rfl (by decide) (by kernel_rfl) (fun w' hw hS => g_tk 0 rfl (v_mv) hS (g_tk 1 rfl (v_mv) hS (g_tk 2 rfl (v_mv) hS (g_tk 3 rfl (v_mv) hS (g_tk 4 rfl (v_mv) hS (g_tk 5 rfl (v_mv) hS (g_tk 8 rfl (v_mv) hS (g_tk 9 rfl (v_mv) hS (g_pick2 6 10 ?_ ?_)))))))))
     ·
      refine pk_of 6 rfl hw (a_idxP (pV 0 rfl) 1 j2 rfl rfl rfl (by omega) rfl (l_nilH [] rfl (by decide) (fun w' hw hS => g_pick2 7 10 ?_ ?_)))
      ·
       refine pk_of 7 rfl hw (a_ldP (pV 0 rfl) 1 j2 0 (fun _ => rfl) rfl rfl (by omega) rfl rfl (l_nx 10 rfl (a_idxP (pV 0 rfl) 1 i2 rfl rfl rfl (by omega) rfl (l_nx 11 rfl (a_ldP (pV 0 rfl) 1 i2 0 (fun _ => rfl) rfl rfl (by omega) rfl rfl (l_nx 12 rfl (a_idxP (pV 0 rfl) 1 i2 rfl rfl rfl (by omega) rfl (l_nx 13 rfl ?_))))))))
       refine a_stE 0 i2 (nth q j2) rfl (fun _ => rfl) rfl (by omega) rfl rfl rfl (by omega) (l_nx 14 rfl (a_idxP (pV 0 rfl) 1 j2 rfl rfl rfl (by simp only [List.length_set]; omega) rfl (l_nx 15 rfl (a_stE 0 j2 (nth q i2) rfl (fun _ => rfl) rfl (by omega) rfl rfl rfl (by simp only [List.length_set]; omega) (l_nilH [] rfl (by decide) (fun w' hw hS => g_done ?_))))))
       exact ⟨swp q i2 j2, ⟨rfl, rfl, rfl, rfl, trivial⟩, rfl, hw⟩
      ·
       refine pk_of 10 rfl hw (a_idxP (pV 0 rfl) 1 i2 rfl rfl rfl (by omega) rfl (l_nilH [] rfl (by decide) (fun w' hw hS => g_pick2 7 11 ?_ ?_)))
       ·
        refine pk_of 7 rfl hw (a_ldP (pV 0 rfl) 1 j2 0 (fun _ => rfl) rfl rfl (by omega) rfl rfl (l_nx 11 rfl (a_ldP (pV 0 rfl) 1 i2 0 (fun _ => rfl) rfl rfl (by omega) rfl rfl (l_nx 12 rfl (a_idxP (pV 0 rfl) 1 i2 rfl rfl rfl (by omega) rfl (l_nx 13 rfl (a_stE 0 i2 (nth q j2) rfl (fun _ => rfl) rfl (by omega) rfl rfl rfl (by omega) (l_nx 14 rfl ?_))))))))
        refine a_idxP (pV 0 rfl) 1 j2 rfl rfl rfl (by simp only [List.length_set]; omega) rfl (l_nx 15 rfl (a_stE 0 j2 (nth q i2) rfl (fun _ => rfl) rfl (by omega) rfl rfl rfl (by simp only [List.length_set]; omega) (l_nilH [] rfl (by decide) (fun w' hw hS => g_done ?_))))
        exact ⟨swp q i2 j2, ⟨rfl, rfl, rfl, rfl, trivial⟩, rfl, hw⟩
       ·
        refine pk_of 11 rfl hw (a_ldP (pV 0 rfl) 1 i2 0 (fun _ => rfl) rfl rfl (by omega) rfl rfl (l_nx 7 rfl (a_ldP (pV 0 rfl) 1 j2 0 (fun _ => rfl) rfl rfl (by omega) rfl rfl (l_nx 12 rfl (a_idxP (pV 0 rfl) 1 i2 rfl rfl rfl (by omega) rfl (l_nx 13 rfl (a_stE 0 i2 (nth q j2) rfl (fun _ => rfl) rfl (by omega) rfl rfl rfl (by omega) (l_nx 14 rfl ?_))))))))
        refine a_idxP (pV 0 rfl) 1 j2 rfl rfl rfl (by simp only [List.length_set]; omega) rfl (l_nx 15 rfl (a_stE 0 j2 (nth q i2) rfl (fun _ => rfl) rfl (by omega) rfl rfl rfl (by simp only [List.length_set]; omega) (l_nilH [] rfl (by decide) (fun w' hw hS => g_done ?_))))
        exact ⟨swp q i2 j2, ⟨rfl, rfl, rfl, rfl, trivial⟩, rfl, hw⟩
     ·
      refine pk_of 10 rfl hw (a_idxP (pV 0 rfl) 1 i2 rfl rfl rfl (by omega) rfl (l_nilH [] rfl (by decide) (fun w' hw hS => g_pick2 6 11 ?_ ?_)))
      ·
       refine pk_of 6 rfl hw (a_idxP (pV 0 rfl) 1 j2 rfl rfl rfl (by omega) rfl (l_nilH [] rfl (by decide) (fun w' hw hS => g_pick2 7 11 ?_ ?_)))
       ·
        refine pk_of 7 rfl hw (a_ldP (pV 0 rfl) 1 j2 0 (fun _ => rfl) rfl rfl (by omega) rfl rfl (l_nx 11 rfl (a_ldP (pV 0 rfl) 1 i2 0 (fun _ => rfl) rfl rfl (by omega) rfl rfl (l_nx 12 rfl (a_idxP (pV 0 rfl) 1 i2 rfl rfl rfl (by omega) rfl (l_nx 13 rfl (a_stE 0 i2 (nth q j2) rfl (fun _ => rfl) rfl (by omega) rfl rfl rfl (by omega) (l_nx 14 rfl ?_))))))))
        refine a_idxP (pV 0 rfl) 1 j2 rfl rfl rfl (by simp only [List.length_set]; omega) rfl (l_nx 15 rfl (a_stE 0 j2 (nth q i2) rfl (fun _ => rfl) rfl (by omega) rfl rfl rfl (by simp only [List.length_set]; omega) (l_nilH [] rfl (by decide) (fun w' hw hS => g_done ?_))))
        exact ⟨swp q i2 j2, ⟨rfl, rfl, rfl, rfl, trivial⟩, rfl, hw⟩
       ·
        refine pk_of 11 rfl hw (a_ldP (pV 0 rfl) 1 i2 0 (fun _ => rfl) rfl rfl (by omega) rfl rfl (l_nx 7 rfl (a_ldP (pV 0 rfl) 1 j2 0 (fun _ => rfl) rfl rfl (by omega) rfl rfl (l_nx 12 rfl (a_idxP (pV 0 rfl) 1 i2 rfl rfl rfl (by omega) rfl (l_nx 13 rfl (a_stE 0 i2 (nth q j2) rfl (fun _ => rfl) rfl (by omega) rfl rfl rfl (by omega) (l_nx 14 rfl ?_))))))))
        refine a_idxP (pV 0 rfl) 1 j2 rfl rfl rfl (by simp only [List.length_set]; omega) rfl (l_nx 15 rfl (a_stE 0 j2 (nth q i2) rfl (fun _ => rfl) rfl (by omega) rfl rfl rfl (by simp only [List.length_set]; omega) (l_nilH [] rfl (by decide) (fun w' hw hS => g_done ?_))))
        exact ⟨swp q i2 j2, ⟨rfl, rfl, rfl, rfl, trivial⟩, rfl, hw⟩
      ·
       refine pk_of 11 rfl hw (a_ldP (pV 0 rfl) 1 i2 0 (fun _ => rfl) rfl rfl (by omega) rfl rfl (l_nx 6 rfl (a_idxP (pV 0 rfl) 1 j2 rfl rfl rfl (by omega) rfl (l_nx 7 rfl (a_ldP (pV 0 rfl) 1 j2 0 (fun _ => rfl) rfl rfl (by omega) rfl rfl (l_nx 12 rfl (a_idxP (pV 0 rfl) 1 i2 rfl rfl rfl (by omega) rfl (l_nx 13 rfl ?_))))))))
       refine a_stE 0 i2 (nth q j2) rfl (fun _ => rfl) rfl (by omega) rfl rfl rfl (by omega) (l_nx 14 rfl (a_idxP (pV 0 rfl) 1 j2 rfl rfl rfl (by simp only [List.length_set]; omega) rfl (l_nx 15 rfl (a_stE 0 j2 (nth q i2) rfl (fun _ => rfl) rfl (by omega) rfl rfl rfl (by simp only [List.length_set]; omega) (l_nilH [] rfl (by decide) (fun w' hw hS => g_done ?_))))))
       exact ⟨swp q i2 j2, ⟨rfl, rfl, rfl, rfl, trivial⟩, rfl, hw⟩
    have hn := hΦ
    have hij : i2 < j2 := (by have h1 := hlt7 (by omega); have h2 := hge5 (by omega); rcases Nat.lt_or_ge i2 j2 with h | h; exact h; rw [show i2 = j2 by omega] at h2; first | exact absurd h1 h2 | exact absurd h2 h1)
    have hsw := lohi_swap hL5 hH7 hij (by omega) (by omega) (by omega) (hge5 (by omega)) (hlt7 (by omega))
    refine c_reg (l_mv rfl (l_add rfl rfl (wi64 (by omega)) rfl (l_as rfl (l_end (c_last (l_mv rfl (l_sub (c := ((j2 - 1 : Nat) : Int)) rfl rfl (wsi1 (by omega) (by omega)) rfl (l_as rfl ?_))))))))
    exact l_nil (fun w' hw => ⟨i2 + 1, j2 - 1, n, ⟨rfl, rfl, rfl, rfl, trivial⟩, ⟨⟨⟨by omega, by omega⟩, by omega⟩, (by rw [hn]; exact hS3.then_swp ⟨by omega, by omega⟩ ⟨by omega, by omega⟩ hb), (by rw [hn]; exact hsw.1), (by rw [hn]; exact hsw.2)⟩, hw, (by omega)⟩)
theorem partEq_u {S : List Nat} (v : Value) (l : List Nat) (a b p : Nat) (w : World) (ha : a ≤ p ∧ p < b) (hb : b ≤ l.length) (hl : LenOk l.length) (hin : Own w S [Res.vec 28 1 v l.length (l.flatMap U1)] w) : Rets Tryz.prog 148 #[v, Vj a, Vj b, Vj p] w fun u_ w' => ∃ (l' : List Nat) (m : Nat), u_ = Vj m ∧ Same a b l l' ∧ (a + 1 ≤ m ∧ m ≤ b) ∧ Eqs a m b (nth l p) l' ∧ Own w S [Res.vec 28 1 v l'.length (l'.flatMap U1)] w' := by
  refine fn_own Tryz.func148 rfl Tryz.ntmps148 hin ?_
  refine c_reg (l_as rfl (l_end (c_cut1 (fun (q : List Nat) => [(0, v), (1, Vj a), (2, Vj b)]) (fun (q : List Nat) => Same a b l q ∧ nth q a = nth l p) (fun (q : List Nat) => [Res.vec 28 1 v q.length (q.flatMap U1)]) ?_ (fun q g hΦ => ?_))))
  ·
   refine c_heldo [] rfl (by decide) (by kernel_rfl) (fun w' hw hS => g_tk 0 rfl (v_mv) hS (g_tk 1 rfl (v_mv) hS (g_tk 2 rfl (v_mv) hS (g_tk 3 rfl (v_mv) hS (g_tk 4 rfl (v_mv) hS (g_tk 5 rfl (v_mv) hS (g_tk 8 rfl (v_mv) hS (g_tk 9 rfl (v_mv) hS (g_pick2 6 10 ?_ ?_)))))))))
   ·
    refine pk_of 6 rfl hw (a_idxP (pV 0 rfl) 1 p rfl rfl rfl (by omega) rfl (l_nilH [] rfl (by decide) (fun w' hw hS => g_pick2 7 10 ?_ ?_)))
    ·
     refine pk_of 7 rfl hw (a_ldP (pV 0 rfl) 1 p 0 (fun _ => rfl) rfl rfl (by omega) rfl rfl (l_nx 10 rfl (a_idxP (pV 0 rfl) 1 a rfl rfl rfl (by omega) rfl (l_nx 11 rfl (a_ldP (pV 0 rfl) 1 a 0 (fun _ => rfl) rfl rfl (by omega) rfl rfl (l_nx 12 rfl (a_idxP (pV 0 rfl) 1 a rfl rfl rfl (by omega) rfl (l_nx 13 rfl ?_))))))))
     refine a_stE 0 a (nth l p) rfl (fun _ => rfl) rfl (by omega) rfl rfl rfl (by omega) (l_nx 14 rfl (a_idxP (pV 0 rfl) 1 p rfl rfl rfl (by simp only [List.length_set]; omega) rfl (l_nx 15 rfl (a_stE 0 p (nth l a) rfl (fun _ => rfl) rfl (by omega) rfl rfl rfl (by simp only [List.length_set]; omega) (l_nilH [] rfl (by decide) (fun w' hw hS => g_done ?_))))))
     exact ⟨swp l a p, ⟨rfl, rfl, rfl, trivial⟩, ⟨Same.ex ⟨by omega, by omega⟩ ⟨by omega, by omega⟩ hb, nth_swp_l (by omega) (by omega)⟩, hw⟩
    ·
     refine pk_of 10 rfl hw (a_idxP (pV 0 rfl) 1 a rfl rfl rfl (by omega) rfl (l_nilH [] rfl (by decide) (fun w' hw hS => g_pick2 7 11 ?_ ?_)))
     ·
      refine pk_of 7 rfl hw (a_ldP (pV 0 rfl) 1 p 0 (fun _ => rfl) rfl rfl (by omega) rfl rfl (l_nx 11 rfl (a_ldP (pV 0 rfl) 1 a 0 (fun _ => rfl) rfl rfl (by omega) rfl rfl (l_nx 12 rfl (a_idxP (pV 0 rfl) 1 a rfl rfl rfl (by omega) rfl (l_nx 13 rfl (a_stE 0 a (nth l p) rfl (fun _ => rfl) rfl (by omega) rfl rfl rfl (by omega) (l_nx 14 rfl ?_))))))))
      refine a_idxP (pV 0 rfl) 1 p rfl rfl rfl (by simp only [List.length_set]; omega) rfl (l_nx 15 rfl (a_stE 0 p (nth l a) rfl (fun _ => rfl) rfl (by omega) rfl rfl rfl (by simp only [List.length_set]; omega) (l_nilH [] rfl (by decide) (fun w' hw hS => g_done ?_))))
      exact ⟨swp l a p, ⟨rfl, rfl, rfl, trivial⟩, ⟨Same.ex ⟨by omega, by omega⟩ ⟨by omega, by omega⟩ hb, nth_swp_l (by omega) (by omega)⟩, hw⟩
     ·
      refine pk_of 11 rfl hw (a_ldP (pV 0 rfl) 1 a 0 (fun _ => rfl) rfl rfl (by omega) rfl rfl (l_nx 7 rfl (a_ldP (pV 0 rfl) 1 p 0 (fun _ => rfl) rfl rfl (by omega) rfl rfl (l_nx 12 rfl (a_idxP (pV 0 rfl) 1 a rfl rfl rfl (by omega) rfl (l_nx 13 rfl (a_stE 0 a (nth l p) rfl (fun _ => rfl) rfl (by omega) rfl rfl rfl (by omega) (l_nx 14 rfl ?_))))))))
      refine a_idxP (pV 0 rfl) 1 p rfl rfl rfl (by simp only [List.length_set]; omega) rfl (l_nx 15 rfl (a_stE 0 p (nth l a) rfl (fun _ => rfl) rfl (by omega) rfl rfl rfl (by simp only [List.length_set]; omega) (l_nilH [] rfl (by decide) (fun w' hw hS => g_done ?_))))
      exact ⟨swp l a p, ⟨rfl, rfl, rfl, trivial⟩, ⟨Same.ex ⟨by omega, by omega⟩ ⟨by omega, by omega⟩ hb, nth_swp_l (by omega) (by omega)⟩, hw⟩
   ·
    refine pk_of 10 rfl hw (a_idxP (pV 0 rfl) 1 a rfl rfl rfl (by omega) rfl (l_nilH [] rfl (by decide) (fun w' hw hS => g_pick2 6 11 ?_ ?_)))
    ·
     refine pk_of 6 rfl hw (a_idxP (pV 0 rfl) 1 p rfl rfl rfl (by omega) rfl (l_nilH [] rfl (by decide) (fun w' hw hS => g_pick2 7 11 ?_ ?_)))
     ·
      refine pk_of 7 rfl hw (a_ldP (pV 0 rfl) 1 p 0 (fun _ => rfl) rfl rfl (by omega) rfl rfl (l_nx 11 rfl (a_ldP (pV 0 rfl) 1 a 0 (fun _ => rfl) rfl rfl (by omega) rfl rfl (l_nx 12 rfl (a_idxP (pV 0 rfl) 1 a rfl rfl rfl (by omega) rfl (l_nx 13 rfl (a_stE 0 a (nth l p) rfl (fun _ => rfl) rfl (by omega) rfl rfl rfl (by omega) (l_nx 14 rfl ?_))))))))
      refine a_idxP (pV 0 rfl) 1 p rfl rfl rfl (by simp only [List.length_set]; omega) rfl (l_nx 15 rfl (a_stE 0 p (nth l a) rfl (fun _ => rfl) rfl (by omega) rfl rfl rfl (by simp only [List.length_set]; omega) (l_nilH [] rfl (by decide) (fun w' hw hS => g_done ?_))))
      exact ⟨swp l a p, ⟨rfl, rfl, rfl, trivial⟩, ⟨Same.ex ⟨by omega, by omega⟩ ⟨by omega, by omega⟩ hb, nth_swp_l (by omega) (by omega)⟩, hw⟩
     ·
      refine pk_of 11 rfl hw (a_ldP (pV 0 rfl) 1 a 0 (fun _ => rfl) rfl rfl (by omega) rfl rfl (l_nx 7 rfl (a_ldP (pV 0 rfl) 1 p 0 (fun _ => rfl) rfl rfl (by omega) rfl rfl (l_nx 12 rfl (a_idxP (pV 0 rfl) 1 a rfl rfl rfl (by omega) rfl (l_nx 13 rfl (a_stE 0 a (nth l p) rfl (fun _ => rfl) rfl (by omega) rfl rfl rfl (by omega) (l_nx 14 rfl ?_))))))))
      refine a_idxP (pV 0 rfl) 1 p rfl rfl rfl (by simp only [List.length_set]; omega) rfl (l_nx 15 rfl (a_stE 0 p (nth l a) rfl (fun _ => rfl) rfl (by omega) rfl rfl rfl (by simp only [List.length_set]; omega) (l_nilH [] rfl (by decide) (fun w' hw hS => g_done ?_))))
      exact ⟨swp l a p, ⟨rfl, rfl, rfl, trivial⟩, ⟨Same.ex ⟨by omega, by omega⟩ ⟨by omega, by omega⟩ hb, nth_swp_l (by omega) (by omega)⟩, hw⟩
    ·
     refine pk_of 11 rfl hw (a_ldP (pV 0 rfl) 1 a 0 (fun _ => rfl) rfl rfl (by omega) rfl rfl (l_nx 6 rfl (a_idxP (pV 0 rfl) 1 p rfl rfl rfl (by omega) rfl (l_nx 7 rfl (a_ldP (pV 0 rfl) 1 p 0 (fun _ => rfl) rfl rfl (by omega) rfl rfl (l_nx 12 rfl (a_idxP (pV 0 rfl) 1 a rfl rfl rfl (by omega) rfl (l_nx 13 rfl ?_))))))))
     refine a_stE 0 a (nth l p) rfl (fun _ => rfl) rfl (by omega) rfl rfl rfl (by omega) (l_nx 14 rfl (a_idxP (pV 0 rfl) 1 p rfl rfl rfl (by simp only [List.length_set]; omega) rfl (l_nx 15 rfl (a_stE 0 p (nth l a) rfl (fun _ => rfl) rfl (by omega) rfl rfl rfl (by simp only [List.length_set]; omega) (l_nilH [] rfl (by decide) (fun w' hw hS => g_done ?_))))))
     exact ⟨swp l a p, ⟨rfl, rfl, rfl, trivial⟩, ⟨Same.ex ⟨by omega, by omega⟩ ⟨by omega, by omega⟩ hb, nth_swp_l (by omega) (by omega)⟩, hw⟩
  have hql := hΦ.1.len
  have hSq := hΦ.1
  have hpv := hΦ.2
  refine c_reg (l_mv rfl (l_add rfl rfl (wi64 (by omega)) rfl (l_mv rfl (l_sub (c := ((b - 1 : Nat) : Int)) rfl rfl (wsi1 (by omega) (by omega)) rfl (l_as rfl (l_as rfl (l_end (c_seq (c_block ?_)))))))))
  refine c_loop3 (fun (i j : Nat) (q : List Nat) => [(0, v), (1, Vj a), (9, Vj i), (10, Vj j)]) (fun (i j : Nat) (q : List Nat) => ((a + 1 ≤ i ∧ i ≤ j + 1) ∧ j < b) ∧ (Same a b l q ∧ nth q a = nth l p) ∧ Le a i q ∧ Gt a j b q) (fun (i j : Nat) (q : List Nat) => [Res.vec 28 1 v q.length (q.flatMap U1)]) (fun (i j : Nat) (q : List Nat) => j + 1 - i) (fun w' hw => ⟨a + 1, b - 1, q, ⟨rfl, rfl, rfl, rfl, trivial⟩, ⟨⟨⟨by omega, by omega⟩, by omega⟩, ⟨hSq, hpv⟩, fun k h1 h2 => by omega, fun k h1 h2 => by omega⟩, hw⟩) (fun i j q g hΦ => ?_)
  have hij3 := hΦ.1
  have hS3 := hΦ.2.1.1
  have hp3 := hΦ.2.1.2
  have hL3 := hΦ.2.2.1
  have hH3 := hΦ.2.2.2
  have hq3 := hS3.len
  refine c_block (c_cut1 (fun (i2 : Nat) => [(0, v), (1, Vj a), (9, Vj i2), (10, Vj j)]) (fun (i2 : Nat) => (i ≤ i2 ∧ i2 ≤ j + 1) ∧ Le a i2 q ∧ (i2 ≤ j → olt (nth q a) (nth q i2))) (fun (i2 : Nat) => [Res.vec 28 1 v q.length (q.flatMap U1)]) ?_ (fun i2 g hΦ => ?_))
  ·
   refine c_block ?_
   refine c_loop1 (fun (i2 : Nat) => [(0, v), (1, Vj a), (9, Vj i2), (10, Vj j)]) (fun (i2 : Nat) => (i ≤ i2 ∧ i2 ≤ j + 1) ∧ Le a i2 q) (fun (i2 : Nat) => [Res.vec 28 1 v q.length (q.flatMap U1)]) (fun (i2 : Nat) => j + 1 - i2) (fun w' hw => ⟨i, ⟨rfl, rfl, rfl, rfl, trivial⟩, ⟨⟨by omega, by omega⟩, hL3⟩, hw⟩) (fun i2 g hΦ => ?_)
   have hi4 := hΦ.1
   have hL4 := hΦ.2
   refine c_seq (c_seq (c_heldo [0] rfl (by decide) (by kernel_rfl) (fun w' hw hS => g_tk 0 rfl (v_mv) hS (g_tk 1 rfl (v_mv) hS (g_tk 2 rfl (v_leq rfl rfl) hS (g_tk 3 rfl (v_mv) hS ?_))))))
   by_cases g3_3 : ((i2 : Nat) : Int) ≤ ((j : Nat) : Int)
   ·
    refine g_tkg 4 rfl rfl (gT g3_3) (v_mv) hS (g_tkg 5 rfl rfl (gT g3_3) (v_mv) hS (g_tkg 6 rfl rfl (gT g3_3) (w_idxP (pV 0 rfl) 1 a rfl rfl rfl (by omega)) hS (g_tkg 7 rfl rfl (gT g3_3) (w_ldP (pV 0 rfl) 1 a 0 (fun _ => rfl) rfl rfl (by omega) rfl) hS (g_tkg 8 rfl rfl (gT g3_3) (v_mv) hS (g_tkg 9 rfl rfl (gT g3_3) (v_mv) hS (g_tkg 10 rfl rfl (gT g3_3) (w_idxP (pV 0 rfl) 1 i2 rfl rfl rfl (by omega)) hS (g_tkg 11 rfl rfl (gT g3_3) (w_ldP (pV 0 rfl) 1 i2 0 (fun _ => rfl) rfl rfl (by omega) rfl) hS (g_one 12 rfl hw (l_on rfl (gT g3_3) (a_call rfl rfl (fun w' hw => (less_u (nth q a) (nth q i2) w').mono ?_)))))))))))
    rintro _ w1 ⟨rfl, hO⟩
    refine (?_ : CL _ _ _ _ _ _ (Own w S [Res.vec 28 1 v q.length (q.flatMap U1)])) w1 (hw.frame0 hO)
    refine l_nilH [0] rfl (by decide) (fun w' hw hS => g_tkg 13 rfl rfl (gT g3_3) (v_notp (q := olt (nth q a) (nth q i2)) rfl) hS (g_tk 14 rfl (v_pickT (gT g3_3)) hS (g_done ?_)))
    refine (?_ : C _ _ _ _ _ _ _ (Own w S [Res.vec 28 1 v q.length (q.flatMap U1)])) _ hw
    refine c_dec rfl (fun c1 => ?_) (fun c1 => ?_)
    ·
     refine c_skipC (c_block (c_last (l_mv rfl (l_add rfl rfl (wi64 (by omega)) rfl (l_as rfl ?_)))))
     exact l_nil (fun w' hw => ⟨i2 + 1, ⟨rfl, rfl, rfl, rfl, trivial⟩, ⟨⟨by omega, by omega⟩, hL4.step c1⟩, hw, (by omega)⟩)
    ·
     exact c_exit rfl (fun w' hw => ⟨i2, ⟨rfl, rfl, rfl, rfl, trivial⟩, ⟨hi4, hL4, fun _ => Decidable.not_not.1 c1⟩, hw⟩)
   ·
    refine g_ofg 4 rfl rfl (gF g3_3) rfl hS (g_ofg 5 rfl rfl (gF g3_3) rfl hS (g_ofg 6 rfl rfl (gF g3_3) rfl hS (g_ofg 7 rfl rfl (gF g3_3) rfl hS (g_ofg 8 rfl rfl (gF g3_3) rfl hS (g_ofg 9 rfl rfl (gF g3_3) rfl hS (g_ofg 10 rfl rfl (gF g3_3) rfl hS (g_ofg 11 rfl rfl (gF g3_3) rfl hS (g_ofg 12 rfl rfl (gF g3_3) rfl hS (g_ofg 13 rfl rfl (gF g3_3) rfl hS (g_tk 14 rfl (v_pickF (gF g3_3)) hS (g_done ?_)))))))))))
    refine (?_ : C _ _ _ _ _ _ _ (Own w S [Res.vec 28 1 v q.length (q.flatMap U1)])) _ hw
    refine c_no rfl ?_
    exact c_exit rfl (fun w' hw => ⟨i2, ⟨rfl, rfl, rfl, rfl, trivial⟩, ⟨hi4, hL4, fun h => absurd h (by omega)⟩, hw⟩)
  have hi5 := hΦ.1
  have hL5 := hΦ.2.1
  have hge5 := hΦ.2.2
  refine c_cut1 (fun (j2 : Nat) => [(0, v), (1, Vj a), (9, Vj i2), (10, Vj j2)]) (fun (j2 : Nat) => (i2 ≤ j2 + 1 ∧ j2 ≤ j) ∧ Gt a j2 b q ∧ (i2 ≤ j2 → ole (nth q j2) (nth q a))) (fun (j2 : Nat) => [Res.vec 28 1 v q.length (q.flatMap U1)]) ?_ (fun j2 g hΦ => ?_)
  ·
   refine c_block ?_
   refine c_loop1 (fun (j2 : Nat) => [(0, v), (1, Vj a), (9, Vj i2), (10, Vj j2)]) (fun (j2 : Nat) => (i2 ≤ j2 + 1 ∧ j2 ≤ j) ∧ Gt a j2 b q) (fun (j2 : Nat) => [Res.vec 28 1 v q.length (q.flatMap U1)]) (fun (j2 : Nat) => j2) (fun w' hw => ⟨j, ⟨rfl, rfl, rfl, rfl, trivial⟩, ⟨⟨by omega, by omega⟩, hH3⟩, hw⟩) (fun j2 g hΦ => ?_)
   have hj6 := hΦ.1
   have hH6 := hΦ.2
   refine c_seq (c_seq (c_heldo [0] rfl (by decide) (by kernel_rfl) (fun w' hw hS => g_tk 0 rfl (v_mv) hS (g_tk 1 rfl (v_mv) hS (g_tk 2 rfl (v_leq rfl rfl) hS (g_tk 3 rfl (v_mv) hS ?_))))))
   by_cases g5_3 : ((i2 : Nat) : Int) ≤ ((j2 : Nat) : Int)
   ·
    refine g_tkg 4 rfl rfl (gT g5_3) (v_mv) hS (g_tkg 5 rfl rfl (gT g5_3) (v_mv) hS (g_tkg 6 rfl rfl (gT g5_3) (w_idxP (pV 0 rfl) 1 a rfl rfl rfl (by omega)) hS (g_tkg 7 rfl rfl (gT g5_3) (w_ldP (pV 0 rfl) 1 a 0 (fun _ => rfl) rfl rfl (by omega) rfl) hS (g_tkg 8 rfl rfl (gT g5_3) (v_mv) hS (g_tkg 9 rfl rfl (gT g5_3) (v_mv) hS (g_tkg 10 rfl rfl (gT g5_3) (w_idxP (pV 0 rfl) 1 j2 rfl rfl rfl (by omega)) hS (g_tkg 11 rfl rfl (gT g5_3) (w_ldP (pV 0 rfl) 1 j2 0 (fun _ => rfl) rfl rfl (by omega) rfl) hS (g_one 12 rfl hw (l_on rfl (gT g5_3) (a_call rfl rfl (fun w' hw => (less_u (nth q a) (nth q j2) w').mono ?_)))))))))))
    rintro _ w1 ⟨rfl, hO⟩
    refine (?_ : CL _ _ _ _ _ _ (Own w S [Res.vec 28 1 v q.length (q.flatMap U1)])) w1 (hw.frame0 hO)
    refine l_nilH [0] rfl (by decide) (fun w' hw hS => g_tk 13 rfl (v_pickT (gT g5_3)) hS (g_done ?_))
    refine (?_ : C _ _ _ _ _ _ _ (Own w S [Res.vec 28 1 v q.length (q.flatMap U1)])) _ hw
    refine c_dec rfl (fun c3 => ?_) (fun c3 => ?_)
    ·
     refine c_skipC (c_block (c_last (l_mv rfl (l_sub (c := ((j2 - 1 : Nat) : Int)) rfl rfl (wsi1 (by omega) (by omega)) rfl (l_as rfl ?_)))))
     exact l_nil (fun w' hw => ⟨j2 - 1, ⟨rfl, rfl, rfl, rfl, trivial⟩, ⟨⟨by omega, by omega⟩, hH6.step c3⟩, hw, (by omega)⟩)
    ·
     exact c_exit rfl (fun w' hw => ⟨j2, ⟨rfl, rfl, rfl, rfl, trivial⟩, ⟨hj6, hH6, fun _ => c3⟩, hw⟩)
   ·
    refine g_ofg 4 rfl rfl (gF g5_3) rfl hS (g_ofg 5 rfl rfl (gF g5_3) rfl hS (g_ofg 6 rfl rfl (gF g5_3) rfl hS (g_ofg 7 rfl rfl (gF g5_3) rfl hS (g_ofg 8 rfl rfl (gF g5_3) rfl hS (g_ofg 9 rfl rfl (gF g5_3) rfl hS (g_ofg 10 rfl rfl (gF g5_3) rfl hS (g_ofg 11 rfl rfl (gF g5_3) rfl hS (g_ofg 12 rfl rfl (gF g5_3) rfl hS (g_tk 13 rfl (v_pickF (gF g5_3)) hS (g_done ?_))))))))))
    refine (?_ : C _ _ _ _ _ _ _ (Own w S [Res.vec 28 1 v q.length (q.flatMap U1)])) _ hw
    refine c_no rfl ?_
    exact c_exit rfl (fun w' hw => ⟨j2, ⟨rfl, rfl, rfl, rfl, trivial⟩, ⟨hj6, hH6, fun h => absurd h (by omega)⟩, hw⟩)
  have hj7 := hΦ.1
  have hH7 := hΦ.2.1
  have hlt7 := hΦ.2.2
  refine c_seq (c_reg (l_mv rfl (l_mv rfl (l_gtr rfl rfl rfl (l_end (c_dec rfl (fun c5 => ?_) (fun c5 => ?_)))))))
  ·
   refine c_exitC rfl (c_reg (l_mv rfl (l_as rfl (l_end ?_))))
   exact c_ret (ret1 (v := Vj i2) rfl rfl (fun w' hw => ⟨q, i2, rfl, hS3, ⟨by omega, by omega⟩, eqs_end hL5 (by rw [show i2 - 1 = j2 by omega]; exact hH7) (by omega) hp3, hw⟩))
  ·
   refine c_skipC (c_cut1 (fun (n : List Nat) => [(0, v), (1, Vj a), (9, Vj i2), (10, Vj j2)]) (fun (n : List Nat) => n = swp q i2 j2) (fun (n : List Nat) => [Res.vec 28 1 v n.length (n.flatMap U1)]) ?_ (fun n g hΦ => ?_))
   ·
    refine c_heldo [] rfl (by decide) (by kernel_rfl) (fun w' hw hS => g_tk 0 rfl (v_mv) hS (g_tk 1 rfl (v_mv) hS (g_tk 2 rfl (v_mv) hS (g_tk 3 rfl (v_mv) hS (g_tk 4 rfl (v_mv) hS (g_tk 5 rfl (v_mv) hS (g_tk 8 rfl (v_mv) hS (g_tk 9 rfl (v_mv) hS (g_pick2 6 10 ?_ ?_)))))))))
    ·
     refine pk_of 6 rfl hw (a_idxP (pV 0 rfl) 1 j2 rfl rfl rfl (by omega) rfl (l_nilH [] rfl (by decide) (fun w' hw hS => g_pick2 7 10 ?_ ?_)))
     ·
      refine pk_of 7 rfl hw (a_ldP (pV 0 rfl) 1 j2 0 (fun _ => rfl) rfl rfl (by omega) rfl rfl (l_nx 10 rfl (a_idxP (pV 0 rfl) 1 i2 rfl rfl rfl (by omega) rfl (l_nx 11 rfl (a_ldP (pV 0 rfl) 1 i2 0 (fun _ => rfl) rfl rfl (by omega) rfl rfl (l_nx 12 rfl (a_idxP (pV 0 rfl) 1 i2 rfl rfl rfl (by omega) rfl (l_nx 13 rfl ?_))))))))
      refine a_stE 0 i2 (nth q j2) rfl (fun _ => rfl) rfl (by omega) rfl rfl rfl (by omega) (l_nx 14 rfl (a_idxP (pV 0 rfl) 1 j2 rfl rfl rfl (by simp only [List.length_set]; omega) rfl (l_nx 15 rfl (a_stE 0 j2 (nth q i2) rfl (fun _ => rfl) rfl (by omega) rfl rfl rfl (by simp only [List.length_set]; omega) (l_nilH [] rfl (by decide) (fun w' hw hS => g_done ?_))))))
      exact ⟨swp q i2 j2, ⟨rfl, rfl, rfl, rfl, trivial⟩, rfl, hw⟩
     ·
      refine pk_of 10 rfl hw (a_idxP (pV 0 rfl) 1 i2 rfl rfl rfl (by omega) rfl (l_nilH [] rfl (by decide) (fun w' hw hS => g_pick2 7 11 ?_ ?_)))
      ·
       refine pk_of 7 rfl hw (a_ldP (pV 0 rfl) 1 j2 0 (fun _ => rfl) rfl rfl (by omega) rfl rfl (l_nx 11 rfl (a_ldP (pV 0 rfl) 1 i2 0 (fun _ => rfl) rfl rfl (by omega) rfl rfl (l_nx 12 rfl (a_idxP (pV 0 rfl) 1 i2 rfl rfl rfl (by omega) rfl (l_nx 13 rfl (a_stE 0 i2 (nth q j2) rfl (fun _ => rfl) rfl (by omega) rfl rfl rfl (by omega) (l_nx 14 rfl ?_))))))))
       refine a_idxP (pV 0 rfl) 1 j2 rfl rfl rfl (by simp only [List.length_set]; omega) rfl (l_nx 15 rfl (a_stE 0 j2 (nth q i2) rfl (fun _ => rfl) rfl (by omega) rfl rfl rfl (by simp only [List.length_set]; omega) (l_nilH [] rfl (by decide) (fun w' hw hS => g_done ?_))))
       exact ⟨swp q i2 j2, ⟨rfl, rfl, rfl, rfl, trivial⟩, rfl, hw⟩
      ·
       refine pk_of 11 rfl hw (a_ldP (pV 0 rfl) 1 i2 0 (fun _ => rfl) rfl rfl (by omega) rfl rfl (l_nx 7 rfl (a_ldP (pV 0 rfl) 1 j2 0 (fun _ => rfl) rfl rfl (by omega) rfl rfl (l_nx 12 rfl (a_idxP (pV 0 rfl) 1 i2 rfl rfl rfl (by omega) rfl (l_nx 13 rfl (a_stE 0 i2 (nth q j2) rfl (fun _ => rfl) rfl (by omega) rfl rfl rfl (by omega) (l_nx 14 rfl ?_))))))))
       refine a_idxP (pV 0 rfl) 1 j2 rfl rfl rfl (by simp only [List.length_set]; omega) rfl (l_nx 15 rfl (a_stE 0 j2 (nth q i2) rfl (fun _ => rfl) rfl (by omega) rfl rfl rfl (by simp only [List.length_set]; omega) (l_nilH [] rfl (by decide) (fun w' hw hS => g_done ?_))))
       exact ⟨swp q i2 j2, ⟨rfl, rfl, rfl, rfl, trivial⟩, rfl, hw⟩
    ·
     refine pk_of 10 rfl hw (a_idxP (pV 0 rfl) 1 i2 rfl rfl rfl (by omega) rfl (l_nilH [] rfl (by decide) (fun w' hw hS => g_pick2 6 11 ?_ ?_)))
     ·
      refine pk_of 6 rfl hw (a_idxP (pV 0 rfl) 1 j2 rfl rfl rfl (by omega) rfl (l_nilH [] rfl (by decide) (fun w' hw hS => g_pick2 7 11 ?_ ?_)))
      ·
       refine pk_of 7 rfl hw (a_ldP (pV 0 rfl) 1 j2 0 (fun _ => rfl) rfl rfl (by omega) rfl rfl (l_nx 11 rfl (a_ldP (pV 0 rfl) 1 i2 0 (fun _ => rfl) rfl rfl (by omega) rfl rfl (l_nx 12 rfl (a_idxP (pV 0 rfl) 1 i2 rfl rfl rfl (by omega) rfl (l_nx 13 rfl (a_stE 0 i2 (nth q j2) rfl (fun _ => rfl) rfl (by omega) rfl rfl rfl (by omega) (l_nx 14 rfl ?_))))))))
       refine a_idxP (pV 0 rfl) 1 j2 rfl rfl rfl (by simp only [List.length_set]; omega) rfl (l_nx 15 rfl (a_stE 0 j2 (nth q i2) rfl (fun _ => rfl) rfl (by omega) rfl rfl rfl (by simp only [List.length_set]; omega) (l_nilH [] rfl (by decide) (fun w' hw hS => g_done ?_))))
       exact ⟨swp q i2 j2, ⟨rfl, rfl, rfl, rfl, trivial⟩, rfl, hw⟩
      ·
       refine pk_of 11 rfl hw (a_ldP (pV 0 rfl) 1 i2 0 (fun _ => rfl) rfl rfl (by omega) rfl rfl (l_nx 7 rfl (a_ldP (pV 0 rfl) 1 j2 0 (fun _ => rfl) rfl rfl (by omega) rfl rfl (l_nx 12 rfl (a_idxP (pV 0 rfl) 1 i2 rfl rfl rfl (by omega) rfl (l_nx 13 rfl (a_stE 0 i2 (nth q j2) rfl (fun _ => rfl) rfl (by omega) rfl rfl rfl (by omega) (l_nx 14 rfl ?_))))))))
       refine a_idxP (pV 0 rfl) 1 j2 rfl rfl rfl (by simp only [List.length_set]; omega) rfl (l_nx 15 rfl (a_stE 0 j2 (nth q i2) rfl (fun _ => rfl) rfl (by omega) rfl rfl rfl (by simp only [List.length_set]; omega) (l_nilH [] rfl (by decide) (fun w' hw hS => g_done ?_))))
       exact ⟨swp q i2 j2, ⟨rfl, rfl, rfl, rfl, trivial⟩, rfl, hw⟩
     ·
      refine pk_of 11 rfl hw (a_ldP (pV 0 rfl) 1 i2 0 (fun _ => rfl) rfl rfl (by omega) rfl rfl (l_nx 6 rfl (a_idxP (pV 0 rfl) 1 j2 rfl rfl rfl (by omega) rfl (l_nx 7 rfl (a_ldP (pV 0 rfl) 1 j2 0 (fun _ => rfl) rfl rfl (by omega) rfl rfl (l_nx 12 rfl (a_idxP (pV 0 rfl) 1 i2 rfl rfl rfl (by omega) rfl (l_nx 13 rfl ?_))))))))
      refine a_stE 0 i2 (nth q j2) rfl (fun _ => rfl) rfl (by omega) rfl rfl rfl (by omega) (l_nx 14 rfl (a_idxP (pV 0 rfl) 1 j2 rfl rfl rfl (by simp only [List.length_set]; omega) rfl (l_nx 15 rfl (a_stE 0 j2 (nth q i2) rfl (fun _ => rfl) rfl (by omega) rfl rfl rfl (by simp only [List.length_set]; omega) (l_nilH [] rfl (by decide) (fun w' hw hS => g_done ?_))))))
      exact ⟨swp q i2 j2, ⟨rfl, rfl, rfl, rfl, trivial⟩, rfl, hw⟩
   have hn := hΦ
   have hij : i2 < j2 := (by have h1 := hlt7 (by omega); have h2 := hge5 (by omega); rcases Nat.lt_or_ge i2 j2 with h | h; exact h; rw [show i2 = j2 by omega] at h2; first | exact absurd h1 h2 | exact absurd h2 h1)
   have hsw := legt_swap hL5 hH7 hij (by omega) (by omega) (by omega) (hge5 (by omega)) (hlt7 (by omega))
   refine c_reg (l_mv rfl (l_add rfl rfl (wi64 (by omega)) rfl (l_as rfl (l_end (c_last (l_mv rfl (l_sub (c := ((j2 - 1 : Nat) : Int)) rfl rfl (wsi1 (by omega) (by omega)) rfl (l_as rfl ?_))))))))
   exact l_nil (fun w' hw => ⟨i2 + 1, j2 - 1, n, ⟨rfl, rfl, rfl, rfl, trivial⟩, ⟨⟨⟨by omega, by omega⟩, by omega⟩, ⟨(by rw [hn]; exact hS3.then_swp ⟨by omega, by omega⟩ ⟨by omega, by omega⟩ hb), (by rw [hn, hsw.2]; exact hp3)⟩, (by rw [hn]; exact hsw.1.1), (by rw [hn]; exact hsw.1.2)⟩, hw, (by omega)⟩)
end Go.Proofs.YthincafbmpialaaGreat
