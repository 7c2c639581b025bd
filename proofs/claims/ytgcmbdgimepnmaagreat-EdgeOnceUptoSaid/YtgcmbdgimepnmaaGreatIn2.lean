/-
  THE WALKS OF the readers of lists: data, ids; and the reference's readers.
-/
import Derived.Test.YtgcmbdgimepnmaaGreatIn
set_option linter.unusedVariables false
set_option maxRecDepth 10000
namespace Go.Proofs.YtgcmbdgimepnmaaGreat
open Go Go.Sc Go.Proofs

theorem BytesPost.yes {p : Option (List UInt8 × Nat)} {d : List UInt8} {k : Nat} {e : Int} (h : BytesPost p d k e) (he : e = 0) : p = some (d, k) := by
  rcases h with h | h
  · exact h.2
  · exact absurd he h.1
theorem BytesPost.no {p : Option (List UInt8 × Nat)} {d : List UInt8} {k : Nat} {e : Int} (h : BytesPost p d k e) (he : e ≠ 0) : p = none := by
  rcases h with h | h
  · exact absurd h.1 he
  · exact h.2
def pRep {α : Type} (p : List UInt8 → Nat → Option (α × Nat)) : Nat → List UInt8 → Nat → Option (List α × Nat)
  | 0 => pPure []
  | k + 1 => pBind (pRep p k) fun l => pBind p fun x => pPure (l ++ [x])
def pInt (most : Nat) : List UInt8 → Nat → Option (Int × Nat) := pBind (pUpto most) fun n => pPure (n : Int)
def pIds : List UInt8 → Nat → Option (List Int × Nat) := pBind (pUpto 16) fun n => pRep (pInt 16) n

theorem inData_s {S : List Nat} (o : Nat) (v : Value) (b : List UInt8) (a : Nat) (bad : Bool) (w : World) (hl : LenOk b.length) (ha : a ≤ b.length) (hin : Own w S [Res.row o 130 [v, .int .i64 (a : Nat), .bool bad]] w) (hb : Rd w S (Res.sl v b.length (b.map vb))) : Rets Tryz.prog 89 #[.pointer (some ⟨o, 0, none⟩)] w fun u_ w' => ∃ (r : Value) (d : List UInt8) (a' : Nat) (bad' : Bool), u_ = r ∧ RdS pBytes b a bad d a' bad' ∧ d.length ≤ b.length ∧ Own w S [Res.row o 130 [v, .int .i64 (a' : Nat), .bool bad'], Res.vec 5 1 r d.length (d.map vb)] w' := by
  refine fn_enter (args := [.pointer (some ⟨o, 0, none⟩)]) Tryz.func89 rfl Tryz.ntmps89 rfl (show Own w S [Res.row o 130 [v, .int .i64 (a : Nat), .bool bad]] w from hin) ?_
  refine c_reg (l_as rfl (l_end (c_seq (c_reg (l_mv rfl (l_nck rfl rfl (l_fld (o := 2) rfl (by kernel_rfl) rfl (l_ldo 0 (v := .bool bad) rfl rfl rfl (by kernel_rfl) rfl (l_end (c_if rfl (fun c1 => ?_) (fun c1 => ?_)))))))))))
  ·
   refine c_reg (l_as rfl (l_end ?_))
   exact c_ret (ret1 (v := .slice none 0 0) rfl rfl (fun w' hw => ⟨.slice none 0 0, [], a, bad, rfl, RdS.badly c1 ha, (by simp), own_nil hw 5 1⟩))
  ·
   refine c_skipC (c_seq (c_heldo [0] rfl (by decide) (by kernel_rfl) (fun w' hw hS => h_tk 0 rfl (by kernel_rfl) (v_mv) hS (h_tk 1 rfl (by kernel_rfl) (v_nck rfl) hS (h_tk 2 rfl (by kernel_rfl) (v_fld (o := 0) rfl (by kernel_rfl)) hS (h_tk 3 rfl (by kernel_rfl) (v_ldo 0 (v := v) rfl rfl rfl (by kernel_rfl)) hS (h_tk 4 rfl (by kernel_rfl) (v_mv) hS (h_tk 5 rfl (by kernel_rfl) (v_nck rfl) hS (h_tk 6 rfl (by kernel_rfl) (v_fld (o := 1) rfl (by kernel_rfl)) hS (h_tk 7 rfl (by kernel_rfl) (v_ldo 0 (v := .int .i64 (a : Nat)) rfl rfl rfl (by kernel_rfl)) hS (h_one 8 (by kernel_rfl) rfl hw (l_call (by kernel_rfl) rfl rfl (fun w' hw => ?_)))))))))))))
   refine (bytes_s v b a w' (by first | assumption | omega | (simp <;> omega) | (constructor <;> (first | omega | (simp only [LenOk]; omega) | (simp <;> omega)))) (by first | assumption | omega | (simp <;> omega) | (constructor <;> (first | omega | (simp only [LenOk]; omega) | (simp <;> omega)))) (hw.rd0 hb)).mono ?_
   rintro _ w1 ⟨r1_, d2_, k3_, e4_, rfl, hf3_8, hO⟩
   refine (?_ : CL _ _ _ _ _ _ (Own w S [Res.row o 130 [v, .int .i64 (a : Nat), .bool bad], Res.vec 5 1 r1_ d2_.length (d2_.map vb)])) w1 (hw.frame0 hO)
   refine l_nilH [0] rfl (by decide) (fun w' hw hS => h_tk 9 rfl (by kernel_rfl) (v_mv) hS (h_tk 10 rfl (by kernel_rfl) (v_ext (vs := [r1_, .int .i64 (k3_ : Nat), .int .i64 e4_]) rfl rfl) hS (h_tk 11 rfl (by kernel_rfl) (v_ext (vs := [r1_, .int .i64 (k3_ : Nat), .int .i64 e4_]) rfl rfl) hS (h_tk 12 rfl (by kernel_rfl) (v_ext (vs := [r1_, .int .i64 (k3_ : Nat), .int .i64 e4_]) rfl rfl) hS (h_tk 13 rfl (by kernel_rfl) (v_as) hS (h_tk 14 rfl (by kernel_rfl) (v_as) hS (h_tk 15 rfl (by kernel_rfl) (v_as) hS (h_done (by kernel_rfl) ?_))))))))
   refine (?_ : C _ _ _ _ _ _ _ (Own w S [Res.row o 130 [v, .int .i64 (a : Nat), .bool bad], Res.vec 5 1 r1_ d2_.length (d2_.map vb)])) _ hw
   refine c_seq (c_reg (l_mv rfl (l_ne rfl rfl rfl (l_end (c_dec rfl (fun c2 => ?_) (fun c2 => ?_))))))
   ·
    refine c_reg (l_mv rfl (l_nck rfl rfl (l_fld (o := 2) rfl (by kernel_rfl) rfl (l_st (cs := [v, .int .i64 (a : Nat), .bool bad]) 0 rfl rfl rfl (by kernel_rfl) rfl (Nat.le_of_ble_eq_true rfl) (l_end (c_reg (l_as rfl (l_end ?_))))))))
    exact c_ret (ret1 (v := .slice none 0 0) rfl rfl (fun w' hw => ⟨.slice none 0 0, [], a, true, rfl, RdS.fail ha fun _ => hf3_8.no c2, (by simp), own_nil (hw.one 0 rfl) 5 1⟩))
   ·
    refine c_skipC (c_reg (l_mv rfl (l_mv rfl (l_nck rfl rfl (l_fld (o := 1) rfl (by kernel_rfl) rfl (l_st (cs := [v, .int .i64 (a : Nat), .bool bad]) 0 rfl rfl rfl (by kernel_rfl) rfl (Nat.le_of_ble_eq_true rfl) (l_end (c_reg (l_mv rfl (l_as rfl (l_end ?_)))))))))))
    exact c_ret (ret1 (v := r1_) rfl rfl (fun w' hw => ⟨r1_, d2_, k3_, bad, rfl, RdS.done (pBytes_some (hf3_8.yes (by omega))).1 (hf3_8.yes (by omega)), (pBytes_some (hf3_8.yes (by omega))).2, hw⟩))

-- no function (*scupper/msg.in).ids

/-! the reference's -/
theorem rnum_r (v : Value) (b : List UInt8) (a : Nat) (w : World) (hl : LenOk b.length) (ha : a ≤ b.length) (hb : Rd w [] (Res.sl v b.length (b.map vb))) : Rets Tryz.prog 77 #[v, .int .i64 (a : Nat)] w fun u_ w' => ∃ (n : Nat) (k : Nat) (e : Int), u_ = .tuple #[.int .u64 (n : Nat), .int .i64 (k : Nat), .int .i64 e] ∧ NumPost (pNum b a) n k e ∧ Own w [] [] w' := by
  have hk := (nth b a).toNat_lt
  have hd : (b.drop a).length = b.length - a := by simp
  have e0 : nth (b.drop a) 0 = nth b a := by rw [nth_drop]; rfl
  have e1 : nth (b.drop a) 1 = nth b (a + 1) := nth_drop b a 1
  have hsub : (((b.drop a).take (1 + (nth b a).toNat)).drop 1).length = min (1 + (nth b a).toNat) (b.length - a) - 1 := by simp
  refine fn_enter (args := [v, .int .i64 (a : Nat)]) Tryz.func77 rfl Tryz.ntmps77 rfl (Own.start w) ?_
  refine c_reg (l_as rfl (l_as rfl (l_as rfl (l_end (c_seq (c_reg (l_mv rfl (l_lss rfl rfl rfl (l_mv rfl (l_bor (q := ((a : Nat) : Int) < 0) 4 2 [16, 15, 14, 13] (((b.length : Nat) : Int) < ((a : Nat) : Int)) rfl rfl rfl rfl rfl rfl trivial rfl (fun h1_2 => ?_) (fun g1_7 => ?_)))))))))))
  ·
   refine l_on rfl (gF h1_2) (l_mv rfl (l_on rfl (gF h1_2) (l_mv rfl (l_on rfl (gF h1_2) (l_lenP (pR hb) rfl (by kernel_rfl) rfl (l_on rfl (gF h1_2) (l_gtr rfl rfl rfl ?_)))))))
   exact l_nil (fun w' hw => ⟨(by repeat (first | exact .refl _ _ | refine .upd rfl ?_ | refine .msk rfl ?_)), rfl, hw⟩)
  refine l_end (c_decF rfl (by omega) (c_skipC (c_seq (c_reg (l_mv rfl (l_mv rfl (l_lenP (pR hb) rfl (by kernel_rfl) rfl (l_eq rfl rfl rfl (l_end (c_dec rfl (fun c2 => ?_) (fun c2 => ?_)))))))))))
  ·
   refine c_reg (l_as rfl (l_as rfl (l_as rfl (l_end ?_))))
   exact c_ret (ret3 (v := .int .u64 (0 : Nat)) (v' := .int .i64 0) (v'' := .int .i64 5) rfl rfl rfl rfl (fun w' hw => ⟨0, 0, 5, rfl, .inr ⟨by decide, rfl, rfl, by unfold pNum pRest; rw [if_pos (by omega)]; rfl⟩, hw.drop⟩))
  ·
   refine c_skipC (c_reg (l_mv rfl (l_mv rfl (l_idxP (pR hb) 1 a rfl rfl (by kernel_rfl) rfl (by omega) rfl (l_ldBP (pR hb) a rfl (by omega) (by omega) (by kernel_rfl) rfl (l_cvt (by kernel_rfl) rfl (wi64 (by omega)) rfl ?_ (by kernel_rfl)))))))
   refine l_as rfl (l_end (c_seq (c_reg (l_mv rfl (l_gtr rfl rfl rfl (l_mv rfl (l_bor (q := 8 < (((nth b a).toNat : Nat) : Int)) 17 2 [46, 45, 44, 43, 42, 41, 40, 39, 38, 37, 36, 35, 34, 33, 32, 31, 30] (((0 < (((nth b a).toNat : Nat) : Int)) ∧ (((a + 1 : Nat) : Int) < ((b.length : Nat) : Int))) ∧ ((((nth b (a + 1)).toNat : Nat) : Int) = ((0 : Nat) : Int))) rfl rfl rfl rfl rfl rfl trivial rfl (fun h6_2 => ?_) (fun g6_20 => ?_))))))))
   ·
    refine l_on rfl (gF h6_2) (l_mv rfl (l_on rfl (gF h6_2) (l_gtr rfl rfl rfl (l_on rfl (gF h6_2) (l_mv rfl (l_band (q := 0 < (((nth b a).toNat : Nat) : Int)) 5 5 [37, 36, 35, 34, 33] (((a + 1 : Nat) : Int) < ((b.length : Nat) : Int)) rfl rfl rfl rfl rfl rfl ⟨_, rfl, rfl, gF h6_2⟩ rfl (fun h6_5 => ?_) (fun g6_11 => ?_)))))))
    ·
     refine l_on rfl (gT h6_5) (l_mv rfl (l_on rfl (gT h6_5) (l_add rfl rfl (wi64 (by omega)) rfl (l_on rfl (gT h6_5) (l_mv rfl (l_on rfl (gT h6_5) (l_lenP (pR hb) rfl (by kernel_rfl) rfl (l_on rfl (gT h6_5) (l_lss rfl rfl rfl ?_)))))))))
     exact l_nil (fun w' hw => ⟨(by repeat (first | exact .refl _ _ | refine .upd rfl ?_ | refine .msk rfl ?_)), rfl, hw⟩)
    refine l_on rfl (gF h6_2) (l_mv rfl (l_band (q := (0 < (((nth b a).toNat : Nat) : Int)) ∧ (((a + 1 : Nat) : Int) < ((b.length : Nat) : Int))) 6 12 [45, 44, 43, 42, 41, 40] ((((nth b (a + 1)).toNat : Nat) : Int) = ((0 : Nat) : Int)) rfl rfl rfl rfl rfl rfl ⟨_, rfl, rfl, gF h6_2⟩ rfl (fun h6_12 => ?_) (fun g6_19 => ?_)))
    ·
     refine l_on rfl (gT h6_12) (l_mv rfl (l_on rfl (gT h6_12) (l_mv rfl (l_on rfl (gT h6_12) (l_add rfl rfl (wi64 (by omega)) rfl (l_on rfl (gT h6_12) (l_idxP (pR hb) 1 (a + 1) rfl rfl (by kernel_rfl) rfl (by omega) rfl (l_on rfl (gT h6_12) (l_ldBP (pR hb) (a + 1) rfl (by omega) (by omega) (by kernel_rfl) rfl (l_on rfl (gT h6_12) (l_eq rfl rfl rfl ?_)))))))))))
     exact l_nil (fun w' hw => ⟨(by repeat (first | exact .refl _ _ | refine .upd rfl ?_ | refine .msk rfl ?_)), rfl, hw⟩)
    exact l_nil (fun w' hw => ⟨(by repeat (first | exact .refl _ _ | refine .upd rfl ?_ | refine .msk rfl ?_)), rfl, hw⟩)
   refine l_end (c_dec rfl (fun c3 => ?_) (fun c3 => ?_))
   ·
    refine c_reg (l_as rfl (l_as rfl (l_as rfl (l_end ?_))))
    exact c_ret (ret3 (v := .int .u64 (0 : Nat)) (v' := .int .i64 0) (v'' := .int .i64 4) rfl rfl rfl rfl (fun w' hw => ⟨0, 0, 4, rfl, .inr ⟨by decide, rfl, rfl, by unfold pNum pRest; rw [e0, e1, if_neg (by omega), if_pos (by omega)]; rfl⟩, hw.drop⟩))
   ·
    refine c_skipC (c_seq (c_reg (l_mv rfl (l_lenP (pR hb) rfl (by kernel_rfl) rfl (l_mv rfl (l_sub rfl rfl (wi64 (by omega)) rfl (l_sub rfl rfl (wi64 (by omega)) rfl (l_mv rfl (l_lss rfl rfl rfl (l_end (c_dec rfl (fun c4 => ?_) (fun c4 => ?_))))))))))))
    ·
     refine c_reg (l_as rfl (l_as rfl (l_as rfl (l_end ?_))))
     exact c_ret (ret3 (v := .int .u64 (0 : Nat)) (v' := .int .i64 0) (v'' := .int .i64 5) rfl rfl rfl rfl (fun w' hw => ⟨0, 0, 5, rfl, .inr ⟨by decide, rfl, rfl, by unfold pNum pRest; rw [e0, e1, if_neg (by omega), if_neg (by omega), if_pos (by omega)]; rfl⟩, hw.drop⟩))
    ·
     refine c_skipC (c_reg (l_as rfl (l_end (c_seq (c_reg (l_as rfl (l_end (c_block ?_))))))))
     refine c_loop1 (fun (j : Nat) => [(0, v), (1, .int .i64 (a : Nat)), (7, .int .i64 ((nth b a).toNat : Nat)), (8, .int .u64 ((beN ((((b.drop a).take (1 + (nth b a).toNat)).drop 1).take j)) : Nat)), (9, .int .i64 ((j + 1) : Nat))]) (fun (j : Nat) => j ≤ (nth b a).toNat) (fun (j : Nat) => []) (fun (j : Nat) => (nth b a).toNat - j) (fun w' hw => ⟨0, ⟨rfl, rfl, rfl, rfl, rfl, trivial⟩, Nat.zero_le _, hw⟩) (fun j g hΦ => ?_)
     have hlt := beN_lt ((((b.drop a).take (1 + (nth b a).toNat)).drop 1).take j)
     have hlj : ((((b.drop a).take (1 + (nth b a).toNat)).drop 1).take j).length = j := by rw [List.length_take]; omega
     rw [hlj] at hlt
     refine c_seq (c_reg (l_mv rfl (l_mv rfl (l_leq rfl rfl rfl (l_end (c_dec rfl (fun c5 => ?_) (fun c5 => ?_)))))))
     ·
      have hp7 := pow256_le7 (k := j) (by omega)
      have hcl := (nth b (a + (j + 1))).toNat_lt
      refine c_skipC (c_seq (c_block (c_last (l_mv rfl (l_mul rfl rfl (wu64 (by omega)) rfl (l_mv rfl (l_mv rfl (l_mv rfl (l_add rfl rfl (wi64 (by omega)) rfl (l_idxP (pR hb) 1 (a + (j + 1)) rfl rfl (by kernel_rfl) rfl (by omega) rfl (l_ldBP (pR hb) (a + (j + 1)) rfl (by omega) (by omega) (by kernel_rfl) rfl (l_cvt (by kernel_rfl) rfl (wu64 (by omega)) rfl ?_ (by kernel_rfl)))))))))))))
      refine l_add rfl rfl (wu64 (by omega)) rfl (l_as rfl (l_end (c_last (l_mv rfl (l_add rfl rfl (wi64 (by omega)) rfl (l_as rfl ?_))))))
      exact l_nil (fun w' hw => ⟨j + 1, ⟨rfl, rfl, rfl, by rw [take_nth (by omega), beN_snoc, nth_drop, nth_take (by omega), nth_drop, show a + (1 + j) = a + (j + 1) by omega]; rfl, rfl, trivial⟩, (by omega), hw, (by omega)⟩)
     ·
      refine c_exitC rfl (c_reg (l_mv rfl (l_mv rfl (l_add rfl rfl (wi64 (by omega)) rfl (l_mv rfl (l_add rfl rfl (wi64 (by omega)) rfl (l_as rfl (l_as rfl (l_as rfl (l_end ?_))))))))))
      exact c_ret (ret3 (v := .int .u64 ((beN ((((b.drop a).take (1 + (nth b a).toNat)).drop 1).take j)) : Nat)) (v' := .int .i64 ((a + 1) + ((nth b a).toNat) : Nat)) (v'' := .int .i64 0) rfl rfl rfl rfl (fun w' hw => ⟨(beN ((((b.drop a).take (1 + (nth b a).toNat)).drop 1).take j)), (a + 1) + ((nth b a).toNat), 0, rfl, .inl ⟨rfl, by unfold pNum pRest; rw [e0, e1, if_neg (by omega), if_neg (by omega), if_neg (by omega), List.take_of_length_le (i := j) (by omega)]; simp [Nat.add_assoc]⟩, hw.drop⟩))

-- no function scupper/scupperref01.Bytes

theorem rinNum_s {S : List Nat} (o : Nat) (v : Value) (b : List UInt8) (a : Nat) (bad : Bool) (w : World) (hl : LenOk b.length) (ha : a ≤ b.length) (hin : Own w S [Res.row o 114 [v, .int .i64 (a : Nat), .bool bad]] w) (hb : Rd w S (Res.sl v b.length (b.map vb))) : Rets Tryz.prog 55 #[.pointer (some ⟨o, 0, none⟩)] w fun u_ w' => ∃ (n : Nat) (a' : Nat) (bad' : Bool), u_ = .int .u64 (n : Nat) ∧ RdS pNum b a bad n a' bad' ∧ n < 18446744073709551616 ∧ Own w S [Res.row o 114 [v, .int .i64 (a' : Nat), .bool bad']] w' := by
  refine fn_enter (args := [.pointer (some ⟨o, 0, none⟩)]) Tryz.func55 rfl Tryz.ntmps55 rfl (show Own w S [Res.row o 114 [v, .int .i64 (a : Nat), .bool bad]] w from hin) ?_
  refine c_reg (l_as rfl (l_end (c_seq (c_reg (l_mv rfl (l_nck rfl rfl (l_fld (o := 2) rfl (by kernel_rfl) rfl (l_ldo 0 (v := .bool bad) rfl rfl rfl (by kernel_rfl) rfl (l_end (c_if rfl (fun c1 => ?_) (fun c1 => ?_)))))))))))
  ·
   refine c_reg (l_as rfl (l_end ?_))
   exact c_ret (ret1 (v := .int .u64 (0 : Nat)) rfl rfl (fun w' hw => ⟨0, a, bad, rfl, RdS.badly c1 ha, (by omega), hw⟩))
  ·
   refine c_skipC (c_seq (c_heldo [0] rfl (by decide) (by kernel_rfl) (fun w' hw hS => h_tk 0 rfl (by kernel_rfl) (v_mv) hS (h_tk 1 rfl (by kernel_rfl) (v_nck rfl) hS (h_tk 2 rfl (by kernel_rfl) (v_fld (o := 0) rfl (by kernel_rfl)) hS (h_tk 3 rfl (by kernel_rfl) (v_ldo 0 (v := v) rfl rfl rfl (by kernel_rfl)) hS (h_tk 4 rfl (by kernel_rfl) (v_mv) hS (h_tk 5 rfl (by kernel_rfl) (v_nck rfl) hS (h_tk 6 rfl (by kernel_rfl) (v_fld (o := 1) rfl (by kernel_rfl)) hS (h_tk 7 rfl (by kernel_rfl) (v_ldo 0 (v := .int .i64 (a : Nat)) rfl rfl rfl (by kernel_rfl)) hS (h_one 8 (by kernel_rfl) rfl hw (l_call (by kernel_rfl) rfl rfl (fun w' hw => ?_)))))))))))))
   refine (rnum_r v b a w' (by first | assumption | omega | (simp <;> omega) | (constructor <;> (first | omega | (simp only [LenOk]; omega) | (simp <;> omega)))) (by first | assumption | omega | (simp <;> omega) | (constructor <;> (first | omega | (simp only [LenOk]; omega) | (simp <;> omega)))) (hw.rd0 hb)).mono ?_
   rintro _ w1 ⟨n1_, k2_, e3_, rfl, hf3_8, hO⟩
   refine (?_ : CL _ _ _ _ _ _ (Own w S [Res.row o 114 [v, .int .i64 (a : Nat), .bool bad]])) w1 (hw.frame0 hO)
   refine l_nilH [0] rfl (by decide) (fun w' hw hS => h_tk 9 rfl (by kernel_rfl) (v_mv) hS (h_tk 10 rfl (by kernel_rfl) (v_ext (vs := [.int .u64 (n1_ : Nat), .int .i64 (k2_ : Nat), .int .i64 e3_]) rfl rfl) hS (h_tk 11 rfl (by kernel_rfl) (v_ext (vs := [.int .u64 (n1_ : Nat), .int .i64 (k2_ : Nat), .int .i64 e3_]) rfl rfl) hS (h_tk 12 rfl (by kernel_rfl) (v_ext (vs := [.int .u64 (n1_ : Nat), .int .i64 (k2_ : Nat), .int .i64 e3_]) rfl rfl) hS (h_tk 13 rfl (by kernel_rfl) (v_as) hS (h_tk 14 rfl (by kernel_rfl) (v_as) hS (h_tk 15 rfl (by kernel_rfl) (v_as) hS (h_done (by kernel_rfl) ?_))))))))
   refine (?_ : C _ _ _ _ _ _ _ (Own w S [Res.row o 114 [v, .int .i64 (a : Nat), .bool bad]])) _ hw
   refine c_seq (c_reg (l_mv rfl (l_ne rfl rfl rfl (l_end (c_dec rfl (fun c2 => ?_) (fun c2 => ?_))))))
   ·
    refine c_reg (l_mv rfl (l_nck rfl rfl (l_fld (o := 2) rfl (by kernel_rfl) rfl (l_st (cs := [v, .int .i64 (a : Nat), .bool bad]) 0 rfl rfl rfl (by kernel_rfl) rfl (Nat.le_of_ble_eq_true rfl) (l_end (c_reg (l_as rfl (l_end ?_))))))))
    exact c_ret (ret1 (v := .int .u64 (0 : Nat)) rfl rfl (fun w' hw => ⟨0, a, true, rfl, RdS.fail ha fun _ => hf3_8.no c2, (by omega), hw⟩))
   ·
    refine c_skipC (c_reg (l_mv rfl (l_mv rfl (l_nck rfl rfl (l_fld (o := 1) rfl (by kernel_rfl) rfl (l_st (cs := [v, .int .i64 (a : Nat), .bool bad]) 0 rfl rfl rfl (by kernel_rfl) rfl (Nat.le_of_ble_eq_true rfl) (l_end (c_reg (l_mv rfl (l_as rfl (l_end ?_)))))))))))
    exact c_ret (ret1 (v := .int .u64 (n1_ : Nat)) rfl rfl (fun w' hw => ⟨n1_, k2_, bad, rfl, RdS.done (pNum_some (hf3_8.yes (by omega))).2.1 (hf3_8.yes (by omega)), (pNum_some (hf3_8.yes (by omega))).1, hw⟩))
theorem rinInt_s {S : List Nat} (o : Nat) (v : Value) (b : List UInt8) (a : Nat) (bad : Bool) (most : Nat) (w : World) (hl : LenOk b.length) (ha : a ≤ b.length) (hm : most ≤ 1000000) (hin : Own w S [Res.row o 114 [v, .int .i64 (a : Nat), .bool bad]] w) (hb : Rd w S (Res.sl v b.length (b.map vb))) : Rets Tryz.prog 56 #[.pointer (some ⟨o, 0, none⟩), .int .u64 (most : Nat)] w fun u_ w' => ∃ (n : Nat) (a' : Nat) (bad' : Bool), u_ = .int .i64 (n : Nat) ∧ RdS (pUpto most) b a bad n a' bad' ∧ n ≤ most ∧ Own w S [Res.row o 114 [v, .int .i64 (a' : Nat), .bool bad']] w' := by
  refine fn_enter (args := [.pointer (some ⟨o, 0, none⟩), .int .u64 (most : Nat)]) Tryz.func56 rfl Tryz.ntmps56 rfl (show Own w S [Res.row o 114 [v, .int .i64 (a : Nat), .bool bad]] w from hin) ?_
  refine c_reg (l_as rfl (l_end (c_reg (l_mv rfl (l_call (by kernel_rfl) rfl rfl (fun w' hw => (rinNum_s o v b a bad w' (by first | assumption | omega | (simp <;> omega) | (constructor <;> (first | omega | (simp only [LenOk]; omega) | (simp <;> omega)))) (by first | assumption | omega | (simp <;> omega) | (constructor <;> (first | omega | (simp only [LenOk]; omega) | (simp <;> omega)))) (hw.give [0] rfl (by decide)) (hw.rdTo hb [0] rfl)).mono ?_))))))
  rintro _ w1 ⟨n1_, a'2_, bad'3_, rfl, hf1_1, hf1_1_1, hO⟩
  have hq := hf1_1.le
  refine (?_ : CL _ _ _ _ _ _ (Own w S [Res.row o 114 [v, .int .i64 (a'2_ : Nat), .bool bad'3_]])) w1 (hw.frameL [0] rfl hO)
  refine l_as rfl (l_end (c_seq (c_reg (l_mv rfl (l_mv rfl (l_gtr rfl rfl rfl (l_end (c_dec rfl (fun c1 => ?_) (fun c1 => ?_)))))))))
  ·
   refine c_reg (l_mv rfl (l_nck rfl rfl (l_fld (o := 2) rfl (by kernel_rfl) rfl (l_st (cs := [v, .int .i64 (a'2_ : Nat), .bool bad'3_]) 0 rfl rfl rfl (by kernel_rfl) rfl (Nat.le_of_ble_eq_true rfl) (l_end (c_reg (l_as rfl (l_end ?_))))))))
   exact c_ret (ret1 (v := .int .i64 0) rfl rfl (fun w' hw => ⟨0, a'2_, true, rfl, RdS.fail hq fun h0 => (by cases hp : pUpto most b a with | none => rfl | some q => obtain ⟨h1, h2⟩ := pUpto_some hp; obtain ⟨_, h3, _⟩ := hf1_1.ok q.1 q.2 h0 h1; omega), (by omega), hw⟩))
  ·
   refine c_skipC (c_reg (l_mv rfl (l_cvt (by kernel_rfl) rfl (wi64 (by omega)) rfl ?_ (by kernel_rfl))))
   refine l_as rfl (l_end ?_)
   exact c_ret (ret1 (v := .int .i64 (n1_ : Nat)) rfl rfl (fun w' hw => ⟨n1_, a'2_, bad'3_, rfl, ⟨hq, hf1_1.st, fun u k h0 h => hf1_1.ok u k h0 (pUpto_some h).1, fun h0 h => (by cases hp : pNum b a with | none => exact hf1_1.no h0 hp | some q => simp only [pUpto, hp, Option.bind_some] at h; obtain ⟨_, h3, _⟩ := hf1_1.ok q.1 q.2 h0 hp; rw [if_neg (by omega)] at h; cases h)⟩, (by omega), hw⟩))
-- no function (*scupper/scupperref03.In).Data
-- no function (*scupper/scupperref03.In).ids
theorem whole_s {S : List Nat} (o : Nat) (v : Value) (b : List UInt8) (a : Nat) (bad : Bool) (w : World) (hl : LenOk b.length) (hin : Own w S [Res.row o 114 [v, .int .i64 (a : Nat), .bool bad]] w) (hb : Rd w S (Res.sl v b.length (b.map vb))) : Rets Tryz.prog 58 #[.pointer (some ⟨o, 0, none⟩)] w fun u_ w' => u_ = .bool (decide (bad = false ∧ a = b.length)) ∧ Own w S [Res.row o 114 [v, .int .i64 (a : Nat), .bool bad]] w' := by
  refine fn_enter (args := [.pointer (some ⟨o, 0, none⟩)]) Tryz.func58 rfl Tryz.ntmps58 rfl (show Own w S [Res.row o 114 [v, .int .i64 (a : Nat), .bool bad]] w from hin) ?_
  refine c_reg (l_as rfl (l_end (c_quiets (by kernel_rfl) (by kernel_rfl) (q_val rfl (v_mv) (q_val rfl (v_nck rfl) (q_val rfl (v_fld (o := 2) rfl (by kernel_rfl)) (q_val rfl (v_ldo 0 (v := .bool bad) rfl rfl rfl (by kernel_rfl)) (q_val rfl (v_not (b := bad) rfl) (q_val rfl (v_mv) (q_band (q := (!bad) = true) 10 5 [18, 17, 16, 15, 14, 13, 12, 11, 10, 9] (((a : Nat) : Int) = ((b.length : Nat) : Int)) rfl rfl (bool_dec _) rfl rfl rfl trivial rfl (fun h1_5 => ?_) (fun g1_16 => ?_)))))))))))
  ·
   refine q_on rfl (bT h1_5) (q_val rfl (v_mv) (q_on rfl (bT h1_5) (q_val rfl (v_nck rfl) (q_on rfl (bT h1_5) (q_val rfl (v_fld (o := 1) rfl (by kernel_rfl)) (q_on rfl (bT h1_5) (q_val rfl (v_ldo 0 (v := .int .i64 (a : Nat)) rfl rfl rfl (by kernel_rfl)) (q_on rfl (bT h1_5) (q_val rfl (v_mv) (q_on rfl (bT h1_5) (q_val rfl (v_nck rfl) (q_on rfl (bT h1_5) ?_))))))))))))
   refine q_val rfl (v_fld (o := 0) rfl (by kernel_rfl)) (q_on rfl (bT h1_5) (q_val rfl (v_ldo 0 (v := v) rfl rfl rfl (by kernel_rfl)) (q_on rfl (bT h1_5) (q_val rfl (v_lenP (pR hb) rfl (by kernel_rfl)) (q_on rfl (bT h1_5) (q_val rfl (v_eq rfl rfl) ?_))))))
   exact q_nil (fun w' hw => ⟨(by repeat (first | exact .refl _ _ | refine .upd rfl ?_ | refine .msk rfl ?_)), rfl, hw⟩)
  refine q_val rfl (v_as) (q_end ?_)
  exact c_ret (ret1 (v := .bool (decide (((!bad) = true) ∧ (((a : Nat) : Int) = ((b.length : Nat) : Int))))) rfl rfl (fun w' hw => ⟨(by cases bad <;> simp_all; omega), hw⟩))
end Go.Proofs.YtgcmbdgimepnmaaGreat
