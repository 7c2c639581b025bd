/-
  THE WALKS OF the readers of lists: data, ids; and the reference's readers.
-/
import Derived.Test.YthincafbmpialaaGreatIn
set_option linter.unusedVariables false
set_option maxRecDepth 10000
namespace Go.Proofs.YthincafbmpialaaGreat
open Go Go.Sc Go.Proofs

theorem BytesPost.yes {p : Option (List UInt8 × Nat)} {d : List UInt8} {k : Nat} {e : Int} (h : BytesPost p d k e) (he : e = 0) : p = some (d, k) := by
  rcases h with h | h
  · exact h.2
  · exact absurd he h.1
theorem BytesPost.no {p : Option (List UInt8 × Nat)} {d : List UInt8} {k : Nat} {e : Int} (h : BytesPost p d k e) (he : e ≠ 0) : p = none := by
  rcases h with h | h
  · exact absurd h.1 he
  · exact h.2
def pRep {α : Type} (p : List UInt8 → Nat → Option (α × Nat)) : Nat → List UInt8 → Nat → Option (List α × Nat)
  | 0 => pPure []
  | k + 1 => pBind (pRep p k) fun l => pBind p fun x => pPure (l ++ [x])
theorem RdS.snoc {α : Type} {p : List UInt8 → Nat → Option (α × Nat)} {b : List UInt8} {a a1 a2 k : Nat} {bad bad1 bad2 : Bool} {l : List α} {x : α} (h1 : RdS (pRep p k) b a bad l a1 bad1) (h2 : RdS p b a1 bad1 x a2 bad2) : RdS (pRep p (k + 1)) b a bad (l ++ [x]) a2 bad2 :=
  h1.bind (h2.map (l ++ [·]))
theorem pRep_none {α : Type} {p : List UInt8 → Nat → Option (α × Nat)} {b : List UInt8} {a k : Nat} (h : pRep p k b a = none) : ∀ n, k ≤ n → pRep p n b a = none := by
  intro n hn
  induction n with
  | zero => rw [show k = 0 by omega] at h; exact h
  | succ n ih =>
    by_cases hk : k = n + 1
    · rw [← hk]; exact h
    · simp only [pRep, pBind, ih (by omega), Option.bind_none]
theorem RdS.stop {α : Type} {p : List UInt8 → Nat → Option (α × Nat)} {b : List UInt8} {a a1 k n : Nat} {bad : Bool} {l : List α} (h : RdS (pRep p k) b a bad l a1 true) (hn : k ≤ n) : RdS (pRep p n) b a bad l a1 true := by
  refine ⟨h.le, h.st, fun v j hb hv => ?_, fun _ _ => rfl⟩
  cases hp : pRep p k b a with
  | none => rw [pRep_none hp n hn] at hv; cases hv
  | some q => have := (h.ok q.1 q.2 hb hp).1; cases this
def pInt (most : Nat) : List UInt8 → Nat → Option (Int × Nat) := pBind (pUpto most) fun n => pPure (n : Int)
def pIds : List UInt8 → Nat → Option (List Int × Nat) := pBind (pUpto 16) fun n => pRep (pInt 16) n

theorem ids_end {b : List UInt8} {a a1 a2 n k : Nat} {bad bad1 bad2 : Bool} {l : List Int} (h1 : RdS (pUpto 16) b a bad n a1 bad1) (h2 : RdS (pRep (pInt 16) k) b a1 bad1 l a2 bad2) (e : k = n) : RdS pIds b a bad l a2 bad2 := by
  subst e; exact h1.bind h2

theorem ids_end2 {b : List UInt8} {a a1 a2 n k : Nat} {bad bad1 bad2 : Bool} {l : List Int} (h1 : RdS (pUpto 16) b a bad n a1 bad1) (h2 : RdS (pRep (pInt 16) k) b a1 bad1 l a2 bad2) (c : ¬ ((k : Int) < n ∧ (!bad2) = true)) (hk : k ≤ n) : RdS pIds b a bad l a2 bad2 := by
  by_cases e : k = n
  · exact ids_end h1 h2 e
  · have hb : bad2 = true := by cases bad2; exact absurd ⟨by omega, rfl⟩ c; rfl
    subst hb
    exact h1.bind (h2.stop hk)

theorem inData_s {S : List Nat} (o : Nat) (v : Value) (b : List UInt8) (a : Nat) (bad : Bool) (w : World) (hl : LenOk b.length) (ha : a ≤ b.length) (hin : Own w S [Res.row o 185 [v, Vj a, .bool bad]] w) (hb : Rd w S (Res.sl v b.length (b.map vb))) : Rets Tryz.prog 106 #[.pointer (some ⟨o, 0, none⟩)] w fun u_ w' => ∃ (r : Value) (d : List UInt8) (a' : Nat) (bad' : Bool), u_ = r ∧ RdS pBytes b a bad d a' bad' ∧ d.length ≤ b.length ∧ Own w S [Res.row o 185 [v, Vj a', .bool bad'], Res.vec 5 1 r d.length (d.map vb)] w' := by
  refine fn_own Tryz.func106 rfl Tryz.ntmps106 hin ?_
  refine c_reg (l_as rfl (l_end (c_seq (c_reg (l_mv rfl (l_nck rfl rfl (a_fld (o := 2) rfl rfl (a_ldo 0 (v := .bool bad) rfl rfl rfl rfl (l_end (c_if rfl (fun c1 => ?_) (fun c1 => ?_)))))))))))
  ·
   refine c_reg (l_as rfl (l_end ?_))
   exact c_ret (ret1 (v := .slice none 0 0) rfl rfl (fun w' hw => ⟨.slice none 0 0, [], a, bad, rfl, RdS.badly c1 ha, (by simp), own_nil hw 5 1⟩))
  ·
   refine c_skipC (c_seq (c_heldo [0] rfl (by decide) (by kernel_rfl) (fun w' hw hS => g_tk 0 rfl (v_mv) hS (g_tk 1 rfl (v_nck rfl) hS (g_tk 2 rfl (w_fld (o := 0) rfl) hS (g_tk 3 rfl (w_ldo 0 (v := v) rfl rfl rfl) hS (g_tk 4 rfl (v_mv) hS (g_tk 5 rfl (v_nck rfl) hS (g_tk 6 rfl (w_fld (o := 1) rfl) hS (g_tk 7 rfl (w_ldo 0 (v := Vj a) rfl rfl rfl) hS (g_one 8 rfl hw (a_call rfl rfl (fun w' hw => ?_)))))))))))))
   refine (bytes_s v b a w' (by first | assumption | omega | (simp <;> omega) | (constructor <;> (first | omega | (simp only [LenOk]; omega) | (simp <;> omega)))) (by first | omega | (simp <;> omega)) (hw.rd0 hb)).mono ?_
   rintro _ w1 ⟨r1_, d2_, k3_, e4_, rfl, hf3_8, hO⟩
   refine (?_ : CL _ _ _ _ _ _ (Own w S [Res.row o 185 [v, Vj a, .bool bad], Res.vec 5 1 r1_ d2_.length (d2_.map vb)])) w1 (hw.frame0 hO)
   refine l_nilH [0] rfl (by decide) (fun w' hw hS => g_tk 9 rfl (v_mv) hS (g_tk 10 rfl (v_ext (vs := [r1_, Vj k3_, Vi e4_]) rfl rfl) hS (g_tk 11 rfl (v_ext (vs := [r1_, Vj k3_, Vi e4_]) rfl rfl) hS (g_tk 12 rfl (v_ext (vs := [r1_, Vj k3_, Vi e4_]) rfl rfl) hS (g_tk 13 rfl (v_as) hS (g_tk 14 rfl (v_as) hS (g_tk 15 rfl (v_as) hS (g_done ?_))))))))
   refine (?_ : C _ _ _ _ _ _ _ (Own w S [Res.row o 185 [v, Vj a, .bool bad], Res.vec 5 1 r1_ d2_.length (d2_.map vb)])) _ hw
   refine c_seq (c_reg (l_mv rfl (l_ne rfl rfl rfl (l_end (c_dec rfl (fun c2 => ?_) (fun c2 => ?_))))))
   ·
    refine c_reg (l_mv rfl (l_nck rfl rfl (a_fld (o := 2) rfl rfl (a_st (cs := [v, Vj a, .bool bad]) 0 rfl rfl rfl rfl rfl (l_end (c_reg (l_as rfl (l_end ?_))))))))
    exact c_ret (ret1 (v := .slice none 0 0) rfl rfl (fun w' hw => ⟨.slice none 0 0, [], a, true, rfl, RdS.fail ha fun _ => hf3_8.no c2, (by simp), own_nil (hw.one 0 rfl) 5 1⟩))
   ·
    refine c_skipC (c_reg (l_mv rfl (l_mv rfl (l_nck rfl rfl (a_fld (o := 1) rfl rfl (a_st (cs := [v, Vj a, .bool bad]) 0 rfl rfl rfl rfl rfl (l_end (c_reg (l_mv rfl (l_as rfl (l_end ?_)))))))))))
    exact c_ret (ret1 (v := r1_) rfl rfl (fun w' hw => ⟨r1_, d2_, k3_, bad, rfl, RdS.done (pBytes_some (hf3_8.yes (by omega))).1 (hf3_8.yes (by omega)), (pBytes_some (hf3_8.yes (by omega))).2, hw⟩))

theorem inIds_s {S : List Nat} (o : Nat) (v : Value) (b : List UInt8) (a : Nat) (bad : Bool) (w : World) (hl : LenOk b.length) (ha : a ≤ b.length) (hin : Own w S [Res.row o 185 [v, Vj a, .bool bad]] w) (hb : Rd w S (Res.sl v b.length (b.map vb))) : Rets Tryz.prog 181 #[.pointer (some ⟨o, 0, none⟩)] w fun u_ w' => ∃ (r : Value) (l : List Int) (a' : Nat) (bad' : Bool), u_ = r ∧ RdS pIds b a bad l a' bad' ∧ l.length ≤ 16 ∧ Own w S [Res.row o 185 [v, Vj a', .bool bad'], Res.vec 3 1 r l.length (l.flatMap I1)] w' := by
  refine fn_own Tryz.func181 rfl Tryz.ntmps181 hin ?_
  refine c_reg (l_as rfl (l_end (c_reg (l_as rfl (l_end (c_seq (c_reg (l_mv rfl (a_call rfl rfl (fun w' hw => (inUpto_s o v b a bad 16 w' (by first | assumption | omega | (simp <;> omega) | (constructor <;> (first | omega | (simp only [LenOk]; omega) | (simp <;> omega)))) (by first | omega | (simp <;> omega)) (by first | omega | (simp <;> omega)) (hw.give [0] rfl (by decide)) (hw.rdTo hb [0] rfl)).mono ?_))))))))))
  rintro _ w1 ⟨n1_, a'2_, bad'3_, rfl, hf2_1, hf2_1_1, hO⟩
  refine (?_ : CL _ _ _ _ _ _ (Own w S [Res.row o 185 [v, Vj a'2_, .bool bad'3_]])) w1 (hw.frameL [0] rfl hO)
  refine l_mv rfl (l_end (c_block ?_))
  refine c_loop5 (fun (k : Nat) (lv : Value) (l : List Int) (a2 : Nat) (bad2 : Bool) => [(0, .pointer (some ⟨o, 0, none⟩)), (3, lv), (5, Vj n1_), (6, Vj k)]) (fun (k : Nat) (lv : Value) (l : List Int) (a2 : Nat) (bad2 : Bool) => (k ≤ n1_ ∧ l.length = k) ∧ RdS (pRep (pInt 16) k) b a'2_ bad'3_ l a2 bad2) (fun (k : Nat) (lv : Value) (l : List Int) (a2 : Nat) (bad2 : Bool) => [Res.row o 185 [v, Vj a2, .bool bad2], Res.vec 3 1 lv l.length (l.flatMap I1)]) (fun (k : Nat) (lv : Value) (l : List Int) (a2 : Nat) (bad2 : Bool) => n1_ - k) (fun w' hw => ⟨0, .slice none 0 0, [], a'2_, bad'3_, ⟨rfl, rfl, rfl, rfl, trivial⟩, ⟨⟨Nat.zero_le _, rfl⟩, RdS.pure _ hf2_1.le⟩, own_nil hw 3 1⟩) (fun k lv l a2 bad2 g hΦ => ?_)
  have ha2 := hΦ.2.le
  have hlk := hΦ.1.2
  refine c_reg (l_lss rfl rfl rfl (l_end (c_seq (c_dec rfl (fun c1 => ?_) (fun c1 => ?_)))))
  ·
   refine c_skipC (c_seq (c_block (c_last (l_mv rfl (l_mv rfl (a_call rfl rfl (fun w' hw => (inUpto_s o v b a2 bad2 16 w' (by first | assumption | omega | (simp <;> omega) | (constructor <;> (first | omega | (simp only [LenOk]; omega) | (simp <;> omega)))) (by first | omega | (simp <;> omega)) (by first | omega | (simp <;> omega)) (hw.give [0] rfl (by decide)) (hw.rdTo hb [0] rfl)).mono ?_)))))))
   rintro _ w1 ⟨n4_, a'5_, bad'6_, rfl, hf4_2, hf4_2_1, hO⟩
   refine (?_ : CL _ _ _ _ _ _ (Own w S [Res.vec 3 1 lv l.length (l.flatMap I1), Res.row o 185 [v, Vj a'5_, .bool bad'6_]])) w1 (hw.frameL [0] rfl hO)
   refine l_bsl (e := 3) (sz := 1) (vs := [Vj n4_]) (by kernel_rfl) rfl rfl (by simp [Value.cells]) (by decide) rfl (fun b11 => l_appF (g := I1) (sz := 1) (by' := 8) (fun _ => rfl) (l := l) (l' := [((n4_ : Nat) : Int)]) (by simp [cell1, I1]) 0 (by kernel_rfl) rfl rfl rfl (fun w' hw' => Vec.sl (Own.holds hw' 2 _ rfl)) (by first | omega | (simp; omega)) (by decide) rfl (fun v12 => l_as rfl (l_end (c_last (l_add rfl rfl (wi64 (by omega)) rfl (l_mv rfl ?_))))))
   exact l_nil (fun w' hw => ⟨k + 1, v12, l ++ [((n4_ : Nat) : Int)], a'5_, bad'6_, ⟨rfl, rfl, rfl, rfl, trivial⟩, ⟨⟨by omega, by simp [hlk]⟩, hΦ.2.snoc (RdS.map (fun n : Nat => (n : Int)) hf4_2)⟩, hw.sel [1, 0] rfl (by decide), (by omega)⟩)
  ·
   refine c_exitC rfl (c_reg (l_mv rfl (l_as rfl (l_end ?_))))
   exact c_ret (ret1 (v := lv) rfl rfl (fun w' hw => ⟨lv, l, a2, bad2, rfl, ids_end hf2_1 hΦ.2 (by omega), (by omega), hw⟩))

/-! the reference's -/
theorem rnum_r (v : Value) (b : List UInt8) (a : Nat) (w : World) (hl : LenOk b.length) (ha : a ≤ b.length) (hb : Rd w [] (Res.sl v b.length (b.map vb))) : Rets Tryz.prog 154 #[v, Vj a] w fun u_ w' => ∃ (n : Nat) (k : Nat) (e : Int), u_ = .tuple #[Vn n, Vj k, Vi e] ∧ NumPost (pNum b a) n k e ∧ Own w [] [] w' := by
  have hk := (nth b a).toNat_lt
  have hd : (b.drop a).length = b.length - a := by simp
  have e0 : nth (b.drop a) 0 = nth b a := by rw [nth_drop]; rfl
  have e1 : nth (b.drop a) 1 = nth b (a + 1) := nth_drop b a 1
  have hsub : (((b.drop a).take (1 + (nth b a).toNat)).drop 1).length = min (1 + (nth b a).toNat) (b.length - a) - 1 := by simp
  refine fn_own Tryz.func154 rfl Tryz.ntmps154 (Own.start w) ?_
  refine c_reg (l_as rfl (l_as rfl (l_as rfl (l_end (c_seq (c_reg (l_mv rfl (l_lss rfl rfl rfl (l_mv rfl (l_bor (q := ((a : Nat) : Int) < 0) 4 2 [16, 15, 14, 13] (((b.length : Nat) : Int) < ((a : Nat) : Int)) rfl rfl rfl rfl rfl rfl trivial rfl (fun h1_2 => ?_) (fun g1_7 => ?_)))))))))))
  ·
   refine l_on rfl (gF h1_2) (l_mv rfl (l_on rfl (gF h1_2) (l_mv rfl (l_on rfl (gF h1_2) (a_lenP (pR hb) rfl rfl (l_on rfl (gF h1_2) (l_gtr rfl rfl rfl ?_)))))))
   exact l_gp rfl (fun _ hw => hw)
  refine l_end (c_decF rfl (by omega) (c_skipC (c_seq (c_reg (l_mv rfl (l_mv rfl (a_lenP (pR hb) rfl rfl (l_eq rfl rfl rfl (l_end (c_dec rfl (fun c2 => ?_) (fun c2 => ?_)))))))))))
  ·
   refine c_reg (l_as rfl (l_as rfl (l_as rfl (l_end ?_))))
   exact c_ret (ret3 (v := Vn 0) (v' := Vi 0) (v'' := Vi 5) rfl rfl rfl rfl (fun w' hw => ⟨0, 0, 5, rfl, .inr ⟨by decide, rfl, rfl, by unfold pNum pRest; rw [if_pos (by omega)]; rfl⟩, hw.drop⟩))
  ·
   refine c_skipC (c_reg (l_mv rfl (l_mv rfl (a_idxP (pR hb) 1 a rfl rfl rfl (by omega) rfl (a_ldBP (pR hb) a rfl (by omega) (by omega) rfl (l_cvt (by kernel_rfl) rfl (wi64 (by omega)) rfl ?_ (by kernel_rfl)))))))
   refine l_as rfl (l_end (c_seq (c_reg (l_mv rfl (l_gtr rfl rfl rfl (l_mv rfl (l_bor (q := 8 < (((nth b a).toNat : Nat) : Int)) 17 2 [46, 45, 44, 43, 42, 41, 40, 39, 38, 37, 36, 35, 34, 33, 32, 31, 30] (((0 < (((nth b a).toNat : Nat) : Int)) ∧ (((a + 1 : Nat) : Int) < ((b.length : Nat) : Int))) ∧ ((((nth b (a + 1)).toNat : Nat) : Int) = ((0 : Nat) : Int))) rfl rfl rfl rfl rfl rfl trivial rfl (fun h6_2 => ?_) (fun g6_20 => ?_))))))))
   ·
    refine l_on rfl (gF h6_2) (l_mv rfl (l_on rfl (gF h6_2) (l_gtr rfl rfl rfl (l_on rfl (gF h6_2) (l_mv rfl (l_band (q := 0 < (((nth b a).toNat : Nat) : Int)) 5 5 [37, 36, 35, 34, 33] (((a + 1 : Nat) : Int) < ((b.length : Nat) : Int)) rfl rfl rfl rfl rfl rfl ⟨_, rfl, rfl, gF h6_2⟩ rfl (fun h6_5 => ?_) (fun g6_11 => ?_)))))))
    ·
     refine l_on rfl (gT h6_5) (l_mv rfl (l_on rfl (gT h6_5) (l_add rfl rfl (wi64 (by omega)) rfl (l_on rfl (gT h6_5) (l_mv rfl (l_on rfl (gT h6_5) (a_lenP (pR hb) rfl rfl (l_on rfl (gT h6_5) (l_lss rfl rfl rfl ?_)))))))))
     exact l_gp rfl (fun _ hw => hw)
    refine l_on rfl (gF h6_2) (l_mv rfl (l_band (q := (0 < (((nth b a).toNat : Nat) : Int)) ∧ (((a + 1 : Nat) : Int) < ((b.length : Nat) : Int))) 6 12 [45, 44, 43, 42, 41, 40] ((((nth b (a + 1)).toNat : Nat) : Int) = ((0 : Nat) : Int)) rfl rfl rfl rfl rfl rfl ⟨_, rfl, rfl, gF h6_2⟩ rfl (fun h6_12 => ?_) (fun g6_19 => ?_)))
    ·
     refine l_on rfl (gT h6_12) (l_mv rfl (l_on rfl (gT h6_12) (l_mv rfl (l_on rfl (gT h6_12) (l_add rfl rfl (wi64 (by omega)) rfl (l_on rfl (gT h6_12) (a_idxP (pR hb) 1 (a + 1) rfl rfl rfl (by omega) rfl (l_on rfl (gT h6_12) (a_ldBP (pR hb) (a + 1) rfl (by omega) (by omega) rfl (l_on rfl (gT h6_12) (l_eq rfl rfl rfl ?_)))))))))))
     exact l_gp rfl (fun _ hw => hw)
    exact l_gp rfl (fun _ hw => hw)
   refine l_end (c_dec rfl (fun c3 => ?_) (fun c3 => ?_))
   ·
    refine c_reg (l_as rfl (l_as rfl (l_as rfl (l_end ?_))))
    exact c_ret (ret3 (v := Vn 0) (v' := Vi 0) (v'' := Vi 4) rfl rfl rfl rfl (fun w' hw => ⟨0, 0, 4, rfl, .inr ⟨by decide, rfl, rfl, by unfold pNum pRest; rw [e0, e1, if_neg (by omega), if_pos (by omega)]; rfl⟩, hw.drop⟩))
   ·
    refine c_skipC (c_seq (c_reg (l_mv rfl (a_lenP (pR hb) rfl rfl (l_mv rfl (l_sub rfl rfl (wi64 (by omega)) rfl (l_sub rfl rfl (wi64 (by omega)) rfl (l_mv rfl (l_lss rfl rfl rfl (l_end (c_dec rfl (fun c4 => ?_) (fun c4 => ?_))))))))))))
    ·
     refine c_reg (l_as rfl (l_as rfl (l_as rfl (l_end ?_))))
     exact c_ret (ret3 (v := Vn 0) (v' := Vi 0) (v'' := Vi 5) rfl rfl rfl rfl (fun w' hw => ⟨0, 0, 5, rfl, .inr ⟨by decide, rfl, rfl, by unfold pNum pRest; rw [e0, e1, if_neg (by omega), if_neg (by omega), if_pos (by omega)]; rfl⟩, hw.drop⟩))
    ·
     refine c_skipC (c_reg (l_as rfl (l_end (c_seq (c_reg (l_as rfl (l_end (c_block ?_))))))))
     refine c_loop1 (fun (j : Nat) => [(0, v), (1, Vj a), (7, Vj ((nth b a).toNat)), (8, Vn (beN ((((b.drop a).take (1 + (nth b a).toNat)).drop 1).take j))), (9, Vj (j + 1))]) (fun (j : Nat) => j ≤ (nth b a).toNat) (fun (j : Nat) => []) (fun (j : Nat) => (nth b a).toNat - j) (fun w' hw => ⟨0, ⟨rfl, rfl, rfl, rfl, rfl, trivial⟩, Nat.zero_le _, hw⟩) (fun j g hΦ => ?_)
     have hlt := beN_lt ((((b.drop a).take (1 + (nth b a).toNat)).drop 1).take j)
     have hlj : ((((b.drop a).take (1 + (nth b a).toNat)).drop 1).take j).length = j := by rw [List.length_take]; omega
     rw [hlj] at hlt
     refine c_seq (c_reg (l_mv rfl (l_mv rfl (l_leq rfl rfl rfl (l_end (c_dec rfl (fun c5 => ?_) (fun c5 => ?_)))))))
     ·
      have hp7 := pow256_le7 (k := j) (by omega)
      have hcl := (nth b (a + (j + 1))).toNat_lt
      refine c_skipC (c_seq (c_block (c_last (l_mv rfl (l_mul rfl rfl (wu64 (by omega)) rfl (l_mv rfl (l_mv rfl (l_mv rfl (l_add rfl rfl (wi64 (by omega)) rfl (a_idxP (pR hb) 1 (a + (j + 1)) rfl rfl rfl (by omega) rfl (a_ldBP (pR hb) (a + (j + 1)) rfl (by omega) (by omega) rfl (l_cvt (by kernel_rfl) rfl (wu64 (by omega)) rfl ?_ (by kernel_rfl)))))))))))))
      refine l_add rfl rfl (wu64 (by omega)) rfl (l_as rfl (l_end (c_last (l_mv rfl (l_add rfl rfl (wi64 (by omega)) rfl (l_as rfl ?_))))))
      exact l_nil (fun w' hw => ⟨j + 1, ⟨rfl, rfl, rfl, by rw [take_nth (by omega), beN_snoc, nth_drop, nth_take (by omega), nth_drop, show a + (1 + j) = a + (j + 1) by omega]; rfl, rfl, trivial⟩, (by omega), hw, (by omega)⟩)
     ·
      refine c_exitC rfl (c_reg (l_mv rfl (l_mv rfl (l_add rfl rfl (wi64 (by omega)) rfl (l_mv rfl (l_add rfl rfl (wi64 (by omega)) rfl (l_as rfl (l_as rfl (l_as rfl (l_end ?_))))))))))
      exact c_ret (ret3 (v := Vn (beN ((((b.drop a).take (1 + (nth b a).toNat)).drop 1).take j))) (v' := Vj ((a + 1) + ((nth b a).toNat))) (v'' := Vi 0) rfl rfl rfl rfl (fun w' hw => ⟨(beN ((((b.drop a).take (1 + (nth b a).toNat)).drop 1).take j)), (a + 1) + ((nth b a).toNat), 0, rfl, .inl ⟨rfl, by unfold pNum pRest; rw [e0, e1, if_neg (by omega), if_neg (by omega), if_neg (by omega), List.take_of_length_le (i := j) (by omega)]; simp [Nat.add_assoc]⟩, hw.drop⟩))

theorem rbytes_r (v : Value) (b : List UInt8) (a : Nat) (w : World) (hl : LenOk b.length) (ha : a ≤ b.length) (hb : Rd w [] (Res.sl v b.length (b.map vb))) : Rets Tryz.prog 155 #[v, Vj a] w fun u_ w' => ∃ (r : Value) (d : List UInt8) (k : Nat) (e : Int), u_ = .tuple #[r, Vj k, Vi e] ∧ BytesPost (pBytes b a) d k e ∧ Own w [] [Res.vec 5 1 r d.length (d.map vb)] w' := by
  refine fn_own Tryz.func155 rfl Tryz.ntmps155 (Own.start w) ?_
  refine c_reg (l_as rfl (l_as rfl (l_as rfl (l_end (c_reg (l_mv rfl (l_mv rfl (a_call rfl rfl (fun w' hw => (rnum_r v b a w' (by first | assumption | omega | (simp <;> omega) | (constructor <;> (first | omega | (simp only [LenOk]; omega) | (simp <;> omega)))) (by first | omega | (simp <;> omega)) (hw.rd0 hb)).mono ?_)))))))))
  rintro _ w1 ⟨n1_, k2_, e3_, rfl, hf1_2, hO⟩
  have hn := hf1_2
  refine (?_ : CL _ _ _ _ _ _ (Own w [] [])) w1 (hw.frame0 hO)
  refine l_mv rfl (l_ext (vs := [Vn n1_, Vj k2_, Vi e3_]) rfl rfl rfl (l_ext (vs := [Vn n1_, Vj k2_, Vi e3_]) rfl rfl rfl (l_ext (vs := [Vn n1_, Vj k2_, Vi e3_]) rfl rfl rfl (l_as rfl (l_as rfl (l_as rfl (l_end (c_seq (c_reg (l_mv rfl (l_ne rfl rfl rfl (l_end ?_))))))))))))
  refine c_dec rfl (fun c1 => ?_) (fun c1 => ?_)
  ·
   refine c_reg (l_mv rfl (l_as rfl (l_as rfl (l_as rfl (l_end ?_)))))
   exact c_ret (ret3 (v := .slice none 0 0) (v' := Vi 0) (v'' := Vi e3_) rfl rfl rfl rfl (fun w' hw => ⟨.slice none 0 0, [], 0, e3_, rfl, .inr ⟨c1, by unfold pBytes; rw [hn.no c1]; rfl⟩, own_nil hw.drop 5 1⟩))
  ·
   have hy := hn.yes (by omega)
   obtain ⟨hn1, hn2, hn3⟩ := pNum_some hy
   refine c_skipC (c_seq (c_reg (l_mv rfl (l_mv rfl (a_lenP (pR hb) rfl rfl (l_cvt (by kernel_rfl) rfl (wu64 (by omega)) rfl ?_ (by kernel_rfl)))))))
   refine l_gtr rfl rfl rfl (l_mv rfl (l_bor (q := ((b.length : Nat) : Int) < ((n1_ : Nat) : Int)) 7 5 [32, 31, 30, 29, 28, 27, 26] ((((b.length : Nat) : Int) - ((k2_ : Nat) : Int)) < ((n1_ : Nat) : Int)) rfl rfl rfl rfl rfl rfl trivial rfl (fun h4_5 => ?_) (fun g4_13 => ?_)))
   ·
    refine l_on rfl (gF h4_5) (l_mv rfl (l_on rfl (gF h4_5) (a_lenP (pR hb) rfl rfl (l_on rfl (gF h4_5) (l_mv rfl (l_on rfl (gF h4_5) (l_sub rfl rfl (wi64 (by omega)) rfl (l_on rfl (gF h4_5) (l_mv rfl (l_on rfl (gF h4_5) (l_cvt (by kernel_rfl) rfl (wi64 (by omega)) rfl ?_ (by kernel_rfl))))))))))))
    refine l_on rfl (gF h4_5) (l_lss rfl rfl rfl ?_)
    exact l_gp rfl (fun _ hw => hw)
   refine l_end (c_dec rfl (fun c2 => ?_) (fun c2 => ?_))
   ·
    refine c_reg (l_as rfl (l_as rfl (l_as rfl (l_end ?_))))
    exact c_ret (ret3 (v := .slice none 0 0) (v' := Vi 0) (v'' := Vi 5) rfl rfl rfl rfl (fun w' hw => ⟨.slice none 0 0, [], 0, 5, rfl, .inr ⟨by decide, by unfold pBytes; rw [hy]; simp only [Option.bind_some]; rw [if_pos (by omega)]⟩, own_nil hw.drop 5 1⟩))
   ·
    refine c_skipC (c_reg (l_bsl (e := 5) (sz := 1) (vs := []) (by kernel_rfl) rfl rfl (by simp [Value.cells]) (by decide) rfl (fun b34 => l_mv rfl (l_mv rfl (l_mv rfl (l_mv rfl (l_cvt (by kernel_rfl) rfl (wi64 (by omega)) rfl ?_ (by kernel_rfl))))))))
    refine l_add rfl rfl (wi64 (by omega)) rfl (l_slcP (pR hb) 1 k2_ (k2_ + n1_) (by kernel_rfl) rfl ⟨_, rfl⟩ ⟨_, rfl⟩ (by omega) (by omega) rfl ?_)
    have hs4_ := Rd.subL_m (g := vb) (xs := b)  hb (l := k2_) (h := k2_ + n1_) (by omega) (by omega)
    refine l_appM (l := ([] : List UInt8)) (l' := ((b.take (k2_ + n1_)).drop k2_)) 0 (by kernel_rfl) rfl rfl rfl (fun w' hw' => Own.rd hs4_ hw') (by first | omega | (simp; omega)) rfl (fun v42 => l_mv rfl (l_mv rfl (l_cvt (by kernel_rfl) rfl (wi64 (by omega)) rfl ?_ (by kernel_rfl))))
    refine l_add rfl rfl (wi64 (by omega)) rfl (l_as rfl (l_as rfl (l_as rfl (l_end ?_))))
    exact c_ret (ret3 (v := v42) (v' := Vj (k2_ + n1_)) (v'' := Vi 0) rfl rfl rfl rfl (fun w' hw => ⟨v42, ((b.take (k2_ + n1_)).drop k2_), k2_ + n1_, 0, rfl, .inl ⟨rfl, by unfold pBytes; rw [hy]; simp only [Option.bind_some]; rw [if_neg (by omega)]⟩, hw⟩))

theorem rinNum_s {S : List Nat} (o : Nat) (v : Value) (b : List UInt8) (a : Nat) (bad : Bool) (w : World) (hl : LenOk b.length) (ha : a ≤ b.length) (hin : Own w S [Res.row o 171 [v, Vj a, .bool bad]] w) (hb : Rd w S (Res.sl v b.length (b.map vb))) : Rets Tryz.prog 131 #[.pointer (some ⟨o, 0, none⟩)] w fun u_ w' => ∃ (n : Nat) (a' : Nat) (bad' : Bool), u_ = Vn n ∧ RdS pNum b a bad n a' bad' ∧ n < 18446744073709551616 ∧ Own w S [Res.row o 171 [v, Vj a', .bool bad']] w' := by
  refine fn_own Tryz.func131 rfl Tryz.ntmps131 hin ?_
  refine c_reg (l_as rfl (l_end (c_seq (c_reg (l_mv rfl (l_nck rfl rfl (a_fld (o := 2) rfl rfl (a_ldo 0 (v := .bool bad) rfl rfl rfl rfl (l_end (c_if rfl (fun c1 => ?_) (fun c1 => ?_)))))))))))
  ·
   refine c_reg (l_as rfl (l_end ?_))
   exact c_ret (ret1 (v := Vn 0) rfl rfl (fun w' hw => ⟨0, a, bad, rfl, RdS.badly c1 ha, (by omega), hw⟩))
  ·
   refine c_skipC (c_seq (c_heldo [0] rfl (by decide) (by kernel_rfl) (fun w' hw hS => g_tk 0 rfl (v_mv) hS (g_tk 1 rfl (v_nck rfl) hS (g_tk 2 rfl (w_fld (o := 0) rfl) hS (g_tk 3 rfl (w_ldo 0 (v := v) rfl rfl rfl) hS (g_tk 4 rfl (v_mv) hS (g_tk 5 rfl (v_nck rfl) hS (g_tk 6 rfl (w_fld (o := 1) rfl) hS (g_tk 7 rfl (w_ldo 0 (v := Vj a) rfl rfl rfl) hS (g_one 8 rfl hw (a_call rfl rfl (fun w' hw => ?_)))))))))))))
   refine (rnum_r v b a w' (by first | assumption | omega | (simp <;> omega) | (constructor <;> (first | omega | (simp only [LenOk]; omega) | (simp <;> omega)))) (by first | omega | (simp <;> omega)) (hw.rd0 hb)).mono ?_
   rintro _ w1 ⟨n1_, k2_, e3_, rfl, hf3_8, hO⟩
   refine (?_ : CL _ _ _ _ _ _ (Own w S [Res.row o 171 [v, Vj a, .bool bad]])) w1 (hw.frame0 hO)
   refine l_nilH [0] rfl (by decide) (fun w' hw hS => g_tk 9 rfl (v_mv) hS (g_tk 10 rfl (v_ext (vs := [Vn n1_, Vj k2_, Vi e3_]) rfl rfl) hS (g_tk 11 rfl (v_ext (vs := [Vn n1_, Vj k2_, Vi e3_]) rfl rfl) hS (g_tk 12 rfl (v_ext (vs := [Vn n1_, Vj k2_, Vi e3_]) rfl rfl) hS (g_tk 13 rfl (v_as) hS (g_tk 14 rfl (v_as) hS (g_tk 15 rfl (v_as) hS (g_done ?_))))))))
   refine (?_ : C _ _ _ _ _ _ _ (Own w S [Res.row o 171 [v, Vj a, .bool bad]])) _ hw
   refine c_seq (c_reg (l_mv rfl (l_ne rfl rfl rfl (l_end (c_dec rfl (fun c2 => ?_) (fun c2 => ?_))))))
   ·
    refine c_reg (l_mv rfl (l_nck rfl rfl (a_fld (o := 2) rfl rfl (a_st (cs := [v, Vj a, .bool bad]) 0 rfl rfl rfl rfl rfl (l_end (c_reg (l_as rfl (l_end ?_))))))))
    exact c_ret (ret1 (v := Vn 0) rfl rfl (fun w' hw => ⟨0, a, true, rfl, RdS.fail ha fun _ => hf3_8.no c2, (by omega), hw⟩))
   ·
    refine c_skipC (c_reg (l_mv rfl (l_mv rfl (l_nck rfl rfl (a_fld (o := 1) rfl rfl (a_st (cs := [v, Vj a, .bool bad]) 0 rfl rfl rfl rfl rfl (l_end (c_reg (l_mv rfl (l_as rfl (l_end ?_)))))))))))
    exact c_ret (ret1 (v := Vn n1_) rfl rfl (fun w' hw => ⟨n1_, k2_, bad, rfl, RdS.done (pNum_some (hf3_8.yes (by omega))).2.1 (hf3_8.yes (by omega)), (pNum_some (hf3_8.yes (by omega))).1, hw⟩))
theorem rinInt_s {S : List Nat} (o : Nat) (v : Value) (b : List UInt8) (a : Nat) (bad : Bool) (most : Nat) (w : World) (hl : LenOk b.length) (ha : a ≤ b.length) (hm : most ≤ 1000000) (hin : Own w S [Res.row o 171 [v, Vj a, .bool bad]] w) (hb : Rd w S (Res.sl v b.length (b.map vb))) : Rets Tryz.prog 132 #[.pointer (some ⟨o, 0, none⟩), Vn most] w fun u_ w' => ∃ (n : Nat) (a' : Nat) (bad' : Bool), u_ = Vj n ∧ RdS (pUpto most) b a bad n a' bad' ∧ n ≤ most ∧ Own w S [Res.row o 171 [v, Vj a', .bool bad']] w' := by
  refine fn_own Tryz.func132 rfl Tryz.ntmps132 hin ?_
  refine c_reg (l_as rfl (l_end (c_reg (l_mv rfl (a_call rfl rfl (fun w' hw => (rinNum_s o v b a bad w' (by first | assumption | omega | (simp <;> omega) | (constructor <;> (first | omega | (simp only [LenOk]; omega) | (simp <;> omega)))) (by first | omega | (simp <;> omega)) (hw.give [0] rfl (by decide)) (hw.rdTo hb [0] rfl)).mono ?_))))))
  rintro _ w1 ⟨n1_, a'2_, bad'3_, rfl, hf1_1, hf1_1_1, hO⟩
  have hq := hf1_1.le
  refine (?_ : CL _ _ _ _ _ _ (Own w S [Res.row o 171 [v, Vj a'2_, .bool bad'3_]])) w1 (hw.frameL [0] rfl hO)
  refine l_as rfl (l_end (c_seq (c_reg (l_mv rfl (l_mv rfl (l_gtr rfl rfl rfl (l_end (c_dec rfl (fun c1 => ?_) (fun c1 => ?_)))))))))
  ·
   refine c_reg (l_mv rfl (l_nck rfl rfl (a_fld (o := 2) rfl rfl (a_st (cs := [v, Vj a'2_, .bool bad'3_]) 0 rfl rfl rfl rfl rfl (l_end (c_reg (l_as rfl (l_end ?_))))))))
   exact c_ret (ret1 (v := Vi 0) rfl rfl (fun w' hw => ⟨0, a'2_, true, rfl, RdS.fail hq fun h0 => (by cases hp : pUpto most b a with | none => rfl | some q => obtain ⟨h1, h2⟩ := pUpto_some hp; obtain ⟨_, h3, _⟩ := hf1_1.ok q.1 q.2 h0 h1; omega), (by omega), hw⟩))
  ·
   refine c_skipC (c_reg (l_mv rfl (l_cvt (by kernel_rfl) rfl (wi64 (by omega)) rfl ?_ (by kernel_rfl))))
   refine l_as rfl (l_end ?_)
   exact c_ret (ret1 (v := Vj n1_) rfl rfl (fun w' hw => ⟨n1_, a'2_, bad'3_, rfl, ⟨hq, hf1_1.st, fun u k h0 h => hf1_1.ok u k h0 (pUpto_some h).1, fun h0 h => (by cases hp : pNum b a with | none => exact hf1_1.no h0 hp | some q => simp only [pUpto, hp, Option.bind_some] at h; obtain ⟨_, h3, _⟩ := hf1_1.ok q.1 q.2 h0 hp; rw [if_neg (by omega)] at h; cases h)⟩, (by omega), hw⟩))
theorem rinData_s {S : List Nat} (o : Nat) (v : Value) (b : List UInt8) (a : Nat) (bad : Bool) (w : World) (hl : LenOk b.length) (ha : a ≤ b.length) (hin : Own w S [Res.row o 171 [v, Vj a, .bool bad]] w) (hb : Rd w S (Res.sl v b.length (b.map vb))) : Rets Tryz.prog 133 #[.pointer (some ⟨o, 0, none⟩)] w fun u_ w' => ∃ (r : Value) (d : List UInt8) (a' : Nat) (bad' : Bool), u_ = r ∧ RdS pBytes b a bad d a' bad' ∧ d.length ≤ b.length ∧ Own w S [Res.row o 171 [v, Vj a', .bool bad'], Res.vec 5 1 r d.length (d.map vb)] w' := by
  refine fn_own Tryz.func133 rfl Tryz.ntmps133 hin ?_
  refine c_reg (l_as rfl (l_end (c_seq (c_reg (l_mv rfl (l_nck rfl rfl (a_fld (o := 2) rfl rfl (a_ldo 0 (v := .bool bad) rfl rfl rfl rfl (l_end (c_if rfl (fun c1 => ?_) (fun c1 => ?_)))))))))))
  ·
   refine c_reg (l_as rfl (l_end ?_))
   exact c_ret (ret1 (v := .slice none 0 0) rfl rfl (fun w' hw => ⟨.slice none 0 0, [], a, bad, rfl, RdS.badly c1 ha, (by simp), own_nil hw 5 1⟩))
  ·
   refine c_skipC (c_seq (c_heldo [0] rfl (by decide) (by kernel_rfl) (fun w' hw hS => g_tk 0 rfl (v_mv) hS (g_tk 1 rfl (v_nck rfl) hS (g_tk 2 rfl (w_fld (o := 0) rfl) hS (g_tk 3 rfl (w_ldo 0 (v := v) rfl rfl rfl) hS (g_tk 4 rfl (v_mv) hS (g_tk 5 rfl (v_nck rfl) hS (g_tk 6 rfl (w_fld (o := 1) rfl) hS (g_tk 7 rfl (w_ldo 0 (v := Vj a) rfl rfl rfl) hS (g_one 8 rfl hw (a_call rfl rfl (fun w' hw => ?_)))))))))))))
   refine (rbytes_r v b a w' (by first | assumption | omega | (simp <;> omega) | (constructor <;> (first | omega | (simp only [LenOk]; omega) | (simp <;> omega)))) (by first | omega | (simp <;> omega)) (hw.rd0 hb)).mono ?_
   rintro _ w1 ⟨r1_, d2_, k3_, e4_, rfl, hf3_8, hO⟩
   refine (?_ : CL _ _ _ _ _ _ (Own w S [Res.row o 171 [v, Vj a, .bool bad], Res.vec 5 1 r1_ d2_.length (d2_.map vb)])) w1 (hw.frame0 hO)
   refine l_nilH [0] rfl (by decide) (fun w' hw hS => g_tk 9 rfl (v_mv) hS (g_tk 10 rfl (v_ext (vs := [r1_, Vj k3_, Vi e4_]) rfl rfl) hS (g_tk 11 rfl (v_ext (vs := [r1_, Vj k3_, Vi e4_]) rfl rfl) hS (g_tk 12 rfl (v_ext (vs := [r1_, Vj k3_, Vi e4_]) rfl rfl) hS (g_tk 13 rfl (v_as) hS (g_tk 14 rfl (v_as) hS (g_tk 15 rfl (v_as) hS (g_done ?_))))))))
   refine (?_ : C _ _ _ _ _ _ _ (Own w S [Res.row o 171 [v, Vj a, .bool bad], Res.vec 5 1 r1_ d2_.length (d2_.map vb)])) _ hw
   refine c_seq (c_reg (l_mv rfl (l_ne rfl rfl rfl (l_end (c_dec rfl (fun c2 => ?_) (fun c2 => ?_))))))
   ·
    refine c_reg (l_mv rfl (l_nck rfl rfl (a_fld (o := 2) rfl rfl (a_st (cs := [v, Vj a, .bool bad]) 0 rfl rfl rfl rfl rfl (l_end (c_reg (l_as rfl (l_end ?_))))))))
    exact c_ret (ret1 (v := .slice none 0 0) rfl rfl (fun w' hw => ⟨.slice none 0 0, [], a, true, rfl, RdS.fail ha fun _ => hf3_8.no c2, (by simp), own_nil (hw.one 0 rfl) 5 1⟩))
   ·
    refine c_skipC (c_reg (l_mv rfl (l_mv rfl (l_nck rfl rfl (a_fld (o := 1) rfl rfl (a_st (cs := [v, Vj a, .bool bad]) 0 rfl rfl rfl rfl rfl (l_end (c_reg (l_mv rfl (l_as rfl (l_end ?_)))))))))))
    exact c_ret (ret1 (v := r1_) rfl rfl (fun w' hw => ⟨r1_, d2_, k3_, bad, rfl, RdS.done (pBytes_some (hf3_8.yes (by omega))).1 (hf3_8.yes (by omega)), (pBytes_some (hf3_8.yes (by omega))).2, hw⟩))
theorem rinIds_s {S : List Nat} (o : Nat) (v : Value) (b : List UInt8) (a : Nat) (bad : Bool) (w : World) (hl : LenOk b.length) (ha : a ≤ b.length) (hin : Own w S [Res.row o 171 [v, Vj a, .bool bad]] w) (hb : Rd w S (Res.sl v b.length (b.map vb))) : Rets Tryz.prog 151 #[.pointer (some ⟨o, 0, none⟩)] w fun u_ w' => ∃ (r : Value) (l : List Int) (a' : Nat) (bad' : Bool), u_ = r ∧ RdS pIds b a bad l a' bad' ∧ l.length ≤ 16 ∧ Own w S [Res.row o 171 [v, Vj a', .bool bad'], Res.vec 3 1 r l.length (l.flatMap I1)] w' := by
  refine fn_own Tryz.func151 rfl Tryz.ntmps151 hin ?_
  refine c_reg (l_as rfl (l_end (c_reg (l_as rfl (l_end (c_reg (l_mv rfl (a_call rfl rfl (fun w' hw => (rinInt_s o v b a bad 16 w' (by first | assumption | omega | (simp <;> omega) | (constructor <;> (first | omega | (simp only [LenOk]; omega) | (simp <;> omega)))) (by first | omega | (simp <;> omega)) (by first | omega | (simp <;> omega)) (hw.give [0] rfl (by decide)) (hw.rdTo hb [0] rfl)).mono ?_)))))))))
  rintro _ w1 ⟨n1_, a'2_, bad'3_, rfl, hf2_1, hf2_1_1, hO⟩
  refine (?_ : CL _ _ _ _ _ _ (Own w S [Res.row o 171 [v, Vj a'2_, .bool bad'3_]])) w1 (hw.frameL [0] rfl hO)
  refine l_as rfl (l_end (c_seq (c_reg (l_as rfl (l_end (c_block ?_))))))
  refine c_loop5 (fun (k : Nat) (lv : Value) (l : List Int) (a2 : Nat) (bad2 : Bool) => [(0, .pointer (some ⟨o, 0, none⟩)), (3, lv), (4, Vj n1_), (5, Vj k)]) (fun (k : Nat) (lv : Value) (l : List Int) (a2 : Nat) (bad2 : Bool) => (k ≤ n1_ ∧ l.length = k) ∧ RdS (pRep (pInt 16) k) b a'2_ bad'3_ l a2 bad2) (fun (k : Nat) (lv : Value) (l : List Int) (a2 : Nat) (bad2 : Bool) => [Res.row o 171 [v, Vj a2, .bool bad2], Res.vec 3 1 lv l.length (l.flatMap I1)]) (fun (k : Nat) (lv : Value) (l : List Int) (a2 : Nat) (bad2 : Bool) => n1_ - k) (fun w' hw => ⟨0, .slice none 0 0, [], a'2_, bad'3_, ⟨rfl, rfl, rfl, rfl, trivial⟩, ⟨⟨Nat.zero_le _, rfl⟩, RdS.pure _ hf2_1.le⟩, own_nil hw 3 1⟩) (fun k lv l a2 bad2 g hΦ => ?_)
  have ha2 := hΦ.2.le
  have hlk := hΦ.1.2
  refine c_seq (c_reg (l_mv rfl (l_mv rfl (l_lss rfl rfl rfl (l_mv rfl (l_band (q := ((k : Nat) : Int) < ((n1_ : Nat) : Int)) 5 3 [17, 16, 15, 14, 13] ((!bad2) = true) rfl rfl rfl rfl rfl rfl trivial rfl (fun h4_3 => ?_) (fun g4_9 => ?_)))))))
  ·
   refine l_on rfl (gT h4_3) (l_mv rfl (l_on rfl (gT h4_3) (l_nck rfl rfl (l_on rfl (gT h4_3) (a_fld (o := 2) rfl rfl (l_on rfl (gT h4_3) (a_ldo 0 (v := .bool bad2) rfl rfl rfl rfl (l_on rfl (gT h4_3) (l_not (b := bad2) rfl rfl ?_)))))))))
   exact l_gp (bool_dec _) (fun _ hw => hw)
  refine l_end (c_dec rfl (fun c1 => ?_) (fun c1 => ?_))
  ·
   refine c_skipC (c_seq (c_block (c_reg (l_mv rfl (a_call rfl rfl (fun w' hw => (rinInt_s o v b a2 bad2 16 w' (by first | assumption | omega | (simp <;> omega) | (constructor <;> (first | omega | (simp only [LenOk]; omega) | (simp <;> omega)))) (by first | omega | (simp <;> omega)) (by first | omega | (simp <;> omega)) (hw.give [0] rfl (by decide)) (hw.rdTo hb [0] rfl)).mono ?_))))))
   rintro _ w1 ⟨n4_, a'5_, bad'6_, rfl, hf6_1, hf6_1_1, hO⟩
   refine (?_ : CL _ _ _ _ _ _ (Own w S [Res.vec 3 1 lv l.length (l.flatMap I1), Res.row o 171 [v, Vj a'5_, .bool bad'6_]])) w1 (hw.frameL [0] rfl hO)
   refine l_as rfl (l_end (c_last (l_mv rfl (l_mv rfl (l_bsl (e := 3) (sz := 1) (vs := [Vj n4_]) (by kernel_rfl) rfl rfl (by simp [Value.cells]) (by decide) rfl (fun b25 => l_appF (g := I1) (sz := 1) (by' := 8) (fun _ => rfl) (l := l) (l' := [((n4_ : Nat) : Int)]) (by simp [cell1, I1]) 0 (by kernel_rfl) rfl rfl rfl (fun w' hw' => Vec.sl (Own.holds hw' 2 _ rfl)) (by first | omega | (simp; omega)) (by decide) rfl (fun v26 => l_as rfl (l_end (c_last (l_mv rfl (l_add rfl rfl (wi64 (by omega)) rfl (l_as rfl ?_))))))))))))
   exact l_nil (fun w' hw => ⟨k + 1, v26, l ++ [((n4_ : Nat) : Int)], a'5_, bad'6_, ⟨rfl, rfl, rfl, rfl, trivial⟩, ⟨⟨by omega, by simp [hlk]⟩, hΦ.2.snoc (RdS.map (fun n : Nat => (n : Int)) hf6_1)⟩, hw.sel [1, 0] rfl (by decide), (by omega)⟩)
  ·
   refine c_exitC rfl (c_reg (l_mv rfl (l_as rfl (l_end ?_))))
   exact c_ret (ret1 (v := lv) rfl rfl (fun w' hw => ⟨lv, l, a2, bad2, rfl, ids_end2 hf2_1 hΦ.2 c1 (by omega), (by omega), hw⟩))
theorem whole_s {S : List Nat} (o : Nat) (v : Value) (b : List UInt8) (a : Nat) (bad : Bool) (w : World) (hl : LenOk b.length) (hin : Own w S [Res.row o 171 [v, Vj a, .bool bad]] w) (hb : Rd w S (Res.sl v b.length (b.map vb))) : Rets Tryz.prog 98 #[.pointer (some ⟨o, 0, none⟩)] w fun u_ w' => u_ = .bool (decide (bad = false ∧ a = b.length)) ∧ Own w S [Res.row o 171 [v, Vj a, .bool bad]] w' := by
  refine fn_own Tryz.func98 rfl Tryz.ntmps98 hin ?_
  refine c_reg (l_as rfl (l_end (c_quiets (by kernel_rfl) (by kernel_rfl) (q_val rfl (v_mv) (q_val rfl (v_nck rfl) (q_val rfl (w_fld (o := 2) rfl) (q_val rfl (w_ldo 0 (v := .bool bad) rfl rfl rfl) (q_val rfl (v_not (b := bad) rfl) (q_val rfl (v_mv) (q_band (q := (!bad) = true) 10 5 [18, 17, 16, 15, 14, 13, 12, 11, 10, 9] (((a : Nat) : Int) = ((b.length : Nat) : Int)) rfl rfl (bool_dec _) rfl rfl rfl trivial rfl (fun h1_5 => ?_) (fun g1_16 => ?_)))))))))))
  ·
   refine q_on rfl (bT h1_5) (q_val rfl (v_mv) (q_on rfl (bT h1_5) (q_val rfl (v_nck rfl) (q_on rfl (bT h1_5) (q_val rfl (w_fld (o := 1) rfl) (q_on rfl (bT h1_5) (q_val rfl (w_ldo 0 (v := Vj a) rfl rfl rfl) (q_on rfl (bT h1_5) (q_val rfl (v_mv) (q_on rfl (bT h1_5) (q_val rfl (v_nck rfl) (q_on rfl (bT h1_5) ?_))))))))))))
   refine q_val rfl (w_fld (o := 0) rfl) (q_on rfl (bT h1_5) (q_val rfl (w_ldo 0 (v := v) rfl rfl rfl) (q_on rfl (bT h1_5) (q_val rfl (w_lenP (pR hb) rfl) (q_on rfl (bT h1_5) (q_val rfl (v_eq rfl rfl) ?_))))))
   exact q_gp rfl
  refine q_val rfl (v_as) (q_end ?_)
  exact c_ret (ret1 (v := .bool (decide (((!bad) = true) ∧ (((a : Nat) : Int) = ((b.length : Nat) : Int))))) rfl rfl (fun w' hw => ⟨(by cases bad <;> simp_all; omega), hw⟩))
end Go.Proofs.YthincafbmpialaaGreat
