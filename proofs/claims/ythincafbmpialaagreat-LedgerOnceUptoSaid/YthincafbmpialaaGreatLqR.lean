/-
  THE WALKS OF the reference's tables of budgets and leases.
-/
import Derived.Test.YthincafbmpialaaGreatQuotaW
set_option linter.unusedVariables false
set_option maxRecDepth 10000
namespace Go.Proofs.YthincafbmpialaaGreat
open Go Go.Sc Go.Proofs

theorem budOf_step {key : ByteArray} {bs : List BudD} {k : Nat} (hn : (bs.map (·.key)).Nodup) (hk : k < bs.length) : budOf key (bs.take (k + 1)) = if (nth bs k).key = key then (nth bs k).amount else budOf key (bs.take k) := by
  have hn' : KNd (KB (bs.take (k + 1))) := KB_nd (hn.sublist ((List.take_sublist _ _).map _))
  unfold budOf
  rw [take_nth hk] at hn' ⊢
  have e : KB (bs.take k ++ [nth bs k]) = KB (bs.take k) ++ [((nth bs k).key, (nth bs k).amount)] := by unfold KB; rw [List.map_append]; rfl
  rw [e] at hn' ⊢
  have hp := (List.perm_append_comm : (KB (bs.take k) ++ [((nth bs k).key, (nth bs k).amount)]).Perm _)
  rw [getA_perm hn' hp]
  show (getA key (((nth bs k).key, (nth bs k).amount) :: KB (bs.take k))).getD 0 = _
  show (if key = (nth bs k).key then some (nth bs k).amount else getA key (KB (bs.take k))).getD 0 = _
  by_cases c : key = (nth bs k).key
  · rw [if_pos c, if_pos c.symm]; rfl
  · rw [if_neg c, if_neg fun q => c q.symm]
theorem lentW_yes {key : ByteArray} {ls : List LeaD} {k : Nat} {n : Int} (h : n = lentW key (ls.take k)) (hk : k < ls.length) (hy : (nth ls k).key = key) : IntKind.i64.wrap (n + (nth ls k).amount) = lentW key (ls.take (k + 1)) := by
  rw [h, take_nth hk]; unfold lentW; rw [wrap_add, lentS_app]; simp only [lentS, if_pos hy, Int.add_zero]
theorem lentW_no {key : ByteArray} {ls : List LeaD} {k : Nat} {n : Int} (h : n = lentW key (ls.take k)) (hk : k < ls.length) (hy : ¬ (nth ls k).key = key) : n = lentW key (ls.take (k + 1)) := by
  rw [h, take_nth hk]; unfold lentW; rw [lentS_app]; simp only [lentS, if_neg hy, Int.add_zero]
theorem insF_step {key : ByteArray} {a : Int} {bs : List BudD} {k : Nat} {q q0 : Bool × List BudD} (h : q = (bs.take k).foldl (insF key a) q0) (hk : k < bs.length) : insF key a q (nth bs k) = (bs.take (k + 1)).foldl (insF key a) q0 := by
  rw [take_nth hk, List.foldl_append, h]; rfl
theorem setE_arg {k : ByteArray} {a : Int} {bs : List BudD} (h : ¬ keyOk k ∨ a < 0) : setE k a bs = 1 := if_pos h
theorem setE_full {k : ByteArray} {a : Int} {bs : List BudD} (h : ¬ (¬ keyOk k ∨ a < 0)) (h2 : (budOf k bs = 0 ∧ 0 < a) ∧ 64 ≤ ((bs.length : Nat) : Int)) : setE k a bs = 7 := by
  unfold setE; rw [if_neg h, if_pos ⟨h2.1.1, h2.1.2, by omega⟩]
theorem setE_ok {k : ByteArray} {a : Int} {bs : List BudD} (h : ¬ (¬ keyOk k ∨ a < 0)) (h2 : ¬ ((budOf k bs = 0 ∧ 0 < a) ∧ 64 ≤ ((bs.length : Nat) : Int))) : setE k a bs = 0 := by
  unfold setE; rw [if_neg h, if_neg fun q => h2 ⟨⟨q.1, q.2.1⟩, by omega⟩]
theorem setB_err {k : ByteArray} {a e : Int} {bs : List BudD} (h : setE k a bs = e) (he : e ≠ 0) : bs = setB k a bs := by
  unfold setB; rw [if_neg (by rw [h]; exact he)]
theorem setB_end {k : ByteArray} {a : Int} {bs os : List BudD} {p : Bool} {i : Nat} (h : setE k a bs = 0) (hI : (p, os) = (bs.take i).foldl (insF k a) (decide (a = 0), [])) (hi : bs.length ≤ i) : os ++ (if p = false then [⟨k, a⟩] else []) = setB k a bs := by
  rw [List.take_of_length_le hi] at hI
  unfold setB insB
  rw [if_pos h, ← hI]
theorem ins1 {k : ByteArray} {a : Int} {p : Bool} {os : List BudD} {b : BudD} (h1 : p = false ∧ sLe k b.key) (h2 : b.key ≠ k) : (true, os ++ [⟨k, a⟩] ++ [b]) = insF k a (p, os) b := by
  unfold insF; simp only [if_pos h1, if_pos h2, decide_eq_true h1.2, Bool.or_true]
theorem ins2 {k : ByteArray} {a : Int} {p : Bool} {os : List BudD} {b : BudD} (h1 : p = false ∧ sLe k b.key) (h2 : ¬ b.key ≠ k) : (true, os ++ [⟨k, a⟩]) = insF k a (p, os) b := by
  unfold insF; simp only [if_pos h1, if_neg h2, decide_eq_true h1.2, Bool.or_true, List.append_nil]
theorem notT {p : Bool} (h : (!p) = true) : p = false := by cases p <;> simp_all
theorem notT' {p : Bool} (h : p = false) : (!p) = true := by rw [h]; rfl
theorem insP {p : Bool} {q : Prop} [Decidable q] (h1 : ¬ (p = false ∧ q)) : p = (p || decide q) := by
  cases p with
  | true => rfl
  | false => rw [decide_eq_false fun h => h1 ⟨rfl, h⟩]; rfl
theorem ins3 {k : ByteArray} {a : Int} {p : Bool} {os : List BudD} {b : BudD} (h1 : ¬ (p = false ∧ sLe k b.key)) (h2 : b.key ≠ k) : (p, os ++ [b]) = insF k a (p, os) b := by
  unfold insF; simp only [if_neg h1, if_pos h2, List.append_nil, ← insP h1]
theorem ins4 {k : ByteArray} {a : Int} {p : Bool} {os : List BudD} {b : BudD} (h1 : ¬ (p = false ∧ sLe k b.key)) (h2 : ¬ b.key ≠ k) : (p, os) = insF k a (p, os) b := by
  unfold insF; simp only [if_neg h1, if_neg h2, List.append_nil, ← insP h1]
theorem larg' {s : Nat} {k : ByteArray} {a sp : Int} : ((((((s : Nat) : Int) = ((0 : Nat) : Int)) ∨ ¬ keyOk k) ∨ a < 1) ∨ sp < 1) ∨ 1099511627776 < sp ↔ lendArg s k a sp := by
  rw [← larg, or_assoc]
  refine or_congr Iff.rfl ?_
  unfold spanOk; omega
section
variable {s : Nat} {k : ByteArray} {a sp : Int} {bs : List BudD} {ls : List LeaD}
theorem lend1R (h : lendArg s k a sp) : lendE s k a sp bs ls = 1 := if_pos h
theorem lend8R (h : ¬ lendArg s k a sp) (h2 : budOf k bs = 0) : lendE s k a sp bs ls = 8 := by
  unfold lendE; rw [if_neg h, if_pos h2]
theorem lend3R (h : ¬ lendArg s k a sp) (h2 : ¬ budOf k bs = 0) (h3 : 9223372036854775807 < lentW k ls + a) : lendE s k a sp bs ls = 3 := by
  unfold lendE; rw [if_neg h, if_neg h2, if_pos h3]
theorem lend16R (h : ¬ lendArg s k a sp) (h2 : ¬ budOf k bs = 0) (h3 : ¬ 9223372036854775807 < lentW k ls + a) (h4 : budOf k bs < lentW k ls + a) : lendE s k a sp bs ls = 16 := by
  unfold lendE; rw [if_neg h, if_neg h2, if_neg h3, if_pos h4]
theorem lend7R (h : ¬ lendArg s k a sp) (h2 : ¬ budOf k bs = 0) (h3 : ¬ 9223372036854775807 < lentW k ls + a) (h4 : ¬ budOf k bs < lentW k ls + a) (h5 : 128 ≤ ((ls.length : Nat) : Int)) : lendE s k a sp bs ls = 7 := by
  unfold lendE; rw [if_neg h, if_neg h2, if_neg h3, if_neg h4, if_pos (by omega)]
theorem lend0R (h : ¬ lendArg s k a sp) (h2 : ¬ budOf k bs = 0) (h3 : ¬ 9223372036854775807 < lentW k ls + a) (h4 : ¬ budOf k bs < lentW k ls + a) (h5 : ¬ 128 ≤ ((ls.length : Nat) : Int)) : lendE s k a sp bs ls = 0 := by
  unfold lendE; rw [if_neg h, if_neg h2, if_neg h3, if_neg h4, if_neg (by omega)]
theorem lend_sumR {n m e : Int} (h : (9223372036854775807 < n + a ∧ e = 3 ∧ m = 0) ∨ (n + a ≤ 9223372036854775807 ∧ e = 0 ∧ m = n + a)) :
    (9223372036854775807 < n + a ∧ e = 3) ∨ (¬ 9223372036854775807 < n + a ∧ e = 0 ∧ m = n + a) := by omega
theorem lend_of3R {n m e : Int} (h : (9223372036854775807 < n + a ∧ e = 3) ∨ (¬ 9223372036854775807 < n + a ∧ e = 0 ∧ m = n + a)) (he : e ≠ 0) : 9223372036854775807 < n + a ∧ e = 3 := by
  rcases h with h | h
  · exact h
  · exact absurd h.2.1 he
theorem lend_of0R {n m e : Int} (h : (9223372036854775807 < n + a ∧ e = 3) ∨ (¬ 9223372036854775807 < n + a ∧ e = 0 ∧ m = n + a)) (he : ¬ e ≠ 0) : ¬ 9223372036854775807 < n + a ∧ m = n + a := by omega
end
theorem rpass_err {now n e : Int} {ls : List LeaD} (h : passE now n = e) (he : e ≠ 0) : e = passE now n ∧ now = passN now n ∧ ls = passL now n ls ∧ [] = passG now n ls := by
  have h0 : ¬ passE now n = 0 := by rw [h]; exact he
  exact ⟨h.symm, (if_neg h0).symm, (if_neg h0).symm, (if_neg h0).symm⟩
theorem due_step {t : Int} {ls : List LeaD} {k : Nat} (hk : k < ls.length) (h : (nth ls k).until_ ≤ t) : ((ls.take k).filter (dueL t)).map (·.id) ++ [(nth ls k).id] = ((ls.take (k + 1)).filter (dueL t)).map (·.id) ∧ (ls.take k).filter (fun l => !dueL t l) = (ls.take (k + 1)).filter (fun l => !dueL t l) := by
  rw [take_nth hk, List.filter_append, List.filter_append, List.filter_cons_of_pos (by simpa [dueL] using h), List.filter_cons_of_neg (by simpa [dueL] using h)]
  simp
theorem due_stay {t : Int} {ls : List LeaD} {k : Nat} (hk : k < ls.length) (h : ¬ (nth ls k).until_ ≤ t) : ((ls.take k).filter (dueL t)).map (·.id) = ((ls.take (k + 1)).filter (dueL t)).map (·.id) ∧ (ls.take k).filter (fun l => !dueL t l) ++ [nth ls k] = (ls.take (k + 1)).filter (fun l => !dueL t l) := by
  rw [take_nth hk, List.filter_append, List.filter_append, List.filter_cons_of_neg (by simpa [dueL] using h), List.filter_cons_of_pos (by simpa [dueL] using h)]
  simp
theorem due_len (p : LeaD → Bool) (ls : List LeaD) (k : Nat) : ((ls.take k).filter p).length ≤ ls.length := Nat.le_trans (List.length_filter_le _ _) (List.length_take_le' _ _)
theorem rkeyed_s (k : ByteArray) (w : World) : Rets Tryz.prog 67 #[.string k] w fun u_ w' => u_ = .bool (decide (keyOk k)) ∧ Own w [] [] w' := by
  refine fn_own Tryz.func67 rfl Tryz.ntmps67 (Own.start w) ?_
  refine c_reg (l_as rfl (l_end (c_reg (l_mv rfl (l_lens (by kernel_rfl) rfl rfl (l_geq rfl rfl rfl (l_mv rfl (l_band (q := 1 ≤ ((k.size : Nat) : Int)) 3 3 [9, 8, 7] (((k.size : Nat) : Int) ≤ 64) rfl rfl rfl rfl rfl rfl trivial rfl (fun h1_3 => ?_) (fun g1_7 => ?_)))))))))
  ·
   refine l_on rfl (gT h1_3) (l_mv rfl (l_on rfl (gT h1_3) (l_lens (by kernel_rfl) rfl rfl (l_on rfl (gT h1_3) (l_leq rfl rfl rfl ?_)))))
   exact l_gp rfl (fun _ hw => hw)
  refine l_as rfl (l_end ?_)
  exact c_ret (ret1 (v := .bool (decide ((1 ≤ ((k.size : Nat) : Int)) ∧ (((k.size : Nat) : Int) ≤ 64)))) rfl rfl (fun w' hw => ⟨(by congr 1; exact decide_eq_decide.2 (by unfold keyOk; omega)), hw.drop⟩))
theorem radd_s (a c : Int) (w : World) (ha : 0 ≤ a ∧ a ≤ 9223372036854775807) (hc : 0 ≤ c ∧ c ≤ 9223372036854775807) : Rets Tryz.prog 68 #[Vi a, Vi c] w fun u_ w' => ∃ (n e : Int), u_ = .tuple #[Vi n, Vi e] ∧ ((9223372036854775807 < a + c ∧ e = 3 ∧ n = 0) ∨ (a + c ≤ 9223372036854775807 ∧ e = 0 ∧ n = a + c)) ∧ Own w [] [] w' := by
  refine fn_own Tryz.func68 rfl Tryz.ntmps68 (Own.start w) ?_
  refine c_reg (l_as rfl (l_as rfl (l_end (c_seq (c_reg (l_mv rfl (l_geq rfl rfl rfl (l_mv rfl (l_band (q := 0 ≤ c) 4 2 [12, 11, 10, 9] ((9223372036854775807 - c) < a) rfl rfl rfl rfl rfl rfl trivial rfl (fun h1_2 => ?_) (fun g1_7 => ?_))))))))))
  ·
   refine l_on rfl (gT h1_2) (l_mv rfl (l_on rfl (gT h1_2) (l_mv rfl (l_on rfl (gT h1_2) (l_sub rfl rfl (wi64 (by omega)) rfl (l_on rfl (gT h1_2) (l_gtr rfl rfl rfl ?_)))))))
   exact l_gp rfl (fun _ hw => hw)
  refine l_mv rfl (l_bor (q := (0 ≤ c) ∧ ((9223372036854775807 - c) < a)) 8 8 [22, 21, 20, 19, 18, 17, 16, 15] ((c < 0) ∧ (a < ((-9223372036854775808) - c))) rfl rfl rfl rfl rfl rfl trivial rfl (fun h1_8 => ?_) (fun g1_17 => ?_))
  ·
   refine l_on rfl (gF h1_8) (l_mv rfl (l_on rfl (gF h1_8) (l_lss rfl rfl rfl (l_on rfl (gF h1_8) (l_mv rfl (l_band (q := c < 0) 4 11 [21, 20, 19, 18] (a < ((-9223372036854775808) - c)) rfl rfl rfl rfl rfl rfl ⟨_, rfl, rfl, gF h1_8⟩ rfl (fun h1_11 => ?_) (fun g1_16 => ?_)))))))
   ·
    refine l_on rfl (gT h1_11) (l_mv rfl (l_on rfl (gT h1_11) (l_mv rfl (l_on rfl (gT h1_11) (l_sub rfl rfl (wi64 (by omega)) rfl (l_on rfl (gT h1_11) (l_lss rfl rfl rfl ?_)))))))
    exact l_gp rfl (fun _ hw => hw)
   exact l_gp rfl (fun _ hw => hw)
  refine l_end (c_dec rfl (fun c1 => ?_) (fun c1 => ?_))
  ·
   refine c_reg (l_as rfl (l_as rfl (l_end ?_)))
   exact c_ret (ret2 (v := Vi 0) (v' := Vi 3) rfl rfl rfl (fun w' hw => ⟨0, 3, rfl, .inl ⟨by omega, rfl, rfl⟩, hw.drop⟩))
  ·
   refine c_skipC (c_reg (l_mv rfl (l_mv rfl (l_add rfl rfl (wi64 (by omega)) rfl (l_as rfl (l_as rfl (l_end ?_)))))))
   exact c_ret (ret2 (v := Vi (a + c)) (v' := Vi 0) rfl rfl rfl (fun w' hw => ⟨a + c, 0, rfl, .inr ⟨by omega, rfl, rfl⟩, hw.drop⟩))
theorem rlent_s {S : List Nat} (wb te : Nat) (xs : List Value) (now : Int) (cnt : Nat) (bv lv : Value) (bs : List BudD) (ls : List LeaD) (k : ByteArray) (w : World) (ho : QOk now cnt bs ls) (hin : Own w S [Res.row wb te (Vi now :: Vn cnt :: bv :: lv :: xs), Res.vec 93 2 bv bs.length (bs.flatMap BudD.cells), Res.vec 76 5 lv ls.length (ls.flatMap LeaD.cells)] w) : Rets Tryz.prog 37 #[.pointer (some ⟨wb, 0, none⟩), .string k] w fun u_ w' => u_ = .tuple #[Vi (budOf k bs), Vi (lentW k ls)] ∧ Own w S [Res.row wb te (Vi now :: Vn cnt :: bv :: lv :: xs), Res.vec 93 2 bv bs.length (bs.flatMap BudD.cells), Res.vec 76 5 lv ls.length (ls.flatMap LeaD.cells)] w' := by
  have hbl := ho.blen
  have hll := ho.llen
  refine fn_own Tryz.func37 rfl Tryz.ntmps37 hin ?_
  refine c_reg (l_as rfl (l_as rfl (l_end (c_reg (l_as rfl (l_end (c_seq (c_reg (l_as rfl (l_end (c_block ?_)))))))))))
  refine c_loop2 (fun (i : Nat) (n : Int) => [(0, .pointer (some ⟨wb, 0, none⟩)), (1, .string k), (6, Vi n), (7, Vj i)]) (fun (i : Nat) (n : Int) => i ≤ bs.length ∧ n = budOf k (bs.take i)) (fun (i : Nat) (n : Int) => [Res.row wb te (Vi now :: Vn cnt :: bv :: lv :: xs), Res.vec 93 2 bv bs.length (bs.flatMap BudD.cells), Res.vec 76 5 lv ls.length (ls.flatMap LeaD.cells)]) (fun (i : Nat) (n : Int) => bs.length - i) (fun w' hw => ⟨0, 0, ⟨rfl, rfl, rfl, rfl, trivial⟩, ⟨Nat.zero_le _, rfl⟩, hw⟩) (fun i n g hΦ => ?_)
  have hi := hΦ.1
  have hn := hΦ.2
  refine c_seq (c_reg (l_mv rfl (l_mv rfl (l_nck rfl rfl (a_fld (o := 2) rfl rfl (a_ldo 0 (v := bv) rfl rfl rfl rfl (a_lenP (pV 1 rfl) rfl rfl (l_lss rfl rfl rfl (l_end (c_dec rfl (fun c1 => ?_) (fun c1 => ?_)))))))))))
  ·
   refine c_skipC (c_seq (c_block (c_reg (l_mv rfl (l_nck rfl rfl (a_fld (o := 2) rfl rfl (a_ldo 0 (v := bv) rfl rfl rfl rfl (l_mv rfl (a_idxP (pV 1 rfl) 2 i rfl rfl rfl (by omega) rfl (a_fld (o := 0) rfl rfl (a_ldP (pV 1 rfl) 2 i 0 (off := offV bv + i * 2 + 0) (fun _ => rfl) rfl (by omega) (by omega) rfl rfl (l_mv rfl ?_))))))))))))
   refine l_seq rfl rfl rfl (l_end (c_dec rfl (fun c2 => ?_) (fun c2 => ?_)))
   ·
    refine c_last (l_mv rfl (l_nck rfl rfl (a_fld (o := 2) rfl rfl (a_ldo 0 (v := bv) rfl rfl rfl rfl (l_mv rfl (a_idxP (pV 1 rfl) 2 i rfl rfl rfl (by omega) rfl (a_fld (o := 1) rfl rfl (a_ldP (pV 1 rfl) 2 i 1 (off := offV bv + i * 2 + 1) (fun _ => rfl) rfl (by omega) (by omega) rfl rfl (l_as rfl (l_end (c_last (l_mv rfl ?_))))))))))))
    refine l_add rfl rfl (wi64 (by omega)) rfl (l_as rfl ?_)
    exact l_nil (fun w' hw => ⟨i + 1, (nth bs i).amount, ⟨rfl, rfl, rfl, rfl, trivial⟩, ⟨by omega, by rw [budOf_step ho.bnd (by omega), if_pos c2]⟩, hw, (by omega)⟩)
   ·
    refine c_skipC (c_last (l_mv rfl (l_add rfl rfl (wi64 (by omega)) rfl (l_as rfl ?_))))
    exact l_nil (fun w' hw => ⟨i + 1, n, ⟨rfl, rfl, rfl, rfl, trivial⟩, ⟨by omega, by rw [budOf_step ho.bnd (by omega), if_neg c2]; exact hn⟩, hw, (by omega)⟩)
  ·
   refine c_exitC rfl (c_reg (l_as rfl (l_end (c_seq (c_reg (l_as rfl (l_end (c_block ?_))))))))
   refine c_loop2 (fun (j : Nat) (m : Int) => [(0, .pointer (some ⟨wb, 0, none⟩)), (1, .string k), (6, Vi n), (8, Vi m), (9, Vj j)]) (fun (j : Nat) (m : Int) => j ≤ ls.length ∧ m = lentW k (ls.take j)) (fun (j : Nat) (m : Int) => [Res.row wb te (Vi now :: Vn cnt :: bv :: lv :: xs), Res.vec 93 2 bv bs.length (bs.flatMap BudD.cells), Res.vec 76 5 lv ls.length (ls.flatMap LeaD.cells)]) (fun (j : Nat) (m : Int) => ls.length - j) (fun w' hw => ⟨0, 0, ⟨rfl, rfl, rfl, rfl, rfl, trivial⟩, ⟨Nat.zero_le _, rfl⟩, hw⟩) (fun j m g hΦ => ?_)
   have hj := hΦ.1
   have hm := hΦ.2
   refine c_seq (c_reg (l_mv rfl (l_mv rfl (l_nck rfl rfl (a_fld (o := 3) rfl rfl (a_ldo 0 (v := lv) rfl rfl rfl rfl (a_lenP (pV 2 rfl) rfl rfl (l_lss rfl rfl rfl (l_end (c_dec rfl (fun c3 => ?_) (fun c3 => ?_)))))))))))
   ·
    refine c_skipC (c_seq (c_block (c_reg (l_mv rfl (l_nck rfl rfl (a_fld (o := 3) rfl rfl (a_ldo 0 (v := lv) rfl rfl rfl rfl (l_mv rfl (a_idxP (pV 2 rfl) 5 j rfl rfl rfl (by omega) rfl (a_fld (o := 2) rfl rfl (a_ldP (pV 2 rfl) 5 j 2 (off := offV lv + j * 5 + 2) (fun _ => rfl) rfl (by omega) (by omega) rfl rfl (l_mv rfl ?_))))))))))))
    refine l_seq rfl rfl rfl (l_end (c_dec rfl (fun c4 => ?_) (fun c4 => ?_)))
    ·
     refine c_last (l_mv rfl (l_mv rfl (l_nck rfl rfl (a_fld (o := 3) rfl rfl (a_ldo 0 (v := lv) rfl rfl rfl rfl (l_mv rfl (a_idxP (pV 2 rfl) 5 j rfl rfl rfl (by omega) rfl (a_fld (o := 3) rfl rfl (a_ldP (pV 2 rfl) 5 j 3 (off := offV lv + j * 5 + 3) (fun _ => rfl) rfl (by omega) (by omega) rfl rfl (l_add (c := IntKind.i64.wrap (m + (nth ls j).amount)) rfl rfl rfl rfl (l_as rfl (l_end ?_))))))))))))
     refine c_last (l_mv rfl (l_add rfl rfl (wi64 (by omega)) rfl (l_as rfl ?_)))
     exact l_nil (fun w' hw => ⟨j + 1, IntKind.i64.wrap (m + (nth ls j).amount), ⟨rfl, rfl, rfl, rfl, rfl, trivial⟩, ⟨by omega, lentW_yes hm (by omega) c4⟩, hw, (by omega)⟩)
    ·
     refine c_skipC (c_last (l_mv rfl (l_add rfl rfl (wi64 (by omega)) rfl (l_as rfl ?_))))
     exact l_nil (fun w' hw => ⟨j + 1, m, ⟨rfl, rfl, rfl, rfl, rfl, trivial⟩, ⟨by omega, lentW_no hm (by omega) c4⟩, hw, (by omega)⟩)
   ·
    refine c_exitC rfl (c_reg (l_mv rfl (l_mv rfl (l_as rfl (l_as rfl (l_end ?_))))))
    exact c_ret (ret2 (v := Vi n) (v' := Vi m) rfl rfl rfl (fun w' hw => ⟨(by rw [hn, hm, List.take_of_length_le (by omega), List.take_of_length_le (by omega)]), hw⟩))
theorem rset_s {S : List Nat} (wb te : Nat) (xs : List Value) (now : Int) (cnt : Nat) (bv lv : Value) (bs : List BudD) (ls : List LeaD) (k : ByteArray) (a : Int) (w : World) (ho : QOk now cnt bs ls) (hin : Own w S [Res.row wb te (Vi now :: Vn cnt :: bv :: lv :: xs), Res.vec 93 2 bv bs.length (bs.flatMap BudD.cells), Res.vec 76 5 lv ls.length (ls.flatMap LeaD.cells)] w) : Rets Tryz.prog 31 #[.pointer (some ⟨wb, 0, none⟩), .string k, Vi a] w fun u_ w' => ∃ (n e : Int) (bv' : Value) (bs' : List BudD), u_ = .tuple #[Vi n, Vi e] ∧ e = setE k a bs ∧ bs' = setB k a bs ∧ (n = if e = 0 then lentW k ls else 0) ∧ Own w S [Res.row wb te (Vi now :: Vn cnt :: bv' :: lv :: xs), Res.vec 93 2 bv' bs'.length (bs'.flatMap BudD.cells), Res.vec 76 5 lv ls.length (ls.flatMap LeaD.cells)] w' := by
  have hbl := ho.blen
  refine fn_own Tryz.func31 rfl Tryz.ntmps31 hin ?_
  refine c_reg (l_as rfl (l_as rfl (l_end (c_seq (c_reg (l_mv rfl (a_call rfl rfl (fun w' hw => (rkeyed_s k w').mono ?_))))))))
  rintro _ w1 ⟨rfl, hO⟩
  refine (?_ : CL _ _ _ _ _ _ (Own w S [Res.row wb te (Vi now :: Vn cnt :: bv :: lv :: xs), Res.vec 93 2 bv bs.length (bs.flatMap BudD.cells), Res.vec 76 5 lv ls.length (ls.flatMap LeaD.cells)])) w1 (hw.frame0 hO)
  refine l_notp (q := keyOk k) rfl rfl (l_mv rfl (l_bor (q := ¬ (keyOk k)) 2 3 [19, 18] (a < 0) rfl rfl rfl rfl rfl rfl trivial rfl (fun h1_3 => ?_) (fun g1_6 => ?_)))
  ·
   refine l_on rfl (gF h1_3) (l_mv rfl (l_on rfl (gF h1_3) (l_lss rfl rfl rfl ?_)))
   exact l_gp rfl (fun _ hw => hw)
  refine l_end (c_dec rfl (fun c1 => ?_) (fun c1 => ?_))
  ·
   refine c_reg (l_as rfl (l_as rfl (l_end ?_)))
   exact c_ret (ret2 (v := Vi 0) (v' := Vi 1) rfl rfl rfl (fun w' hw => ⟨0, 1, bv, bs, rfl, (setE_arg c1).symm, setB_err (setE_arg c1) (by decide), rfl, hw⟩))
  ·
   refine c_skipC (c_reg (l_mv rfl (l_mv rfl (a_call rfl rfl (fun w' hw => (rlent_s wb te (xs) now cnt bv lv bs ls k w' ‹_› (hw.give [0, 1, 2] rfl (by decide))).mono ?_)))))
   rintro _ w1 ⟨rfl, hO⟩
   refine (?_ : CL _ _ _ _ _ _ (Own w S [Res.row wb te (Vi now :: Vn cnt :: bv :: lv :: xs), Res.vec 93 2 bv bs.length (bs.flatMap BudD.cells), Res.vec 76 5 lv ls.length (ls.flatMap LeaD.cells)])) w1 (hw.frameL [0, 1, 2] rfl hO)
   refine l_mv rfl (l_ext (vs := [Vi (budOf k bs), Vi (lentW k ls)]) rfl rfl rfl (l_ext (vs := [Vi (budOf k bs), Vi (lentW k ls)]) rfl rfl rfl (l_as rfl (l_as rfl (l_end (c_seq (c_reg (l_mv rfl (l_eq rfl rfl rfl (l_mv rfl (l_band (q := (budOf k bs) = 0) 2 2 [31, 30] (0 < a) rfl rfl rfl rfl rfl rfl trivial rfl (fun h4_2 => ?_) (fun g4_5 => ?_))))))))))))
   ·
    refine l_on rfl (gT h4_2) (l_mv rfl (l_on rfl (gT h4_2) (l_gtr rfl rfl rfl ?_)))
    exact l_gp rfl (fun _ hw => hw)
   refine l_mv rfl (l_band (q := ((budOf k bs) = 0) ∧ (0 < a)) 6 6 [39, 38, 37, 36, 35, 34] (64 ≤ ((bs.length : Nat) : Int)) rfl rfl rfl rfl rfl rfl trivial rfl (fun h4_6 => ?_) (fun g4_13 => ?_))
   ·
    refine l_on rfl (gT h4_6) (l_mv rfl (l_on rfl (gT h4_6) (l_nck rfl rfl (l_on rfl (gT h4_6) (a_fld (o := 2) rfl rfl (l_on rfl (gT h4_6) (a_ldo 0 (v := bv) rfl rfl rfl rfl (l_on rfl (gT h4_6) (a_lenP (pV 1 rfl) rfl rfl (l_on rfl (gT h4_6) (l_geq rfl rfl rfl ?_)))))))))))
    exact l_gp rfl (fun _ hw => hw)
   refine l_end (c_dec rfl (fun c2 => ?_) (fun c2 => ?_))
   ·
    refine c_reg (l_as rfl (l_as rfl (l_end ?_)))
    exact c_ret (ret2 (v := Vi 0) (v' := Vi 7) rfl rfl rfl (fun w' hw => ⟨0, 7, bv, bs, rfl, (setE_full c1 c2).symm, setB_err (setE_full c1 c2) (by decide), rfl, hw⟩))
   ·
    refine c_skipC (c_reg (l_as rfl (l_end (c_reg (l_mv rfl (l_eq rfl rfl rfl (l_as rfl (l_end (c_seq (c_reg (l_as rfl (l_end ?_))))))))))))
    refine c_block ?_
    refine c_loop4 (fun (i : Nat) (p : Bool) (ov : Value) (os : List BudD) => [(0, .pointer (some ⟨wb, 0, none⟩)), (1, .string k), (2, Vi a), (9, Vi (lentW k ls)), (10, ov), (11, .bool p), (12, Vj i)]) (fun (i : Nat) (p : Bool) (ov : Value) (os : List BudD) => i ≤ bs.length ∧ (p, os) = (bs.take i).foldl (insF k a) (decide (a = 0), []) ∧ os.length ≤ 2 * i) (fun (i : Nat) (p : Bool) (ov : Value) (os : List BudD) => [Res.row wb te (Vi now :: Vn cnt :: bv :: lv :: xs), Res.vec 93 2 bv bs.length (bs.flatMap BudD.cells), Res.vec 76 5 lv ls.length (ls.flatMap LeaD.cells), Res.vec 93 2 ov os.length (os.flatMap BudD.cells)]) (fun (i : Nat) (p : Bool) (ov : Value) (os : List BudD) => bs.length - i) (fun w' hw => ⟨0, decide (a = 0), .slice none 0 0, [], ⟨rfl, rfl, rfl, rfl, rfl, rfl, rfl, trivial⟩, ⟨Nat.zero_le _, rfl, Nat.le_refl _⟩, (own_nil hw 93 2)⟩) (fun i p ov os g hΦ => ?_)
    have hi := hΦ.1
    have hI := hΦ.2.1
    have hol := hΦ.2.2
    refine c_seq (c_reg (l_mv rfl (l_mv rfl (l_nck rfl rfl (a_fld (o := 2) rfl rfl (a_ldo 0 (v := bv) rfl rfl rfl rfl (a_lenP (pV 1 rfl) rfl rfl (l_lss rfl rfl rfl (l_end (c_dec rfl (fun c3 => ?_) (fun c3 => ?_)))))))))))
    ·
     refine c_skipC (c_seq (c_block (c_reg (l_mv rfl (l_nck rfl rfl (a_fld (o := 2) rfl rfl (a_ldo 0 (v := bv) rfl rfl rfl rfl (l_mv rfl (a_idxP (pV 1 rfl) 2 i rfl rfl rfl (by omega) rfl (a_ldAP (pV 1 rfl) 2 i (off := offV bv + i * 2) (fun _ => rfl) rfl rfl (by omega) rfl (l_new (v := .agg #[.string (⟨#[]⟩ : ByteArray), Vi 0]) (by kernel_rfl) rfl (fun b13 => a_stN 4 rfl rfl rfl (allc rfl) rfl ?_))))))))))))
     refine l_end (c_seq (c_reg (l_mv rfl (l_not (b := p) rfl rfl (l_mv rfl (l_band (q := (!p) = true) 4 2 [65, 64, 63, 62] (sLe k ((nth bs i).key)) rfl rfl (bool_dec _) rfl rfl rfl trivial rfl (fun h12_2 => ?_) (fun g12_7 => ?_)))))))
     ·
      refine l_on rfl (bT h12_2) (a_fld (o := 0) rfl rfl (l_on rfl (bT h12_2) (a_ldo 4 (v := .string ((nth bs i).key)) rfl rfl rfl rfl (l_on rfl (bT h12_2) (l_mv rfl (l_on rfl (bT h12_2) (l_sge rfl rfl rfl ?_)))))))
      exact l_gp rfl (fun _ hw => hw)
     refine l_end (c_dec rfl (fun c4 => ?_) (fun c4 => ?_))
     ·
      refine c_reg (l_mv rfl (l_mv rfl (l_mv rfl (l_bld (cs := [.string k, Vi a]) (z := [.string (⟨#[]⟩ : ByteArray), Vi 0]) (pl := [(0, 1), (1, 1)]) (by kernel_rfl) (by kernel_rfl) rfl (l_bsl (e := 93) (sz := 2) (vs := [.agg #[.string k, Vi a]]) (by kernel_rfl) rfl rfl (by simp [Value.cells, BudD.cells]) (by decide) rfl (fun b71 => l_appF (g := BudD.cells) (sz := 2) (by' := 24) (fun _ => rfl) (l := os) (l' := [({ key := k, amount := a } : BudD)]) (by simp [cell1, BudD.cells, vu]) 3 (by kernel_rfl) rfl rfl rfl (fun w' hw' => Vec.sl (Own.holds hw' 5 _ rfl)) (by first | omega | (simp; omega)) (by decide) rfl (fun v72 => l_as rfl (l_end (c_last (l_as rfl (l_end (c_reg ?_))))))))))))
      refine a_fld (o := 0) rfl rfl (a_ldo 4 (v := .string ((nth bs i).key)) rfl rfl rfl rfl (l_mv rfl (l_sne rfl rfl rfl (l_end (c_dec rfl (fun c5 => ?_) (fun c5 => ?_))))))
      ·
       refine c_last (l_mv rfl (a_ldr (cs := (BudD.cells (nth bs i))) 4 rfl rfl rfl (l_bsl (e := 93) (sz := 2) (vs := [.agg (BudD.cells (nth bs i)).toArray]) (by kernel_rfl) rfl rfl (by simp [Value.cells, BudD.cells]) (by decide) rfl (fun b79 => l_appF (g := BudD.cells) (sz := 2) (by' := 24) (fun _ => rfl) (l := os ++ [({ key := k, amount := a } : BudD)]) (l' := [(nth bs i)]) (by simp [cell1, BudD.cells, vu]) 3 (by kernel_rfl) rfl rfl rfl (fun w' hw' => Vec.sl (Own.holds hw' 6 _ rfl)) (by first | omega | (simp; omega)) (by decide) rfl (fun v80 => l_as rfl (l_end (c_last (l_mv rfl (l_add rfl rfl (wi64 (by omega)) rfl (l_as rfl ?_))))))))))
       exact l_nil (fun w' hw => ⟨i + 1, true, v80, os ++ [⟨k, a⟩] ++ [nth bs i], ⟨rfl, rfl, rfl, rfl, rfl, rfl, rfl, trivial⟩, ⟨by omega, (ins1 ⟨notT c4.1, c4.2⟩ c5).trans (insF_step hI (by omega)), by simp; omega⟩, hw.sel [0, 1, 2, 3] rfl (by decide), (by omega)⟩)
      ·
       refine c_skipC (c_last (l_mv rfl (l_add rfl rfl (wi64 (by omega)) rfl (l_as rfl ?_))))
       exact l_nil (fun w' hw => ⟨i + 1, true, v72, os ++ [⟨k, a⟩], ⟨rfl, rfl, rfl, rfl, rfl, rfl, rfl, trivial⟩, ⟨by omega, (ins2 ⟨notT c4.1, c4.2⟩ c5).trans (insF_step hI (by omega)), by simp; omega⟩, hw.sel [0, 1, 2, 3] rfl (by decide), (by omega)⟩)
     ·
      refine c_skipC (c_reg (a_fld (o := 0) rfl rfl (a_ldo 4 (v := .string ((nth bs i).key)) rfl rfl rfl rfl (l_mv rfl (l_sne rfl rfl rfl (l_end (c_dec rfl (fun c6 => ?_) (fun c6 => ?_))))))))
      ·
       refine c_last (l_mv rfl (a_ldr (cs := (BudD.cells (nth bs i))) 4 rfl rfl rfl (l_bsl (e := 93) (sz := 2) (vs := [.agg (BudD.cells (nth bs i)).toArray]) (by kernel_rfl) rfl rfl (by simp [Value.cells, BudD.cells]) (by decide) rfl (fun b79 => l_appF (g := BudD.cells) (sz := 2) (by' := 24) (fun _ => rfl) (l := os) (l' := [(nth bs i)]) (by simp [cell1, BudD.cells, vu]) 3 (by kernel_rfl) rfl rfl rfl (fun w' hw' => Vec.sl (Own.holds hw' 5 _ rfl)) (by first | omega | (simp; omega)) (by decide) rfl (fun v80 => l_as rfl (l_end (c_last (l_mv rfl (l_add rfl rfl (wi64 (by omega)) rfl (l_as rfl ?_))))))))))
       exact l_nil (fun w' hw => ⟨i + 1, p, v80, os ++ [nth bs i], ⟨rfl, rfl, rfl, rfl, rfl, rfl, rfl, trivial⟩, ⟨by omega, (ins3 (fun q => c4 ⟨notT' q.1, q.2⟩) c6).trans (insF_step hI (by omega)), by simp; omega⟩, hw.sel [0, 1, 2, 3] rfl (by decide), (by omega)⟩)
      ·
       refine c_skipC (c_last (l_mv rfl (l_add rfl rfl (wi64 (by omega)) rfl (l_as rfl ?_))))
       exact l_nil (fun w' hw => ⟨i + 1, p, ov, os, ⟨rfl, rfl, rfl, rfl, rfl, rfl, rfl, trivial⟩, ⟨by omega, (ins4 (fun q => c4 ⟨notT' q.1, q.2⟩) c6).trans (insF_step hI (by omega)), by omega⟩, hw.sel [0, 1, 2, 3] rfl (by decide), (by omega)⟩)
    ·
     refine c_exitC rfl (c_seq (c_reg (l_mv rfl (l_not (b := p) rfl rfl (l_end (c_if rfl (fun c7 => ?_) (fun c7 => ?_)))))))
     ·
      refine c_last (l_mv rfl (l_mv rfl (l_mv rfl (l_bld (cs := [.string k, Vi a]) (z := [.string (⟨#[]⟩ : ByteArray), Vi 0]) (pl := [(0, 1), (1, 1)]) (by kernel_rfl) (by kernel_rfl) rfl (l_bsl (e := 93) (sz := 2) (vs := [.agg #[.string k, Vi a]]) (by kernel_rfl) rfl rfl (by simp [Value.cells, BudD.cells]) (by decide) rfl (fun b87 => l_appF (g := BudD.cells) (sz := 2) (by' := 24) (fun _ => rfl) (l := os) (l' := [({ key := k, amount := a } : BudD)]) (by simp [cell1, BudD.cells, vu]) 3 (by kernel_rfl) rfl rfl rfl (fun w' hw' => Vec.sl (Own.holds hw' 4 _ rfl)) (by first | omega | (simp; omega)) (by decide) rfl (fun v88 => l_as rfl (l_end (c_reg (l_mv rfl (l_mv rfl (l_nck rfl rfl ?_))))))))))))
      refine a_fld (o := 2) rfl rfl ?_
      refine l_haveO (fun w' hw => Own.cell1Vec (i := 3) rfl hw) (fun hc1_ => ?_)
      refine a_st (cs := (Vi now :: Vn cnt :: bv :: lv :: xs)) 0 rfl rfl rfl hc1_ rfl (l_end (c_reg (l_mv rfl (l_as rfl (l_as rfl (l_end ?_))))))
      exact c_ret (ret2 (v := Vi (lentW k ls)) (v' := Vi 0) rfl rfl rfl (fun w' hw => ⟨lentW k ls, 0, v88, os ++ [⟨k, a⟩], rfl, (setE_ok c1 c2).symm, (by rw [← setB_end (setE_ok c1 c2) hI (by omega), if_pos (notT c7)]), rfl, hw.sel [0, 3, 2] rfl (by decide)⟩))
     ·
      refine c_skipC (c_reg (l_mv rfl (l_mv rfl (l_nck rfl rfl (a_fld (o := 2) rfl rfl ?_)))))
      refine l_haveO (fun w' hw => Own.cell1Vec (i := 3) rfl hw) (fun hc2_ => ?_)
      refine a_st (cs := (Vi now :: Vn cnt :: bv :: lv :: xs)) 0 rfl rfl rfl hc2_ rfl (l_end (c_reg (l_mv rfl (l_as rfl (l_as rfl (l_end ?_))))))
      exact c_ret (ret2 (v := Vi (lentW k ls)) (v' := Vi 0) rfl rfl rfl (fun w' hw => ⟨lentW k ls, 0, ov, os, rfl, (setE_ok c1 c2).symm, (by rw [← setB_end (setE_ok c1 c2) hI (by omega), if_neg (by cases p <;> simp_all), List.append_nil]), rfl, hw.sel [0, 3, 2] rfl (by decide)⟩))
theorem rlend_s {S : List Nat} (wb te : Nat) (xs : List Value) (now : Int) (cnt : Nat) (bv lv : Value) (bs : List BudD) (ls : List LeaD) (s : Nat) (k : ByteArray) (a sp : Int) (w : World) (ho : QOk now cnt bs ls) (ha : isI a) (hc : cnt ≤ 1000000000) (hin : Own w S [Res.row wb te (Vi now :: Vn cnt :: bv :: lv :: xs), Res.vec 93 2 bv bs.length (bs.flatMap BudD.cells), Res.vec 76 5 lv ls.length (ls.flatMap LeaD.cells)] w) : Rets Tryz.prog 32 #[.pointer (some ⟨wb, 0, none⟩), Vn s, .string k, Vi a, Vi sp] w fun u_ w' => ∃ (x : LeaD) (e : Int) (cnt' : Nat) (lv' : Value) (ls' : List LeaD), u_ = .tuple #[.agg (LeaD.cells x).toArray, Vi e] ∧ e = lendE s k a sp bs ls ∧ x = lendX e cnt s k a (now + sp) ∧ cnt' = lendC e cnt ∧ ls' = lendL e x ls ∧ Own w S [Res.row wb te (Vi now :: Vn cnt' :: bv :: lv' :: xs), Res.vec 93 2 bv bs.length (bs.flatMap BudD.cells), Res.vec 76 5 lv' ls'.length (ls'.flatMap LeaD.cells)] w' := by
  have hll := ho.llen
  have ht := ho.time
  have hlen := ho.lent0 k
  refine fn_own Tryz.func32 rfl Tryz.ntmps32 hin ?_
  refine c_reg (l_new (v := .agg #[Vn 0, Vn 0, .string (⟨#[]⟩ : ByteArray), Vi 0, Vi 0]) (by kernel_rfl) rfl (fun b10 => l_as rfl (l_end (c_seq (c_reg (l_mv rfl (l_eq rfl rfl rfl (l_mv rfl (l_bor (q := ((s : Nat) : Int) = ((0 : Nat) : Int)) 3 2 [22, 21, 20] (¬ (keyOk k)) rfl rfl rfl rfl rfl rfl trivial rfl (fun h1_2 => ?_) (fun g1_6 => ?_))))))))))
  ·
   refine l_on rfl (gF h1_2) (l_mv rfl (l_on rfl (gF h1_2) (a_call rfl rfl (fun w' hw => (rkeyed_s k w').mono ?_))))
   rintro _ w1 ⟨rfl, hO⟩
   refine (?_ : CL _ _ _ _ _ _ (Own w S [Res.row wb te (Vi now :: Vn cnt :: bv :: lv :: xs), Res.vec 93 2 bv bs.length (bs.flatMap BudD.cells), Res.vec 76 5 lv ls.length (ls.flatMap LeaD.cells), Res.row b10 76 [Vn 0, Vn 0, .string (⟨#[]⟩ : ByteArray), Vi 0, Vi 0]])) w1 (hw.frame0 hO)
   refine l_on rfl (gF h1_2) (l_notp (q := keyOk k) rfl rfl ?_)
   exact l_gp rfl (fun _ hw => hw)
  refine l_mv rfl (l_bor (q := (((s : Nat) : Int) = ((0 : Nat) : Int)) ∨ (¬ (keyOk k))) 2 7 [26, 25] (a < 1) rfl rfl rfl rfl rfl rfl trivial rfl (fun h1_7 => ?_) (fun g1_10 => ?_))
  ·
   refine l_on rfl (gF h1_7) (l_mv rfl (l_on rfl (gF h1_7) (l_lss rfl rfl rfl ?_)))
   exact l_gp rfl (fun _ hw => hw)
  refine l_mv rfl (l_bor (q := ((((s : Nat) : Int) = ((0 : Nat) : Int)) ∨ (¬ (keyOk k))) ∨ (a < 1)) 2 11 [30, 29] (sp < 1) rfl rfl rfl rfl rfl rfl trivial rfl (fun h1_11 => ?_) (fun g1_14 => ?_))
  ·
   refine l_on rfl (gF h1_11) (l_mv rfl (l_on rfl (gF h1_11) (l_lss rfl rfl rfl ?_)))
   exact l_gp rfl (fun _ hw => hw)
  refine l_mv rfl (l_bor (q := (((((s : Nat) : Int) = ((0 : Nat) : Int)) ∨ (¬ (keyOk k))) ∨ (a < 1)) ∨ (sp < 1)) 2 15 [34, 33] (1099511627776 < sp) rfl rfl rfl rfl rfl rfl trivial rfl (fun h1_15 => ?_) (fun g1_18 => ?_))
  ·
   refine l_on rfl (gF h1_15) (l_mv rfl (l_on rfl (gF h1_15) (l_gtr rfl rfl rfl ?_)))
   exact l_gp rfl (fun _ hw => hw)
  refine l_end (c_dec rfl (fun c1 => ?_) (fun c1 => ?_))
  ·
   refine c_reg (l_bld (cs := [Vn 0, Vn 0, .string (⟨#[]⟩ : ByteArray), Vi 0, Vi 0]) (z := [Vn 0, Vn 0, .string (⟨#[]⟩ : ByteArray), Vi 0, Vi 0]) (pl := [(0, 1), (1, 1), (2, 1), (3, 1), (4, 1)]) (by kernel_rfl) (by kernel_rfl) rfl (a_stN 3 rfl rfl rfl (allc rfl) rfl (l_as rfl (l_end ?_))))
   exact c_ret (retc2 (cs := [Vn 0, Vn 0, .string (⟨#[]⟩ : ByteArray), Vi 0, Vi 0]) (v := Vi 1) rfl rfl rfl (by kernel_rfl) (Own.rowCells (i := 3) rfl) (fun w' hw => ⟨LeaD.zero, 1, cnt, lv, ls, rfl, (lend1R (larg'.1 c1)).symm, rfl, rfl, rfl, hw.sel [0, 1, 2] rfl (by decide)⟩))
  ·
   have hla : ¬ lendArg s k a sp := fun q => c1 (larg'.2 q)
   have hsp : 1 ≤ sp ∧ sp ≤ 1099511627776 := ⟨Int.not_lt.1 fun q => c1 (.inl (.inr q)), Int.not_lt.1 fun q => c1 (.inr q)⟩
   have ha1 : 1 ≤ a := Int.not_lt.1 fun q => c1 (.inl (.inl (.inr q)))
   refine c_skipC (c_reg (l_mv rfl (l_mv rfl (a_call rfl rfl (fun w' hw => (rlent_s wb te (xs) now cnt bv lv bs ls k w' ‹_› (hw.give [0, 1, 2] rfl (by decide))).mono ?_)))))
   rintro _ w1 ⟨rfl, hO⟩
   refine (?_ : CL _ _ _ _ _ _ (Own w S [Res.row b10 76 [Vn 0, Vn 0, .string (⟨#[]⟩ : ByteArray), Vi 0, Vi 0], Res.row wb te (Vi now :: Vn cnt :: bv :: lv :: xs), Res.vec 93 2 bv bs.length (bs.flatMap BudD.cells), Res.vec 76 5 lv ls.length (ls.flatMap LeaD.cells)])) w1 (hw.frameL [0, 1, 2] rfl hO)
   refine l_mv rfl (l_ext (vs := [Vi (budOf k bs), Vi (lentW k ls)]) rfl rfl rfl (l_ext (vs := [Vi (budOf k bs), Vi (lentW k ls)]) rfl rfl rfl (l_as rfl (l_as rfl (l_end (c_seq (c_reg (l_mv rfl (l_eq rfl rfl rfl (l_end (c_dec rfl (fun c2 => ?_) (fun c2 => ?_))))))))))))
   ·
    refine c_reg (l_bld (cs := [Vn 0, Vn 0, .string (⟨#[]⟩ : ByteArray), Vi 0, Vi 0]) (z := [Vn 0, Vn 0, .string (⟨#[]⟩ : ByteArray), Vi 0, Vi 0]) (pl := [(0, 1), (1, 1), (2, 1), (3, 1), (4, 1)]) (by kernel_rfl) (by kernel_rfl) rfl (a_stN 0 rfl rfl rfl (allc rfl) rfl (l_as rfl (l_end ?_))))
    exact c_ret (retc2 (cs := [Vn 0, Vn 0, .string (⟨#[]⟩ : ByteArray), Vi 0, Vi 0]) (v := Vi 8) rfl rfl rfl (by kernel_rfl) (Own.rowCells (i := 0) rfl) (fun w' hw => ⟨LeaD.zero, 8, cnt, lv, ls, rfl, (lend8R hla c2).symm, rfl, rfl, rfl, hw.sel [1, 2, 3] rfl (by decide)⟩))
   ·
    refine c_skipC (c_reg (l_mv rfl (l_mv rfl (a_call rfl rfl (fun w' hw => (radd_s (lentW k ls) a w' hlen ⟨by omega, ha.2⟩).mono ?_)))))
    rintro _ w1 ⟨n1_, e2_, rfl, hf6_2, hO⟩
    have hsum := lend_sumR hf6_2
    refine (?_ : CL _ _ _ _ _ _ (Own w S [Res.row b10 76 [Vn 0, Vn 0, .string (⟨#[]⟩ : ByteArray), Vi 0, Vi 0], Res.row wb te (Vi now :: Vn cnt :: bv :: lv :: xs), Res.vec 93 2 bv bs.length (bs.flatMap BudD.cells), Res.vec 76 5 lv ls.length (ls.flatMap LeaD.cells)])) w1 (hw.frame0 hO)
    refine l_mv rfl (l_ext (vs := [Vi n1_, Vi e2_]) rfl rfl rfl (l_ext (vs := [Vi n1_, Vi e2_]) rfl rfl rfl (l_as rfl (l_as rfl (l_end (c_seq (c_reg (l_mv rfl (l_ne rfl rfl rfl (l_end (c_dec rfl (fun c3 => ?_) (fun c3 => ?_))))))))))))
    ·
     refine c_reg (l_bld (cs := [Vn 0, Vn 0, .string (⟨#[]⟩ : ByteArray), Vi 0, Vi 0]) (z := [Vn 0, Vn 0, .string (⟨#[]⟩ : ByteArray), Vi 0, Vi 0]) (pl := [(0, 1), (1, 1), (2, 1), (3, 1), (4, 1)]) (by kernel_rfl) (by kernel_rfl) rfl (l_mv rfl (a_stN 0 rfl rfl rfl (allc rfl) rfl (l_as rfl (l_end ?_)))))
     exact c_ret (retc2 (cs := [Vn 0, Vn 0, .string (⟨#[]⟩ : ByteArray), Vi 0, Vi 0]) (v := Vi e2_) rfl rfl rfl (by kernel_rfl) (Own.rowCells (i := 0) rfl) (fun w' hw => ⟨LeaD.zero, e2_, cnt, lv, ls, rfl, (by rw [(lend_of3R hsum c3).2]; exact (lend3R hla c2 (lend_of3R hsum c3).1).symm), (by rw [(lend_of3R hsum c3).2]; rfl), (by rw [(lend_of3R hsum c3).2]; rfl), (by rw [(lend_of3R hsum c3).2]; rfl), hw.sel [1, 2, 3] rfl (by decide)⟩))
    ·
     refine c_skipC (c_seq (c_reg (l_mv rfl (l_mv rfl (l_gtr rfl rfl rfl (l_end (c_dec rfl (fun c4 => ?_) (fun c4 => ?_))))))))
     ·
      refine c_reg (l_bld (cs := [Vn 0, Vn 0, .string (⟨#[]⟩ : ByteArray), Vi 0, Vi 0]) (z := [Vn 0, Vn 0, .string (⟨#[]⟩ : ByteArray), Vi 0, Vi 0]) (pl := [(0, 1), (1, 1), (2, 1), (3, 1), (4, 1)]) (by kernel_rfl) (by kernel_rfl) rfl (a_stN 0 rfl rfl rfl (allc rfl) rfl (l_as rfl (l_end ?_))))
      exact c_ret (retc2 (cs := [Vn 0, Vn 0, .string (⟨#[]⟩ : ByteArray), Vi 0, Vi 0]) (v := Vi 16) rfl rfl rfl (by kernel_rfl) (Own.rowCells (i := 0) rfl) (fun w' hw => ⟨LeaD.zero, 16, cnt, lv, ls, rfl, (lend16R hla c2 (lend_of0R hsum c3).1 (by rw [← (lend_of0R hsum c3).2]; exact c4)).symm, rfl, rfl, rfl, hw.sel [1, 2, 3] rfl (by decide)⟩))
     ·
      refine c_skipC (c_seq (c_reg (l_mv rfl (l_nck rfl rfl (a_fld (o := 3) rfl rfl (a_ldo 1 (v := lv) rfl rfl rfl rfl (a_lenP (pV 3 rfl) rfl rfl (l_geq rfl rfl rfl (l_end (c_dec rfl (fun c5 => ?_) (fun c5 => ?_)))))))))))
      ·
       refine c_reg (l_bld (cs := [Vn 0, Vn 0, .string (⟨#[]⟩ : ByteArray), Vi 0, Vi 0]) (z := [Vn 0, Vn 0, .string (⟨#[]⟩ : ByteArray), Vi 0, Vi 0]) (pl := [(0, 1), (1, 1), (2, 1), (3, 1), (4, 1)]) (by kernel_rfl) (by kernel_rfl) rfl (a_stN 0 rfl rfl rfl (allc rfl) rfl (l_as rfl (l_end ?_))))
       exact c_ret (retc2 (cs := [Vn 0, Vn 0, .string (⟨#[]⟩ : ByteArray), Vi 0, Vi 0]) (v := Vi 7) rfl rfl rfl (by kernel_rfl) (Own.rowCells (i := 0) rfl) (fun w' hw => ⟨LeaD.zero, 7, cnt, lv, ls, rfl, (lend7R hla c2 (lend_of0R hsum c3).1 (by rw [← (lend_of0R hsum c3).2]; exact c4) c5).symm, rfl, rfl, rfl, hw.sel [1, 2, 3] rfl (by decide)⟩))
      ·
       refine c_skipC (c_reg (l_mv rfl (l_nck rfl rfl (a_fld (o := 1) rfl rfl (a_ldo 1 (v := Vn cnt) rfl rfl rfl rfl (l_add rfl rfl (wu64 (by omega)) rfl (l_nck rfl rfl (a_fld (o := 1) rfl rfl (a_st (cs := (Vi now :: Vn cnt :: bv :: lv :: xs)) 1 rfl rfl rfl rfl rfl (l_end (c_seq (c_heldo [0, 1, 2, 3] rfl (by decide) (by kernel_rfl) (fun w' hw hS => ?_)))))))))))))
       refine g_tk 0 rfl (v_mv) hS (g_tk 1 rfl (v_nck rfl) hS (g_tk 2 rfl (w_fld (o := 1) rfl) hS (g_tk 3 rfl (w_ldo 1 (v := Vn (cnt + 1)) rfl rfl rfl) hS (g_tk 4 rfl (v_mv) hS (g_tk 5 rfl (v_mv) hS (g_tk 6 rfl (v_mv) hS (g_tk 7 rfl (v_mv) hS (g_tk 8 rfl (v_nck rfl) hS (g_tk 9 rfl (w_fld (o := 0) rfl) hS (g_tk 10 rfl (w_ldo 1 (v := Vi now) rfl rfl rfl) hS (g_tk 11 rfl (v_mv) hS (g_tk 12 rfl (v_add rfl rfl (wi64 (by omega))) hS ?_))))))))))))
       refine g_tk 13 rfl (v_bld (cs := [Vn (cnt + 1), Vn s, .string k, Vi a, Vi (now + sp)]) (z := [Vn 0, Vn 0, .string (⟨#[]⟩ : ByteArray), Vi 0, Vi 0]) (pl := [(0, 1), (1, 1), (2, 1), (3, 1), (4, 1)]) (by kernel_rfl) (by kernel_rfl)) hS (g_one 14 rfl hw (l_new (v := .agg #[Vn 0, Vn 0, .string (⟨#[]⟩ : ByteArray), Vi 0, Vi 0]) (by kernel_rfl) rfl (fun b16 => l_nilH [0, 1, 2, 3] rfl (by decide) (fun w' hw hS => g_one 15 rfl hw (a_stN 4 rfl rfl rfl (allc rfl) rfl (l_nilH [0, 1, 2, 3] rfl (by decide) (fun w' hw hS => g_done ?_)))))))
       refine (?_ : C _ _ _ _ _ _ _ (Own w S [Res.row b10 76 [Vn 0, Vn 0, .string (⟨#[]⟩ : ByteArray), Vi 0, Vi 0], Res.row wb te (Vi now :: Vn (cnt + 1) :: bv :: lv :: xs), Res.vec 93 2 bv bs.length (bs.flatMap BudD.cells), Res.vec 76 5 lv ls.length (ls.flatMap LeaD.cells), Res.row b16 76 [Vn (cnt + 1), Vn s, .string k, Vi a, Vi (now + sp)]])) _ hw
       refine c_seq (c_heldo [0, 2, 4] rfl (by decide) (by kernel_rfl) (fun w' hw hS => g_tk 0 rfl (v_mv) hS (g_tk 1 rfl (v_mv) hS (g_tk 2 rfl (v_nck rfl) hS (g_tk 3 rfl (w_fld (o := 3) rfl) hS (g_tk 5 rfl (w_ldr (cs := [Vn (cnt + 1), Vn s, .string k, Vi a, Vi (now + sp)]) 2 rfl rfl) hS (g_pick2 4 6 ?_ ?_)))))))
       ·
        refine pk_of 4 rfl hw (a_ldo 1 (v := lv) rfl rfl rfl rfl (l_nilH [0, 2, 4] rfl (by decide) (fun w' hw hS => g_one 6 rfl hw (l_bsl (e := 76) (sz := 5) (vs := [.agg #[Vn (cnt + 1), Vn s, .string k, Vi a, Vi (now + sp)]]) (by kernel_rfl) rfl rfl (by simp [Value.cells, LeaD.cells]) (by decide) rfl (fun b94 => l_nilH [0, 2, 4] rfl (by decide) (fun w' hw hS => g_one 7 rfl hw (l_appF (g := LeaD.cells) (sz := 5) (by' := 48) (fun _ => rfl) (l := ls) (l' := [({ id := cnt + 1, session := s, key := k, amount := a, until_ := now + sp } : LeaD)]) (by simp [cell1, LeaD.cells, vu]) 3 (by kernel_rfl) rfl rfl rfl (fun w' hw' => Vec.sl (Own.holds hw' 5 _ rfl)) (by first | omega | (simp; omega)) (by decide) rfl (fun v95 => l_nilH [0, 2, 4] rfl (by decide) (fun w' hw hS => g_tk 8 rfl (v_nck rfl) hS (g_tk 9 rfl (w_fld (o := 3) rfl) hS (g_one 10 rfl hw ?_)))))))))))
        refine l_haveO (fun w' hw => Own.cell1Vec (i := 3) rfl hw) (fun hc2_ => ?_)
        refine a_st (cs := (Vi now :: Vn (cnt + 1) :: bv :: lv :: xs)) 1 rfl rfl rfl hc2_ rfl (l_nilH [0, 2, 4] rfl (by decide) (fun w' hw hS => g_done ?_))
        refine (?_ : C _ _ _ _ _ _ _ (Own w S [Res.row b10 76 [Vn 0, Vn 0, .string (⟨#[]⟩ : ByteArray), Vi 0, Vi 0], Res.row wb te (Vi now :: Vn (cnt + 1) :: bv :: v95 :: xs), Res.vec 93 2 bv bs.length (bs.flatMap BudD.cells), Res.vec 76 5 v95 (ls ++ [({ id := cnt + 1, session := s, key := k, amount := a, until_ := now + sp } : LeaD)]).length ((ls ++ [({ id := cnt + 1, session := s, key := k, amount := a, until_ := now + sp } : LeaD)]).flatMap LeaD.cells), Res.row b16 76 [Vn (cnt + 1), Vn s, .string k, Vi a, Vi (now + sp)], Res.vec 76 5 (.slice (some ⟨b94, 0, none⟩) 1 1) [({ id := cnt + 1, session := s, key := k, amount := a, until_ := now + sp } : LeaD)].length ([({ id := cnt + 1, session := s, key := k, amount := a, until_ := now + sp } : LeaD)].flatMap LeaD.cells)])) _ hw
        refine c_reg (a_ldr (cs := [Vn (cnt + 1), Vn s, .string k, Vi a, Vi (now + sp)]) 4 rfl rfl rfl (a_stN 0 rfl rfl rfl (allc rfl) rfl (l_as rfl (l_end ?_))))
        exact c_ret (retc2 (cs := [Vn (cnt + 1), Vn s, .string k, Vi a, Vi (now + sp)]) (v := Vi 0) rfl rfl rfl (by kernel_rfl) (Own.rowCells (i := 0) rfl) (fun w' hw => ⟨⟨cnt + 1, s, k, a, now + sp⟩, 0, cnt + 1, v95, ls ++ [⟨cnt + 1, s, k, a, now + sp⟩], rfl, (lend0R hla c2 (lend_of0R hsum c3).1 (by rw [← (lend_of0R hsum c3).2]; exact c4) c5).symm, rfl, rfl, rfl, hw.sel [1, 2, 3] rfl (by decide)⟩))
       ·
        refine pk_of 6 rfl hw (l_bsl (e := 76) (sz := 5) (vs := [.agg #[Vn (cnt + 1), Vn s, .string k, Vi a, Vi (now + sp)]]) (by kernel_rfl) rfl rfl (by simp [Value.cells, LeaD.cells]) (by decide) rfl (fun b94 => l_nilH [0, 2, 4] rfl (by decide) (fun w' hw hS => g_one 4 rfl hw (a_ldo 1 (v := lv) rfl rfl rfl rfl (l_nilH [0, 2, 4] rfl (by decide) (fun w' hw hS => g_one 7 rfl hw (l_appF (g := LeaD.cells) (sz := 5) (by' := 48) (fun _ => rfl) (l := ls) (l' := [({ id := cnt + 1, session := s, key := k, amount := a, until_ := now + sp } : LeaD)]) (by simp [cell1, LeaD.cells, vu]) 3 (by kernel_rfl) rfl rfl rfl (fun w' hw' => Vec.sl (Own.holds hw' 5 _ rfl)) (by first | omega | (simp; omega)) (by decide) rfl (fun v95 => l_nilH [0, 2, 4] rfl (by decide) (fun w' hw hS => g_tk 8 rfl (v_nck rfl) hS (g_tk 9 rfl (w_fld (o := 3) rfl) hS (g_one 10 rfl hw ?_)))))))))))
        refine l_haveO (fun w' hw => Own.cell1Vec (i := 3) rfl hw) (fun hc3_ => ?_)
        refine a_st (cs := (Vi now :: Vn (cnt + 1) :: bv :: lv :: xs)) 1 rfl rfl rfl hc3_ rfl (l_nilH [0, 2, 4] rfl (by decide) (fun w' hw hS => g_done ?_))
        refine (?_ : C _ _ _ _ _ _ _ (Own w S [Res.row b10 76 [Vn 0, Vn 0, .string (⟨#[]⟩ : ByteArray), Vi 0, Vi 0], Res.row wb te (Vi now :: Vn (cnt + 1) :: bv :: v95 :: xs), Res.vec 93 2 bv bs.length (bs.flatMap BudD.cells), Res.vec 76 5 v95 (ls ++ [({ id := cnt + 1, session := s, key := k, amount := a, until_ := now + sp } : LeaD)]).length ((ls ++ [({ id := cnt + 1, session := s, key := k, amount := a, until_ := now + sp } : LeaD)]).flatMap LeaD.cells), Res.row b16 76 [Vn (cnt + 1), Vn s, .string k, Vi a, Vi (now + sp)], Res.vec 76 5 (.slice (some ⟨b94, 0, none⟩) 1 1) [({ id := cnt + 1, session := s, key := k, amount := a, until_ := now + sp } : LeaD)].length ([({ id := cnt + 1, session := s, key := k, amount := a, until_ := now + sp } : LeaD)].flatMap LeaD.cells)])) _ hw
        refine c_reg (a_ldr (cs := [Vn (cnt + 1), Vn s, .string k, Vi a, Vi (now + sp)]) 4 rfl rfl rfl (a_stN 0 rfl rfl rfl (allc rfl) rfl (l_as rfl (l_end ?_))))
        exact c_ret (retc2 (cs := [Vn (cnt + 1), Vn s, .string k, Vi a, Vi (now + sp)]) (v := Vi 0) rfl rfl rfl (by kernel_rfl) (Own.rowCells (i := 0) rfl) (fun w' hw => ⟨⟨cnt + 1, s, k, a, now + sp⟩, 0, cnt + 1, v95, ls ++ [⟨cnt + 1, s, k, a, now + sp⟩], rfl, (lend0R hla c2 (lend_of0R hsum c3).1 (by rw [← (lend_of0R hsum c3).2]; exact c4) c5).symm, rfl, rfl, rfl, hw.sel [1, 2, 3] rfl (by decide)⟩))
def FindR (ls : List LeaD) (s i : Nat) (r : Int) : Prop := (r = -1 ∧ ∀ l ∈ ls, ¬ (l.id = i ∧ l.session = s)) ∨ (∃ k : Nat, r = (k : Int) ∧ k < ls.length ∧ (nth ls k).id = i ∧ (nth ls k).session = s)
theorem findR_no {ls : List LeaD} {s i : Nat} {r : Int} (h : FindR ls s i r) (hr : r < 0) : ∀ l ∈ ls, ¬ (l.id = i ∧ l.session = s) := by
  rcases h with h | ⟨k, h, _⟩
  · exact h.2
  · omega
theorem findR_at {ls : List LeaD} {s i : Nat} {r : Int} (h : FindR ls s i r) (hr : ¬ r < 0) : r.toNat < ls.length ∧ (nth ls r.toNat).id = i ∧ (nth ls r.toNat).session = s := by
  rcases h with h | ⟨k, rfl, h⟩
  · omega
  · simpa using h
theorem bk_l {ls : List LeaD} {r : Int} (hr : ¬ r < 0) : (ls.take r.toNat).drop 0 ++ ls.drop (r + 1).toNat = ls.take r.toNat ++ ls.drop (r.toNat + 1) := by
  rw [show (r + 1).toNat = r.toNat + 1 by omega]; rfl
theorem longer_lt {l : LeaD} {t : Int} (h : l.until_ < t) : longer l t = ⟨l.id, l.session, l.key, l.amount, t⟩ := by
  unfold longer; rw [Int.max_eq_right (by omega)]
theorem longer_ge {l : LeaD} {t : Int} (h : ¬ l.until_ < t) : longer l t = l := by
  unfold longer; rw [Int.max_eq_left (by omega)]
theorem nth_set {α : Type} [Inhabited α] {l : List α} {k : Nat} {b : α} (h : k < l.length) : nth (l.set k b) k = b := by simp [nth, h]
theorem set_same {α : Type} [Inhabited α] {l : List α} {k : Nat} (h : k < l.length) : l = l.set k (nth l k) := by
  apply List.ext_getElem?
  intro j
  rw [List.getElem?_set]
  split
  · rename_i e; subst e; exact nth_some h
  · rfl
theorem rfind_s {S : List Nat} (wb te : Nat) (xs : List Value) (now : Int) (cnt : Nat) (bv lv : Value) (bs : List BudD) (ls : List LeaD) (s i : Nat) (w : World) (hll : ls.length ≤ 128) (hin : Own w S [Res.row wb te (Vi now :: Vn cnt :: bv :: lv :: xs), Res.vec 76 5 lv ls.length (ls.flatMap LeaD.cells)] w) : Rets Tryz.prog 69 #[.pointer (some ⟨wb, 0, none⟩), Vn s, Vn i] w fun u_ w' => ∃ (r : Int), u_ = Vi r ∧ FindR ls s i r ∧ Own w S [Res.row wb te (Vi now :: Vn cnt :: bv :: lv :: xs), Res.vec 76 5 lv ls.length (ls.flatMap LeaD.cells)] w' := by
  refine fn_own Tryz.func69 rfl Tryz.ntmps69 hin ?_
  refine c_reg (l_as rfl (l_end (c_seq (c_reg (l_as rfl (l_end (c_block ?_)))))))
  refine c_loop1 (fun (k : Nat) => [(0, .pointer (some ⟨wb, 0, none⟩)), (1, Vn s), (2, Vn i), (7, Vj k)]) (fun (k : Nat) => k ≤ ls.length ∧ ∀ l ∈ ls.take k, ¬ (l.id = i ∧ l.session = s)) (fun (k : Nat) => [Res.row wb te (Vi now :: Vn cnt :: bv :: lv :: xs), Res.vec 76 5 lv ls.length (ls.flatMap LeaD.cells)]) (fun (k : Nat) => ls.length - k) (fun w' hw => ⟨0, ⟨rfl, rfl, rfl, rfl, trivial⟩, ⟨Nat.zero_le _, by simp⟩, hw⟩) (fun k g hΦ => ?_)
  have hk1 := hΦ.1
  have hkI := hΦ.2
  refine c_seq (c_reg (l_mv rfl (l_mv rfl (l_nck rfl rfl (a_fld (o := 3) rfl rfl (a_ldo 0 (v := lv) rfl rfl rfl rfl (a_lenP (pV 1 rfl) rfl rfl (l_lss rfl rfl rfl (l_end (c_dec rfl (fun c1 => ?_) (fun c1 => ?_)))))))))))
  ·
   refine c_skipC (c_seq (c_block (c_reg (l_mv rfl (l_nck rfl rfl (a_fld (o := 3) rfl rfl (a_ldo 0 (v := lv) rfl rfl rfl rfl (l_mv rfl (a_idxP (pV 1 rfl) 5 k rfl rfl rfl (by omega) rfl (a_fld (o := 0) rfl rfl (a_ldP (pV 1 rfl) 5 k 0 (off := offV lv + k * 5 + 0) (fun _ => rfl) rfl (by omega) (by omega) rfl rfl (l_mv rfl ?_))))))))))))
   refine l_eq rfl rfl rfl (l_mv rfl (l_band (q := (((nth ls k).id : Nat) : Int) = ((i : Nat) : Int)) 10 10 [37, 36, 35, 34, 33, 32, 31, 30, 29, 28] ((((nth ls k).session : Nat) : Int) = ((s : Nat) : Int)) rfl rfl rfl rfl rfl rfl trivial rfl (fun h4_10 => ?_) (fun g4_21 => ?_)))
   ·
    refine l_on rfl (gT h4_10) (l_mv rfl (l_on rfl (gT h4_10) (l_nck rfl rfl (l_on rfl (gT h4_10) (a_fld (o := 3) rfl rfl (l_on rfl (gT h4_10) (a_ldo 0 (v := lv) rfl rfl rfl rfl (l_on rfl (gT h4_10) (l_mv rfl (l_on rfl (gT h4_10) (a_idxP (pV 1 rfl) 5 k rfl rfl rfl (by omega) rfl (l_on rfl (gT h4_10) ?_))))))))))))
    refine a_fld (o := 1) rfl rfl (l_on rfl (gT h4_10) (a_ldP (pV 1 rfl) 5 k 1 (off := offV lv + k * 5 + 1) (fun _ => rfl) rfl (by omega) (by omega) rfl rfl (l_on rfl (gT h4_10) (l_mv rfl (l_on rfl (gT h4_10) (l_eq rfl rfl rfl ?_))))))
    exact l_gp rfl (fun _ hw => hw)
   refine l_end (c_dec rfl (fun c2 => ?_) (fun c2 => ?_))
   ·
    refine c_reg (l_mv rfl (l_as rfl (l_end ?_)))
    exact c_ret (ret1 (v := Vj k) rfl rfl (fun w' hw => ⟨((k : Nat) : Int), rfl, .inr ⟨k, rfl, by omega, by omega, by omega⟩, hw⟩))
   ·
    refine c_skipC (c_last (l_mv rfl (l_add rfl rfl (wi64 (by omega)) rfl (l_as rfl ?_))))
    exact l_nil (fun w' hw => ⟨k + 1, ⟨rfl, rfl, rfl, rfl, trivial⟩, ⟨by omega, by rw [take_nth (by omega)]; intro l hl; rcases List.mem_append.1 hl with q | q; exact hkI l q; rw [List.mem_singleton.1 q]; omega⟩, hw, (by omega)⟩)
  ·
   refine c_exitC rfl (c_reg (l_as rfl (l_end ?_)))
   exact c_ret (ret1 (v := Vi (-1)) rfl rfl (fun w' hw => ⟨-1, rfl, .inl ⟨rfl, by have := hkI; rwa [List.take_of_length_le (by omega)] at this⟩, hw⟩))
theorem rpass_s {S : List Nat} (wb te : Nat) (xs : List Value) (now : Int) (cnt : Nat) (bv lv : Value) (bs : List BudD) (ls : List LeaD) (n : Int) (w : World) (ht : 0 ≤ now ∧ now ≤ 2305843009213693952) (hn : isI n) (hll : ls.length ≤ 128) (hin : Own w S [Res.row wb te (Vi now :: Vn cnt :: bv :: lv :: xs), Res.vec 76 5 lv ls.length (ls.flatMap LeaD.cells)] w) : Rets Tryz.prog 58 #[.pointer (some ⟨wb, 0, none⟩), Vi n] w fun u_ w' => ∃ (gv : Value) (gs : List Nat) (e now' : Int) (lv' : Value) (ls' : List LeaD), u_ = .tuple #[gv, Vi e] ∧ e = passE now n ∧ now' = passN now n ∧ ls' = passL now n ls ∧ gs = passG now n ls ∧ Own w S [Res.row wb te (Vi now' :: Vn cnt :: bv :: lv' :: xs), Res.vec 76 5 lv' ls'.length (ls'.flatMap LeaD.cells), Res.vec 28 1 gv gs.length (gs.flatMap U1)] w' := by
  refine fn_own Tryz.func58 rfl Tryz.ntmps58 hin ?_
  refine c_reg (l_as rfl (l_as rfl (l_end (c_seq (c_reg (l_mv rfl (l_lss rfl rfl rfl (l_mv rfl (l_bor (q := n < 0) 2 2 [13, 12] (1099511627776 < n) rfl rfl rfl rfl rfl rfl trivial rfl (fun h1_2 => ?_) (fun g1_5 => ?_))))))))))
  ·
   refine l_on rfl (gF h1_2) (l_mv rfl (l_on rfl (gF h1_2) (l_gtr rfl rfl rfl ?_)))
   exact l_gp rfl (fun _ hw => hw)
  refine l_end (c_dec rfl (fun c1 => ?_) (fun c1 => ?_))
  ·
   refine c_reg (l_as rfl (l_as rfl (l_end ?_)))
   exact c_ret (ret2 (v := .slice none 0 0) (v' := Vi 1) rfl rfl rfl (fun w' hw => ⟨.slice none 0 0, [], 1, now, lv, ls, rfl, (rpass_err (ls := ls) (passE1 c1) (by decide)).1, (rpass_err (ls := ls) (passE1 c1) (by decide)).2.1, (rpass_err (passE1 c1) (by decide)).2.2.1, (rpass_err (passE1 c1) (by decide)).2.2.2, (own_nil hw 28 1)⟩))
  ·
   refine c_skipC (c_seq (c_reg (l_mv rfl (l_nck rfl rfl (a_fld (o := 0) rfl rfl (a_ldo 0 (v := Vi now) rfl rfl rfl rfl (l_mv rfl (l_add rfl rfl (wi64 (by omega)) rfl (l_gtr rfl rfl rfl (l_end (c_dec rfl (fun c2 => ?_) (fun c2 => ?_))))))))))))
   ·
    refine c_reg (l_as rfl (l_as rfl (l_end ?_)))
    exact c_ret (ret2 (v := .slice none 0 0) (v' := Vi 3) rfl rfl rfl (fun w' hw => ⟨.slice none 0 0, [], 3, now, lv, ls, rfl, (rpass_err (ls := ls) (passE3 c1 (by omega)) (by decide)).1, (rpass_err (ls := ls) (passE3 c1 (by omega)) (by decide)).2.1, (rpass_err (passE3 c1 (by omega)) (by decide)).2.2.1, (rpass_err (passE3 c1 (by omega)) (by decide)).2.2.2, (own_nil hw 28 1)⟩))
   ·
    refine c_skipC (c_reg (l_mv rfl (l_mv rfl (l_nck rfl rfl (a_fld (o := 0) rfl rfl (a_ldo 0 (v := Vi now) rfl rfl rfl rfl (l_mv rfl (l_add rfl rfl (wi64 (by omega)) rfl (l_nck rfl rfl (a_fld (o := 0) rfl rfl (a_st (cs := (Vi now :: Vn cnt :: bv :: lv :: xs)) 0 rfl rfl rfl rfl rfl (l_end ?_))))))))))))
    refine c_reg (l_as rfl (l_end (c_reg (l_as rfl (l_end (c_seq (c_reg (l_as rfl (l_end (c_block ?_))))))))))
    refine c_loop5 (fun (k : Nat) (gv rv : Value) (gs : List Nat) (rs : List LeaD) => [(0, .pointer (some ⟨wb, 0, none⟩)), (6, gv), (7, rv), (8, Vj k)]) (fun (k : Nat) (gv rv : Value) (gs : List Nat) (rs : List LeaD) => k ≤ ls.length ∧ gs = ((ls.take k).filter (dueL (now + n))).map (·.id) ∧ rs = (ls.take k).filter (fun l => !dueL (now + n) l)) (fun (k : Nat) (gv rv : Value) (gs : List Nat) (rs : List LeaD) => [Res.row wb te (Vi (now + n) :: Vn cnt :: bv :: lv :: xs), Res.vec 76 5 lv ls.length (ls.flatMap LeaD.cells), Res.vec 28 1 gv gs.length (gs.flatMap U1), Res.vec 76 5 rv rs.length (rs.flatMap LeaD.cells)]) (fun (k : Nat) (gv rv : Value) (gs : List Nat) (rs : List LeaD) => ls.length - k) (fun w' hw => ⟨0, .slice none 0 0, .slice none 0 0, [], [], ⟨rfl, rfl, rfl, rfl, trivial⟩, ⟨Nat.zero_le _, rfl, rfl⟩, (own_nil (own_nil hw 28 1) 76 5)⟩) (fun k gv rv gs rs g hΦ => ?_)
    have hk1 := hΦ.1
    have hgl : gs.length ≤ ls.length := by rw [hΦ.2.1, List.length_map]; exact due_len _ _ _
    have hrl : rs.length ≤ ls.length := by rw [hΦ.2.2]; exact due_len _ _ _
    refine c_seq (c_reg (l_mv rfl (l_mv rfl (l_nck rfl rfl (a_fld (o := 3) rfl rfl (a_ldo 0 (v := lv) rfl rfl rfl rfl (a_lenP (pV 1 rfl) rfl rfl (l_lss rfl rfl rfl (l_end (c_dec rfl (fun c3 => ?_) (fun c3 => ?_)))))))))))
    ·
     refine c_skipC (c_seq (c_block (c_quiets (by kernel_rfl) (by kernel_rfl) (q_val rfl (v_mv) (q_val rfl (v_nck rfl) (q_val rfl (w_fld (o := 3) rfl) (q_val rfl (w_ldo 0 (v := lv) rfl rfl rfl) (q_val rfl (v_mv) (q_val rfl (w_idxP (pV 1 rfl) 5 k rfl rfl rfl (by omega)) (q_val rfl (w_fld (o := 4) rfl) (q_val rfl (w_ldP (pV 1 rfl) 5 k 4 (off := offV lv + k * 5 + 4) (fun _ => rfl) rfl (by omega) (by omega) rfl) (q_val rfl (v_mv) ?_))))))))))))
     refine q_val rfl (v_nck rfl) (q_val rfl (w_fld (o := 0) rfl) (q_val rfl (w_ldo 0 (v := Vi (now + n)) rfl rfl rfl) (q_val rfl (v_leq rfl rfl) (q_end (c_dec rfl (fun c4 => ?_) (fun c4 => ?_))))))
     ·
      refine c_last (l_mv rfl (l_mv rfl (l_nck rfl rfl (a_fld (o := 3) rfl rfl (a_ldo 0 (v := lv) rfl rfl rfl rfl (l_mv rfl (a_idxP (pV 1 rfl) 5 k rfl rfl rfl (by omega) rfl (a_fld (o := 0) rfl rfl (a_ldP (pV 1 rfl) 5 k 0 (off := offV lv + k * 5 + 0) (fun _ => rfl) rfl (by omega) (by omega) rfl rfl (l_bsl (e := 28) (sz := 1) (vs := [Vn ((nth ls k).id)]) (by kernel_rfl) rfl rfl (by simp [Value.cells]) (by decide) rfl (fun b62 => l_appF (g := U1) (sz := 1) (by' := 8) (fun _ => rfl) (l := gs) (l' := [(nth ls k).id]) (by simp [cell1, U1]) 2 (by kernel_rfl) rfl rfl rfl (fun w' hw' => Vec.sl (Own.holds hw' 4 _ rfl)) (by first | omega | (simp; omega)) (by decide) rfl (fun v63 => l_as rfl ?_))))))))))))
      refine l_end (c_last (l_mv rfl (l_add rfl rfl (wi64 (by omega)) rfl (l_as rfl ?_))))
      exact l_nil (fun w' hw => ⟨k + 1, v63, rv, gs ++ [(nth ls k).id], rs, ⟨rfl, rfl, rfl, rfl, trivial⟩, ⟨by omega, by rw [hΦ.2.1]; exact (due_step (by omega) c4).1, by rw [hΦ.2.2]; exact (due_step (by omega) c4).2⟩, hw.sel [0, 1, 2, 3] rfl (by decide), (by omega)⟩)
     ·
      refine c_last (l_mv rfl (l_mv rfl (l_nck rfl rfl (a_fld (o := 3) rfl rfl (a_ldo 0 (v := lv) rfl rfl rfl rfl (l_mv rfl (a_idxP (pV 1 rfl) 5 k rfl rfl rfl (by omega) rfl (a_ldAP (pV 1 rfl) 5 k (off := offV lv + k * 5) (fun _ => rfl) rfl rfl (by omega) rfl (l_bsl (e := 76) (sz := 5) (vs := [.agg (LeaD.cells (nth ls k)).toArray]) (by kernel_rfl) rfl rfl (by simp [Value.cells, LeaD.cells]) (by decide) rfl (fun b72 => l_appF (g := LeaD.cells) (sz := 5) (by' := 48) (fun _ => rfl) (l := rs) (l' := [(nth ls k)]) (by simp [cell1, LeaD.cells, vu]) 3 (by kernel_rfl) rfl rfl rfl (fun w' hw' => Vec.sl (Own.holds hw' 4 _ rfl)) (by first | omega | (simp; omega)) (by decide) rfl (fun v73 => l_as rfl (l_end ?_))))))))))))
      refine c_last (l_mv rfl (l_add rfl rfl (wi64 (by omega)) rfl (l_as rfl ?_)))
      exact l_nil (fun w' hw => ⟨k + 1, gv, v73, gs, rs ++ [nth ls k], ⟨rfl, rfl, rfl, rfl, trivial⟩, ⟨by omega, by rw [hΦ.2.1]; exact (due_stay (by omega) c4).1, by rw [hΦ.2.2]; exact (due_stay (by omega) c4).2⟩, hw.sel [0, 1, 2, 3] rfl (by decide), (by omega)⟩)
    ·
     refine c_exitC rfl (c_reg (l_mv rfl (l_mv rfl (l_nck rfl rfl (a_fld (o := 3) rfl rfl ?_)))))
     refine l_haveO (fun w' hw => Own.cell1Vec (i := 3) rfl hw) (fun hc1_ => ?_)
     refine a_st (cs := (Vi (now + n) :: Vn cnt :: bv :: lv :: xs)) 0 rfl rfl rfl hc1_ rfl (l_end (c_reg (l_mv rfl (l_as rfl (l_as rfl (l_end ?_))))))
     exact c_ret (ret2 (v := gv) (v' := Vi 0) rfl rfl rfl (fun w' hw => ⟨gv, gs, 0, now + n, rv, rs, rfl, (passE0 c1 (by omega)).symm, (if_pos (passE0 c1 (by omega))).symm, (by unfold passL; rw [if_pos (passE0 c1 (by omega)), hΦ.2.2, List.take_of_length_le (by omega)]), (by unfold passG; rw [if_pos (passE0 c1 (by omega)), hΦ.2.1, List.take_of_length_le (by omega)]), hw.sel [0, 3, 2] rfl (by decide)⟩))
theorem rrenew_s {S : List Nat} (wb te : Nat) (xs : List Value) (now : Int) (cnt : Nat) (bv lv : Value) (bs : List BudD) (ls : List LeaD) (s i : Nat) (sp : Int) (w : World) (ho : QOk now cnt bs ls) (hin : Own w S [Res.row wb te (Vi now :: Vn cnt :: bv :: lv :: xs), Res.vec 93 2 bv bs.length (bs.flatMap BudD.cells), Res.vec 76 5 lv ls.length (ls.flatMap LeaD.cells)] w) : Rets Tryz.prog 33 #[.pointer (some ⟨wb, 0, none⟩), Vn s, Vn i, Vi sp] w fun u_ w' => ∃ (x : LeaD) (e : Int) (ls' : List LeaD), u_ = .tuple #[.agg (LeaD.cells x).toArray, Vi e] ∧ RenewR now bs ls s i sp x e ls' ∧ Own w S [Res.row wb te (Vi now :: Vn cnt :: bv :: lv :: xs), Res.vec 93 2 bv bs.length (bs.flatMap BudD.cells), Res.vec 76 5 lv ls'.length (ls'.flatMap LeaD.cells)] w' := by
  have hll := ho.llen
  have ht := ho.time
  refine fn_own Tryz.func33 rfl Tryz.ntmps33 hin ?_
  refine c_reg (l_new (v := .agg #[Vn 0, Vn 0, .string (⟨#[]⟩ : ByteArray), Vi 0, Vi 0]) (by kernel_rfl) rfl (fun b8 => l_as rfl (l_end (c_seq (c_reg (l_mv rfl (l_lss rfl rfl rfl (l_mv rfl (l_bor (q := sp < 1) 2 2 [17, 16] (1099511627776 < sp) rfl rfl rfl rfl rfl rfl trivial rfl (fun h1_2 => ?_) (fun g1_5 => ?_))))))))))
  ·
   refine l_on rfl (gF h1_2) (l_mv rfl (l_on rfl (gF h1_2) (l_gtr rfl rfl rfl ?_)))
   exact l_gp rfl (fun _ hw => hw)
  refine l_end (c_dec rfl (fun c1 => ?_) (fun c1 => ?_))
  ·
   refine c_reg (l_bld (cs := [Vn 0, Vn 0, .string (⟨#[]⟩ : ByteArray), Vi 0, Vi 0]) (z := [Vn 0, Vn 0, .string (⟨#[]⟩ : ByteArray), Vi 0, Vi 0]) (pl := [(0, 1), (1, 1), (2, 1), (3, 1), (4, 1)]) (by kernel_rfl) (by kernel_rfl) rfl (a_stN 3 rfl rfl rfl (allc rfl) rfl (l_as rfl (l_end ?_))))
   exact c_ret (retc2 (cs := [Vn 0, Vn 0, .string (⟨#[]⟩ : ByteArray), Vi 0, Vi 0]) (v := Vi 1) rfl rfl rfl (by kernel_rfl) (Own.rowCells (i := 3) rfl) (fun w' hw => ⟨LeaD.zero, 1, ls, rfl, .inl ⟨fun q => by unfold spanOk at q; omega, rfl, rfl, rfl⟩, hw.sel [0, 1, 2] rfl (by decide)⟩))
  ·
   have hsp : 1 ≤ sp ∧ sp ≤ 1099511627776 := ⟨Int.not_lt.1 fun q => c1 (.inl q), Int.not_lt.1 fun q => c1 (.inr q)⟩
   refine c_skipC (c_reg (l_mv rfl (l_mv rfl (l_mv rfl (a_call rfl rfl (fun w' hw => (rfind_s wb te (xs) now cnt bv lv bs ls s i w' (by first | omega | (simp <;> omega)) (hw.give [0, 2] rfl (by decide))).mono ?_))))))
   rintro _ w1 ⟨r1_, rfl, hf3_3, hO⟩
   refine (?_ : CL _ _ _ _ _ _ (Own w S [Res.vec 93 2 bv bs.length (bs.flatMap BudD.cells), Res.row b8 76 [Vn 0, Vn 0, .string (⟨#[]⟩ : ByteArray), Vi 0, Vi 0], Res.row wb te (Vi now :: Vn cnt :: bv :: lv :: xs), Res.vec 76 5 lv ls.length (ls.flatMap LeaD.cells)])) w1 (hw.frameL [0, 2] rfl hO)
   refine l_as rfl (l_end (c_seq (c_reg (l_mv rfl (l_lss rfl rfl rfl (l_end (c_dec rfl (fun c2 => ?_) (fun c2 => ?_))))))))
   ·
    refine c_reg (l_bld (cs := [Vn 0, Vn 0, .string (⟨#[]⟩ : ByteArray), Vi 0, Vi 0]) (z := [Vn 0, Vn 0, .string (⟨#[]⟩ : ByteArray), Vi 0, Vi 0]) (pl := [(0, 1), (1, 1), (2, 1), (3, 1), (4, 1)]) (by kernel_rfl) (by kernel_rfl) rfl (a_stN 1 rfl rfl rfl (allc rfl) rfl (l_as rfl (l_end ?_))))
    exact c_ret (retc2 (cs := [Vn 0, Vn 0, .string (⟨#[]⟩ : ByteArray), Vi 0, Vi 0]) (v := Vi 17) rfl rfl rfl (by kernel_rfl) (Own.rowCells (i := 1) rfl) (fun w' hw => ⟨LeaD.zero, 17, ls, rfl, .inr (.inl ⟨hsp, findR_no hf3_3 c2, rfl, rfl, rfl⟩), hw.sel [2, 0, 3] rfl (by decide)⟩))
   ·
    have hat := findR_at hf3_3 c2
    have hat1 := hat.1
    refine c_skipC (c_reg (l_mv rfl (l_mv rfl (l_nck rfl rfl (a_fld (o := 3) rfl rfl (a_ldo 2 (v := lv) rfl rfl rfl rfl (l_mv rfl (a_idxP (pV 3 rfl) 5 ((r1_).toNat) rfl rfl (by omega) (by omega) rfl (a_fld (o := 2) rfl rfl (a_ldP (pV 3 rfl) 5 ((r1_).toNat) 2 (off := offV lv + ((r1_).toNat) * 5 + 2) (fun _ => rfl) rfl (by omega) (by omega) rfl rfl (a_call rfl rfl (fun w' hw => (rlent_s wb te (xs) now cnt bv lv bs ls ((nth ls ((r1_).toNat)).key) w' ‹_› (hw.give [2, 0, 3] rfl (by decide))).mono ?_))))))))))))
    rintro _ w1 ⟨rfl, hO⟩
    refine (?_ : CL _ _ _ _ _ _ (Own w S [Res.row b8 76 [Vn 0, Vn 0, .string (⟨#[]⟩ : ByteArray), Vi 0, Vi 0], Res.row wb te (Vi now :: Vn cnt :: bv :: lv :: xs), Res.vec 93 2 bv bs.length (bs.flatMap BudD.cells), Res.vec 76 5 lv ls.length (ls.flatMap LeaD.cells)])) w1 (hw.frameL [2, 0, 3] rfl hO)
    refine l_mv rfl (l_ext (vs := [Vi (budOf ((nth ls ((r1_).toNat)).key) bs), Vi (lentW ((nth ls ((r1_).toNat)).key) ls)]) rfl rfl rfl (l_ext (vs := [Vi (budOf ((nth ls ((r1_).toNat)).key) bs), Vi (lentW ((nth ls ((r1_).toNat)).key) ls)]) rfl rfl rfl (l_as rfl (l_as rfl (l_end (c_seq (c_reg (l_mv rfl (l_mv rfl (l_gtr rfl rfl rfl (l_end (c_dec rfl (fun c3 => ?_) (fun c3 => ?_)))))))))))))
    ·
     refine c_reg (l_bld (cs := [Vn 0, Vn 0, .string (⟨#[]⟩ : ByteArray), Vi 0, Vi 0]) (z := [Vn 0, Vn 0, .string (⟨#[]⟩ : ByteArray), Vi 0, Vi 0]) (pl := [(0, 1), (1, 1), (2, 1), (3, 1), (4, 1)]) (by kernel_rfl) (by kernel_rfl) rfl (a_stN 0 rfl rfl rfl (allc rfl) rfl (l_as rfl (l_end ?_))))
     exact c_ret (retc2 (cs := [Vn 0, Vn 0, .string (⟨#[]⟩ : ByteArray), Vi 0, Vi 0]) (v := Vi 16) rfl rfl rfl (by kernel_rfl) (Own.rowCells (i := 0) rfl) (fun w' hw => ⟨LeaD.zero, 16, ls, rfl, .inr (.inr ⟨hsp, _, hat.1, hat.2.1, hat.2.2, .inl ⟨c3, rfl, rfl, rfl⟩⟩), hw.sel [1, 2, 3] rfl (by decide)⟩))
    ·
     refine c_skipC (c_seq (c_quiets (by kernel_rfl) (by kernel_rfl) (q_val rfl (v_mv) (q_val rfl (v_nck rfl) (q_val rfl (w_fld (o := 3) rfl) (q_val rfl (w_ldo 1 (v := lv) rfl rfl rfl) (q_val rfl (v_mv) (q_val rfl (w_idxP (pV 3 rfl) 5 ((r1_).toNat) rfl rfl (by omega) (by omega)) (q_val rfl (w_fld (o := 4) rfl) (q_val rfl (w_ldP (pV 3 rfl) 5 ((r1_).toNat) 4 (off := offV lv + ((r1_).toNat) * 5 + 4) (fun _ => rfl) rfl (by omega) (by omega) rfl) (q_val rfl (v_mv) (q_val rfl (v_nck rfl) ?_))))))))))))
     refine q_val rfl (w_fld (o := 0) rfl) (q_val rfl (w_ldo 1 (v := Vi now) rfl rfl rfl) (q_val rfl (v_mv) (q_val rfl (v_add rfl rfl (wi64 (by omega))) (q_val rfl (v_lss rfl rfl) (q_end (c_dec rfl (fun c4 => ?_) (fun c4 => ?_)))))))
     ·
      refine c_heldo [0, 1, 2] rfl (by decide) (by kernel_rfl) (fun w' hw hS => g_tk 0 rfl (v_mv) hS (g_tk 1 rfl (v_nck rfl) hS (g_tk 2 rfl (w_fld (o := 3) rfl) hS (g_tk 3 rfl (w_ldo 1 (v := lv) rfl rfl rfl) hS (g_tk 4 rfl (v_mv) hS (g_tk 5 rfl (v_mv) hS (g_tk 6 rfl (v_nck rfl) hS (g_tk 7 rfl (w_fld (o := 0) rfl) hS (g_tk 8 rfl (w_ldo 1 (v := Vi now) rfl rfl rfl) hS (g_tk 9 rfl (v_mv) hS (g_tk 10 rfl (v_add rfl rfl (wi64 (by omega))) hS (g_one 11 rfl hw ?_))))))))))))
      refine a_idxP (pV 3 rfl) 5 ((r1_).toNat) rfl rfl (by omega) (by omega) rfl (l_nilH [0, 1, 2] rfl (by decide) (fun w' hw hS => g_tk 12 rfl (w_fld (o := 4) rfl) hS (g_one 13 rfl hw (l_stEO 3 5 ((r1_).toNat) 4 ({ (nth ls ((r1_).toNat)) with until_ := now + sp } : LeaD) (off := offV lv + ((r1_).toNat) * 5 + 4) rfl (fun _ => rfl) rfl (by omega) rfl rfl rfl (by omega) (by decide) (by kernel_rfl) (l_nilH [0, 1, 2] rfl (by decide) (fun w' hw hS => g_done ?_))))))
      refine (?_ : C _ _ _ _ _ _ _ (Own w S [Res.row b8 76 [Vn 0, Vn 0, .string (⟨#[]⟩ : ByteArray), Vi 0, Vi 0], Res.row wb te (Vi now :: Vn cnt :: bv :: lv :: xs), Res.vec 93 2 bv bs.length (bs.flatMap BudD.cells), Res.vec 76 5 lv (ls.set ((r1_).toNat) ({ (nth ls ((r1_).toNat)) with until_ := now + sp } : LeaD)).length ((ls.set ((r1_).toNat) ({ (nth ls ((r1_).toNat)) with until_ := now + sp } : LeaD)).flatMap LeaD.cells)])) _ hw
      refine c_reg (l_mv rfl (l_nck rfl rfl (a_fld (o := 3) rfl rfl (a_ldo 1 (v := lv) rfl rfl rfl rfl (l_mv rfl (a_idxP (pV 3 rfl) 5 ((r1_).toNat) rfl rfl (by omega) (by simp only [List.length_set]; omega) rfl (a_ldAP (pV 3 rfl) 5 ((r1_).toNat) (off := offV lv + ((r1_).toNat) * 5) (fun _ => rfl) rfl rfl (by simp only [List.length_set]; omega) rfl (a_stN 0 rfl rfl rfl (allc rfl) rfl (l_as rfl (l_end ?_))))))))))
      exact c_ret (retc2 (cs := (LeaD.cells (nth (ls.set ((r1_).toNat) ({ (nth ls ((r1_).toNat)) with until_ := now + sp } : LeaD)) ((r1_).toNat)))) (v := Vi 0) rfl rfl rfl (by kernel_rfl) (Own.rowCells (i := 0) rfl) (fun w' hw => ⟨longer (nth ls (r1_).toNat) (now + sp), 0, ls.set (r1_).toNat (longer (nth ls (r1_).toNat) (now + sp)), (by rw [nth_set hat1, longer_lt c4]), .inr (.inr ⟨hsp, _, hat.1, hat.2.1, hat.2.2, .inr ⟨by omega, rfl, rfl, rfl⟩⟩), by rw [longer_lt c4]; exact hw.sel [1, 2, 3] rfl (by decide)⟩))
     ·
      refine c_skipC (c_reg (l_mv rfl (l_nck rfl rfl (a_fld (o := 3) rfl rfl (a_ldo 1 (v := lv) rfl rfl rfl rfl (l_mv rfl (a_idxP (pV 3 rfl) 5 ((r1_).toNat) rfl rfl (by omega) (by omega) rfl (a_ldAP (pV 3 rfl) 5 ((r1_).toNat) (off := offV lv + ((r1_).toNat) * 5) (fun _ => rfl) rfl rfl (by omega) rfl (a_stN 0 rfl rfl rfl (allc rfl) rfl (l_as rfl (l_end ?_)))))))))))
      exact c_ret (retc2 (cs := (LeaD.cells (nth ls ((r1_).toNat)))) (v := Vi 0) rfl rfl rfl (by kernel_rfl) (Own.rowCells (i := 0) rfl) (fun w' hw => ⟨longer (nth ls (r1_).toNat) (now + sp), 0, ls, (by rw [longer_ge c4]), .inr (.inr ⟨hsp, _, hat.1, hat.2.1, hat.2.2, .inr ⟨by omega, rfl, rfl, by rw [longer_ge c4]; exact set_same hat1⟩⟩), hw.sel [1, 2, 3] rfl (by decide)⟩))
theorem rback_s {S : List Nat} (wb te : Nat) (xs : List Value) (now : Int) (cnt : Nat) (bv lv : Value) (bs : List BudD) (ls : List LeaD) (s i : Nat) (w : World) (hll : ls.length ≤ 128) (hin : Own w S [Res.row wb te (Vi now :: Vn cnt :: bv :: lv :: xs), Res.vec 76 5 lv ls.length (ls.flatMap LeaD.cells)] w) : Rets Tryz.prog 34 #[.pointer (some ⟨wb, 0, none⟩), Vn s, Vn i] w fun u_ w' => ∃ (x : LeaD) (e : Int) (lv' : Value) (ls' : List LeaD), u_ = .tuple #[.agg (LeaD.cells x).toArray, Vi e] ∧ BackR ls s i x e ls' ∧ Own w S [Res.row wb te (Vi now :: Vn cnt :: bv :: lv' :: xs), Res.vec 76 5 lv' ls'.length (ls'.flatMap LeaD.cells)] w' := by
  refine fn_own Tryz.func34 rfl Tryz.ntmps34 hin ?_
  refine c_reg (l_new (v := .agg #[Vn 0, Vn 0, .string (⟨#[]⟩ : ByteArray), Vi 0, Vi 0]) (by kernel_rfl) rfl (fun b6 => l_as rfl (l_end (c_reg (l_mv rfl (l_mv rfl (l_mv rfl (a_call rfl rfl (fun w' hw => (rfind_s wb te (xs) now cnt bv lv bs ls s i w' (by first | omega | (simp <;> omega)) (hw.give [0, 1] rfl (by decide))).mono ?_)))))))))
  rintro _ w1 ⟨r1_, rfl, hf1_3, hO⟩
  refine (?_ : CL _ _ _ _ _ _ (Own w S [Res.row b6 76 [Vn 0, Vn 0, .string (⟨#[]⟩ : ByteArray), Vi 0, Vi 0], Res.row wb te (Vi now :: Vn cnt :: bv :: lv :: xs), Res.vec 76 5 lv ls.length (ls.flatMap LeaD.cells)])) w1 (hw.frameL [0, 1] rfl hO)
  refine l_as rfl (l_end (c_seq (c_reg (l_mv rfl (l_lss rfl rfl rfl (l_end (c_dec rfl (fun c1 => ?_) (fun c1 => ?_))))))))
  ·
   refine c_reg (l_bld (cs := [Vn 0, Vn 0, .string (⟨#[]⟩ : ByteArray), Vi 0, Vi 0]) (z := [Vn 0, Vn 0, .string (⟨#[]⟩ : ByteArray), Vi 0, Vi 0]) (pl := [(0, 1), (1, 1), (2, 1), (3, 1), (4, 1)]) (by kernel_rfl) (by kernel_rfl) rfl (a_stN 0 rfl rfl rfl (allc rfl) rfl (l_as rfl (l_end ?_))))
   exact c_ret (retc2 (cs := [Vn 0, Vn 0, .string (⟨#[]⟩ : ByteArray), Vi 0, Vi 0]) (v := Vi 17) rfl rfl rfl (by kernel_rfl) (Own.rowCells (i := 0) rfl) (fun w' hw => ⟨LeaD.zero, 17, lv, ls, rfl, .inl ⟨findR_no hf1_3 c1, rfl, rfl, rfl⟩, hw.sel [1, 2] rfl (by decide)⟩))
  ·
   have hat := findR_at hf1_3 c1
   have hat1 := hat.1
   refine c_skipC (c_reg (l_mv rfl (l_nck rfl rfl (a_fld (o := 3) rfl rfl (a_ldo 1 (v := lv) rfl rfl rfl rfl (l_mv rfl (a_idxP (pV 2 rfl) 5 ((r1_).toNat) rfl rfl (by omega) (by omega) rfl (a_ldAP (pV 2 rfl) 5 ((r1_).toNat) (off := offV lv + ((r1_).toNat) * 5) (fun _ => rfl) rfl rfl (by omega) rfl (l_new (v := .agg #[Vn 0, Vn 0, .string (⟨#[]⟩ : ByteArray), Vi 0, Vi 0]) (by kernel_rfl) rfl (fun b9 => a_stN 3 rfl rfl rfl (allc rfl) rfl (l_end (c_reg ?_))))))))))))
   refine l_bsl (e := 76) (sz := 5) (vs := []) (by kernel_rfl) rfl rfl (by simp [Value.cells, LeaD.cells]) (by decide) rfl (fun b25 => l_mv rfl (l_nck rfl rfl (a_fld (o := 3) rfl rfl (a_ldo 1 (v := lv) rfl rfl rfl rfl (l_mv rfl (l_slcP (pV 2 rfl) 5 0 ((r1_).toNat) (by kernel_rfl) rfl rfl ⟨_, (show Value.int .i64 _ = Value.int .i64 _ by congr 1; omega)⟩ (by omega) (by omega) rfl (l_appF (g := LeaD.cells) (sz := 5) (by' := 48) (fun _ => rfl) (l := []) (l' := ((ls.take ((r1_).toNat)).drop 0)) (by simp [cell1, LeaD.cells, vu]) 4 (by kernel_rfl) rfl rfl rfl (fun w' hw' => Sl.subL_f (g := LeaD.cells) (xs := ls) (sz := 5) (fun _ => rfl) ((fun w' hw' => Vec.sl (Own.holds hw' 2 _ rfl)) w' hw') (l := 0) (h := (r1_).toNat) (by omega) (by omega)) (by first | omega | (simp; omega)) (by decide) rfl (fun v32 => l_as rfl (l_end (c_reg (l_mv rfl (l_mv rfl ?_))))))))))))
   refine l_mv rfl (l_nck rfl rfl (a_fld (o := 3) rfl rfl (a_ldo 1 (v := lv) rfl rfl rfl rfl (l_mv rfl (l_add rfl rfl (wi64 (by omega)) rfl (l_slcP (pV 2 rfl) 5 ((r1_ + 1).toNat) ls.length (by kernel_rfl) rfl ⟨_, (show Value.int .i64 _ = Value.int .i64 _ by congr 1; omega)⟩ rfl (by omega) (by omega) rfl (l_appF (g := LeaD.cells) (sz := 5) (by' := 48) (fun _ => rfl) (l := ((ls.take ((r1_).toNat)).drop 0)) (l' := (ls.drop ((r1_ + 1).toNat))) (by simp [cell1, LeaD.cells, vu]) 4 (by kernel_rfl) rfl rfl rfl (fun w' hw' => Sl.dropL_f (g := LeaD.cells) (xs := ls) (sz := 5) (fun _ => rfl) ((fun w' hw' => Vec.sl (Own.holds hw' 2 _ rfl)) w' hw') (l := (r1_ + 1).toNat) (by omega)) (by first | omega | (simp; omega)) (by decide) rfl (fun v42 => l_nck rfl rfl (a_fld (o := 3) rfl rfl ?_)))))))))
   refine l_haveO (fun w' hw => Own.cell1Vec (i := 4) rfl hw) (fun hc1_ => ?_)
   refine a_st (cs := (Vi now :: Vn cnt :: bv :: lv :: xs)) 1 rfl rfl rfl hc1_ rfl (l_end (c_reg (a_ldr (cs := (LeaD.cells (nth ls ((r1_).toNat)))) 3 rfl rfl rfl (a_stN 0 rfl rfl rfl (allc rfl) rfl (l_as rfl (l_end ?_))))))
   exact c_ret (retc2 (cs := (LeaD.cells (nth ls ((r1_).toNat)))) (v := Vi 0) rfl rfl rfl (by kernel_rfl) (Own.rowCells (i := 0) rfl) (fun w' hw => ⟨nth ls (r1_).toNat, 0, v42, ls.take (r1_).toNat ++ ls.drop ((r1_).toNat + 1), rfl, .inr ⟨_, hat.1, hat.2.1, hat.2.2, rfl, rfl, rfl⟩, by rw [← bk_l (ls := ls) c1]; exact hw.sel [1, 4] rfl (by decide)⟩))
-- no function scupper/scupperlaw13.ids
end Go.Proofs.YthincafbmpialaaGreat
