import Derived.Test.YtcdiehplbmkmeaaGreatQuotaW
set_option linter.unusedSectionVars false
set_option linter.unusedSimpArgs false
set_option linter.unusedVariables false
set_option maxRecDepth 10000
namespace Go.Proofs.YtcdiehplbmkmeaaGreat
open Go Go.Sc Go.Proofs
theorem zBN {key : ByteArray} {bs : List BudD} {k : Nat} (hn : (bs.map (·.key)).Nodup) (hk : k < bs.length) : yN key (bs.take (k + 1)) = if (zJ bs k).key = key then (zJ bs k).amount else yN key (bs.take k) := by
  have hn' : KNd (KB (bs.take (k + 1))) := zIz (hn.sublist ((List.take_sublist _ _).map _))
  unfold yN
  rw [yJ hk] at hn' ⊢
  have e : KB (bs.take k ++ [zJ bs k]) = KB (bs.take k) ++ [((zJ bs k).key, (zJ bs k).amount)] := by unfold KB; rw [List.map_append]; rfl
  rw [e] at hn' ⊢
  have hp := (List.perm_append_comm : (KB (bs.take k) ++ [((zJ bs k).key, (zJ bs k).amount)]).Perm _)
  rw [kw hn' hp]
  show (zf key (((zJ bs k).key, (zJ bs k).amount) :: KB (bs.take k))).getD 0 = _
  show (if key = (zJ bs k).key then some (zJ bs k).amount else zf key (KB (bs.take k))).getD 0 = _
  by_cases c : key = (zJ bs k).key
  · rw [if_pos c, if_pos c.symm]; rfl
  · rw [if_neg c, if_neg fun q => c q.symm]
theorem zFo {key : ByteArray} {ls : List LeaD} {k : Nat} {n : Int} (h : n = yD key (ls.take k)) (hk : k < ls.length) (hy : (zJ ls k).key = key) : IntKind.i64.wrap (n + (zJ ls k).amount) = yD key (ls.take (k + 1)) := by
  rw [h, yJ hk]; unfold yD; rw [zDq, jh]; simp only [yi, if_pos hy, Int.add_zero]
theorem zGx {key : ByteArray} {ls : List LeaD} {k : Nat} {n : Int} (h : n = yD key (ls.take k)) (hk : k < ls.length) (hy : ¬ (zJ ls k).key = key) : n = yD key (ls.take (k + 1)) := by
  rw [h, yJ hk]; unfold yD; rw [jh]; simp only [yi, if_neg hy, Int.add_zero]
theorem jj {key : ByteArray} {a : Int} {bs : List BudD} {k : Nat} {q q0 : Bool × List BudD} (h : q = (bs.take k).foldl (y4 key a) q0) (hk : k < bs.length) : y4 key a q (zJ bs k) = (bs.take (k + 1)).foldl (y4 key a) q0 := by
  rw [yJ hk, List.foldl_append, h]; rfl
theorem zC1 {k : ByteArray} {a : Int} {bs : List BudD} (h : ¬ yb k ∨ a < 0) : zAJ k a bs = 1 := if_pos h
theorem zCT {k : ByteArray} {a : Int} {bs : List BudD} (h : ¬ (¬ yb k ∨ a < 0)) (h2 : (yN k bs = 0 ∧ 0 < a) ∧ 64 ≤ ((bs.length : Nat) : Int)) : zAJ k a bs = 7 := by
  unfold zAJ; rw [if_neg h, if_pos ⟨h2.1.1, h2.1.2, by omega⟩]
theorem zBF {k : ByteArray} {a : Int} {bs : List BudD} (h : ¬ (¬ yb k ∨ a < 0)) (h2 : ¬ ((yN k bs = 0 ∧ 0 < a) ∧ 64 ≤ ((bs.length : Nat) : Int))) : zAJ k a bs = 0 := by
  unfold zAJ; rw [if_neg h, if_neg fun q => h2 ⟨⟨q.1, q.2.1⟩, by omega⟩]
theorem zDf {k : ByteArray} {a e : Int} {bs : List BudD} (h : zAJ k a bs = e) (he : e ≠ 0) : bs = zAk k a bs := by
  unfold zAk; rw [if_neg (by rw [h]; exact he)]
theorem zDN {k : ByteArray} {a : Int} {bs os : List BudD} {p : Bool} {i : Nat} (h : zAJ k a bs = 0) (hI : (p, os) = (bs.take i).foldl (y4 k a) (decide (a = 0), [])) (hi : bs.length ≤ i) : os ++ (if p = false then [⟨k, a⟩] else []) = zAk k a bs := by
  rw [List.take_of_length_le hi] at hI
  unfold zAk zDL
  rw [if_pos h, ← hI]
theorem zLd {k : ByteArray} {a : Int} {p : Bool} {os : List BudD} {b : BudD} (h1 : p = false ∧ sLe k b.key) (h2 : b.key ≠ k) : (true, os ++ [⟨k, a⟩] ++ [b]) = y4 k a (p, os) b := by
  unfold y4; simp only [if_pos h1, if_pos h2, decide_eq_true h1.2, Bool.or_true]
theorem zLb {k : ByteArray} {a : Int} {p : Bool} {os : List BudD} {b : BudD} (h1 : p = false ∧ sLe k b.key) (h2 : ¬ b.key ≠ k) : (true, os ++ [⟨k, a⟩]) = y4 k a (p, os) b := by
  unfold y4; simp only [if_pos h1, if_neg h2, decide_eq_true h1.2, Bool.or_true, List.append_nil]
theorem zKA {p : Bool} (h : (!p) = true) : p = false := by cases p <;> simp_all
theorem zIs {p : Bool} (h : p = false) : (!p) = true := by rw [h]; rfl
theorem zKe {p : Bool} {q : Prop} [Decidable q] (h1 : ¬ (p = false ∧ q)) : p = (p || decide q) := by
  cases p with
  | true => rfl
  | false => rw [decide_eq_false fun h => h1 ⟨rfl, h⟩]; rfl
theorem zLo {k : ByteArray} {a : Int} {p : Bool} {os : List BudD} {b : BudD} (h1 : ¬ (p = false ∧ sLe k b.key)) (h2 : b.key ≠ k) : (p, os ++ [b]) = y4 k a (p, os) b := by
  unfold y4; simp only [if_neg h1, if_pos h2, List.append_nil, ← zKe h1]
theorem zLl {k : ByteArray} {a : Int} {p : Bool} {os : List BudD} {b : BudD} (h1 : ¬ (p = false ∧ sLe k b.key)) (h2 : ¬ b.key ≠ k) : (p, os) = y4 k a (p, os) b := by
  unfold y4; simp only [if_neg h1, if_neg h2, List.append_nil, ← zKe h1]
theorem zIt {s : Nat} {k : ByteArray} {a sp : Int} : ((((((s : Nat) : Int) = ((0 : Nat) : Int)) ∨ ¬ yb k) ∨ a < 1) ∨ sp < 1) ∨ 1099511627776 < sp ↔ yd s k a sp := by
  rw [← larg, or_assoc]
  refine or_congr Iff.rfl ?_
  unfold yV; omega
section
variable {s : Nat} {k : ByteArray} {a sp : Int} {bs : List BudD} {ls : List LeaD}
theorem zJy (h : yd s k a sp) : xI s k a sp bs ls = 1 := if_pos h
theorem zKH (h : ¬ yd s k a sp) (h2 : yN k bs = 0) : xI s k a sp bs ls = 8 := by
  unfold xI; rw [if_neg h, if_pos h2]
theorem zJw (h : ¬ yd s k a sp) (h2 : ¬ yN k bs = 0) (h3 : 9223372036854775807 < yD k ls + a) : xI s k a sp bs ls = 3 := by
  unfold xI; rw [if_neg h, if_neg h2, if_pos h3]
theorem zH1 (h : ¬ yd s k a sp) (h2 : ¬ yN k bs = 0) (h3 : ¬ 9223372036854775807 < yD k ls + a) (h4 : yN k bs < yD k ls + a) : xI s k a sp bs ls = 16 := by
  unfold xI; rw [if_neg h, if_neg h2, if_neg h3, if_pos h4]
theorem zJf (h : ¬ yd s k a sp) (h2 : ¬ yN k bs = 0) (h3 : ¬ 9223372036854775807 < yD k ls + a) (h4 : ¬ yN k bs < yD k ls + a) (h5 : 128 ≤ ((ls.length : Nat) : Int)) : xI s k a sp bs ls = 7 := by
  unfold xI; rw [if_neg h, if_neg h2, if_neg h3, if_neg h4, if_pos (by omega)]
theorem zF7 (h : ¬ yd s k a sp) (h2 : ¬ yN k bs = 0) (h3 : ¬ 9223372036854775807 < yD k ls + a) (h4 : ¬ yN k bs < yD k ls + a) (h5 : ¬ 128 ≤ ((ls.length : Nat) : Int)) : xI s k a sp bs ls = 0 := by
  unfold xI; rw [if_neg h, if_neg h2, if_neg h3, if_neg h4, if_neg (by omega)]
theorem zFc {n m e : Int} (h : (9223372036854775807 < n + a ∧ e = 3 ∧ m = 0) ∨ (n + a ≤ 9223372036854775807 ∧ e = 0 ∧ m = n + a)) :
    (9223372036854775807 < n + a ∧ e = 3) ∨ (¬ 9223372036854775807 < n + a ∧ e = 0 ∧ m = n + a) := by omega
theorem ki {n m e : Int} (h : (9223372036854775807 < n + a ∧ e = 3) ∨ (¬ 9223372036854775807 < n + a ∧ e = 0 ∧ m = n + a)) (he : e ≠ 0) : 9223372036854775807 < n + a ∧ e = 3 := by
  rcases h with h | h
  · exact h
  · exact absurd h.2.1 he
theorem xW {n m e : Int} (h : (9223372036854775807 < n + a ∧ e = 3) ∨ (¬ 9223372036854775807 < n + a ∧ e = 0 ∧ m = n + a)) (he : ¬ e ≠ 0) : ¬ 9223372036854775807 < n + a ∧ m = n + a := by omega
end
theorem xU {now n e : Int} {ls : List LeaD} (h : yT now n = e) (he : e ≠ 0) : e = yT now n ∧ now = jx now n ∧ ls = jL now n ls ∧ [] = zHT now n ls := by
  have h0 : ¬ yT now n = 0 := by rw [h]; exact he
  exact ⟨h.symm, (if_neg h0).symm, (if_neg h0).symm, (if_neg h0).symm⟩
theorem zDc {t : Int} {ls : List LeaD} {k : Nat} (hk : k < ls.length) (h : (zJ ls k).until_ ≤ t) : ((ls.take k).filter (x7 t)).map (·.id) ++ [(zJ ls k).id] = ((ls.take (k + 1)).filter (x7 t)).map (·.id) ∧ (ls.take k).filter (fun l => !x7 t l) = (ls.take (k + 1)).filter (fun l => !x7 t l) := by
  rw [yJ hk, List.filter_append, List.filter_append, List.filter_cons_of_pos (by simpa [x7] using h), List.filter_cons_of_neg (by simpa [x7] using h)]
  simp
theorem zDC {t : Int} {ls : List LeaD} {k : Nat} (hk : k < ls.length) (h : ¬ (zJ ls k).until_ ≤ t) : ((ls.take k).filter (x7 t)).map (·.id) = ((ls.take (k + 1)).filter (x7 t)).map (·.id) ∧ (ls.take k).filter (fun l => !x7 t l) ++ [zJ ls k] = (ls.take (k + 1)).filter (fun l => !x7 t l) := by
  rw [yJ hk, List.filter_append, List.filter_append, List.filter_cons_of_neg (by simpa [x7] using h), List.filter_cons_of_pos (by simpa [x7] using h)]
  simp
theorem zE6 (p : LeaD → Bool) (ls : List LeaD) (k : Nat) : ((ls.take k).filter p).length ≤ ls.length := Nat.le_trans (List.length_filter_le _ _) (List.length_take_le' _ _)
theorem zDr (k : ByteArray) (w : World) : Rets Tryz.prog 38 #[.string k] w fun u_ w' => u_ = .bool (decide (yb k)) ∧ Own w [] [] w' := by
  refine zd Tryz.func38 rfl Tryz.ntmps38 (Own.start w) ?_
  refine zB (zE rfl (zA (zB (zC rfl (zBf (by kernel_rfl) rfl rfl (yQ rfl rfl rfl (zC rfl (z7 (q := 1 ≤ ((k.size : Nat) : Int)) 3 3 [9, 8, 7] (((k.size : Nat) : Int) ≤ 64) rfl rfl rfl rfl rfl rfl trivial rfl (fun h1_3 => ?_) (fun g1_7 => ?_)))))))))
  ·
   refine zQ rfl (gT h1_3) (zC rfl (zQ rfl (gT h1_3) (zBf (by kernel_rfl) rfl rfl (zQ rfl (gT h1_3) (jE rfl rfl rfl ?_)))))
   exact yH rfl (fun _ hw => hw)
  refine zE rfl (zA ?_)
  exact zN (zu (v := .bool (decide ((1 ≤ ((k.size : Nat) : Int)) ∧ (((k.size : Nat) : Int) ≤ 64)))) rfl rfl (fun w' hw => ⟨(by congr 1; exact decide_eq_decide.2 (by unfold yb; omega)), hw.drop⟩))
theorem zJn (a c : Int) (w : World) (ha : 0 ≤ a ∧ a ≤ 9223372036854775807) (hc : 0 ≤ c ∧ c ≤ 9223372036854775807) : Rets Tryz.prog 39 #[Vi a, Vi c] w fun u_ w' => ∃ (n e : Int), u_ = .tuple #[Vi n, Vi e] ∧ ((9223372036854775807 < a + c ∧ e = 3 ∧ n = 0) ∨ (a + c ≤ 9223372036854775807 ∧ e = 0 ∧ n = a + c)) ∧ Own w [] [] w' := by
  refine zd Tryz.func39 rfl Tryz.ntmps39 (Own.start w) ?_
  refine zB (zE rfl (zE rfl (zA (zK (zB (zC rfl (yQ rfl rfl rfl (zC rfl (z7 (q := 0 ≤ c) 4 2 [12, 11, 10, 9] ((9223372036854775807 - c) < a) rfl rfl rfl rfl rfl rfl trivial rfl (fun h1_2 => ?_) (fun g1_7 => ?_))))))))))
  ·
   refine zQ rfl (gT h1_2) (zC rfl (zQ rfl (gT h1_2) (zC rfl (zQ rfl (gT h1_2) (yO rfl rfl (zq (by omega)) rfl (zQ rfl (gT h1_2) (xF rfl rfl rfl ?_)))))))
   exact yH rfl (fun _ hw => hw)
  refine zC rfl (yn (q := (0 ≤ c) ∧ ((9223372036854775807 - c) < a)) 8 8 [22, 21, 20, 19, 18, 17, 16, 15] ((c < 0) ∧ (a < ((-9223372036854775808) - c))) rfl rfl rfl rfl rfl rfl trivial rfl (fun h1_8 => ?_) (fun g1_17 => ?_))
  ·
   refine zQ rfl (gF h1_8) (zC rfl (zQ rfl (gF h1_8) (yA rfl rfl rfl (zQ rfl (gF h1_8) (zC rfl (z7 (q := c < 0) 4 11 [21, 20, 19, 18] (a < ((-9223372036854775808) - c)) rfl rfl rfl rfl rfl rfl ⟨_, rfl, rfl, gF h1_8⟩ rfl (fun h1_11 => ?_) (fun g1_16 => ?_)))))))
   ·
    refine zQ rfl (gT h1_11) (zC rfl (zQ rfl (gT h1_11) (zC rfl (zQ rfl (gT h1_11) (yO rfl rfl (zq (by omega)) rfl (zQ rfl (gT h1_11) (yA rfl rfl rfl ?_)))))))
    exact yH rfl (fun _ hw => hw)
   exact yH rfl (fun _ hw => hw)
  refine zA (zT rfl (fun c1 => ?_) (fun c1 => ?_))
  ·
   refine zB (zE rfl (zE rfl (zA ?_)))
   exact zN (ye (v := Vi 0) (v' := Vi 3) rfl rfl rfl (fun w' hw => ⟨0, 3, rfl, .inl ⟨by omega, rfl, rfl⟩, hw.drop⟩))
  ·
   refine zI (zB (zC rfl (zC rfl (zt rfl rfl (zq (by omega)) rfl (zE rfl (zE rfl (zA ?_)))))))
   exact zN (ye (v := Vi (a + c)) (v' := Vi 0) rfl rfl rfl (fun w' hw => ⟨a + c, 0, rfl, .inr ⟨by omega, rfl, rfl⟩, hw.drop⟩))
theorem zBB {S : List Nat} (wb te : Nat) (xs : List Value) (now : Int) (cnt : Nat) (bv lv : Value) (bs : List BudD) (ls : List LeaD) (k : ByteArray) (w : World) (ho : QOk now cnt bs ls) (hin : Own w S [Res.row wb te (Vi now :: Vn cnt :: bv :: lv :: xs), Res.vec 105 2 bv bs.length (bs.flatMap BudD.cells), Res.vec 77 5 lv ls.length (ls.flatMap LeaD.cells)] w) : Rets Tryz.prog 37 #[.pointer (some ⟨wb, 0, none⟩), .string k] w fun u_ w' => u_ = .tuple #[Vi (yN k bs), Vi (yD k ls)] ∧ Own w S [Res.row wb te (Vi now :: Vn cnt :: bv :: lv :: xs), Res.vec 105 2 bv bs.length (bs.flatMap BudD.cells), Res.vec 77 5 lv ls.length (ls.flatMap LeaD.cells)] w' := by
  have hbl := ho.blen
  have hll := ho.llen
  refine zd Tryz.func37 rfl Tryz.ntmps37 hin ?_
  refine zB (zE rfl (zE rfl (zA (zB (zE rfl (zA (zK (zB (zE rfl (zA (zX ?_)))))))))))
  refine xC (fun (i : Nat) (n : Int) => [(0, .pointer (some ⟨wb, 0, none⟩)), (1, .string k), (6, Vi n), (7, Vj i)]) (fun (i : Nat) (n : Int) => i ≤ bs.length ∧ n = yN k (bs.take i)) (fun (i : Nat) (n : Int) => [Res.row wb te (Vi now :: Vn cnt :: bv :: lv :: xs), Res.vec 105 2 bv bs.length (bs.flatMap BudD.cells), Res.vec 77 5 lv ls.length (ls.flatMap LeaD.cells)]) (fun (i : Nat) (n : Int) => bs.length - i) (fun w' hw => ⟨0, 0, ⟨rfl, rfl, rfl, rfl, trivial⟩, ⟨Nat.zero_le _, rfl⟩, hw⟩) (fun i n g hΦ => ?_)
  have hi := hΦ.1
  have hn := hΦ.2
  refine zK (zB (zC rfl (zC rfl (zp rfl rfl (zM (o := 2) rfl rfl (zU 0 (v := bv) rfl rfl rfl rfl (yM (pV 1 rfl) rfl rfl (yA rfl rfl rfl (zA (zT rfl (fun c1 => ?_) (fun c1 => ?_)))))))))))
  ·
   refine zI (zK (zX (zB (zC rfl (zp rfl rfl (zM (o := 2) rfl rfl (zU 0 (v := bv) rfl rfl rfl rfl (zC rfl (zG (pV 1 rfl) 2 i rfl rfl rfl (by omega) rfl (zM (o := 0) rfl rfl (zR (pV 1 rfl) 2 i 0 (off := yU bv + i * 2 + 0) (fun _ => rfl) rfl (by omega) (by omega) rfl rfl (zC rfl ?_))))))))))))
   refine zEu rfl rfl rfl (zA (zT rfl (fun c2 => ?_) (fun c2 => ?_)))
   ·
    refine zb (zC rfl (zp rfl rfl (zM (o := 2) rfl rfl (zU 0 (v := bv) rfl rfl rfl rfl (zC rfl (zG (pV 1 rfl) 2 i rfl rfl rfl (by omega) rfl (zM (o := 1) rfl rfl (zR (pV 1 rfl) 2 i 1 (off := yU bv + i * 2 + 1) (fun _ => rfl) rfl (by omega) (by omega) rfl rfl (zE rfl (zA (zb (zC rfl ?_))))))))))))
    refine zt rfl rfl (zq (by omega)) rfl (zE rfl ?_)
    exact ze (fun w' hw => ⟨i + 1, (zJ bs i).amount, ⟨rfl, rfl, rfl, rfl, trivial⟩, ⟨by omega, by rw [zBN ho.bnd (by omega), if_pos c2]⟩, hw, (by omega)⟩)
   ·
    refine zI (zb (zC rfl (zt rfl rfl (zq (by omega)) rfl (zE rfl ?_))))
    exact ze (fun w' hw => ⟨i + 1, n, ⟨rfl, rfl, rfl, rfl, trivial⟩, ⟨by omega, by rw [zBN ho.bnd (by omega), if_neg c2]; exact hn⟩, hw, (by omega)⟩)
  ·
   refine z8 rfl (zB (zE rfl (zA (zK (zB (zE rfl (zA (zX ?_))))))))
   refine xC (fun (j : Nat) (m : Int) => [(0, .pointer (some ⟨wb, 0, none⟩)), (1, .string k), (6, Vi n), (8, Vi m), (9, Vj j)]) (fun (j : Nat) (m : Int) => j ≤ ls.length ∧ m = yD k (ls.take j)) (fun (j : Nat) (m : Int) => [Res.row wb te (Vi now :: Vn cnt :: bv :: lv :: xs), Res.vec 105 2 bv bs.length (bs.flatMap BudD.cells), Res.vec 77 5 lv ls.length (ls.flatMap LeaD.cells)]) (fun (j : Nat) (m : Int) => ls.length - j) (fun w' hw => ⟨0, 0, ⟨rfl, rfl, rfl, rfl, rfl, trivial⟩, ⟨Nat.zero_le _, rfl⟩, hw⟩) (fun j m g hΦ => ?_)
   have hj := hΦ.1
   have hm := hΦ.2
   refine zK (zB (zC rfl (zC rfl (zp rfl rfl (zM (o := 3) rfl rfl (zU 0 (v := lv) rfl rfl rfl rfl (yM (pV 2 rfl) rfl rfl (yA rfl rfl rfl (zA (zT rfl (fun c3 => ?_) (fun c3 => ?_)))))))))))
   ·
    refine zI (zK (zX (zB (zC rfl (zp rfl rfl (zM (o := 3) rfl rfl (zU 0 (v := lv) rfl rfl rfl rfl (zC rfl (zG (pV 2 rfl) 5 j rfl rfl rfl (by omega) rfl (zM (o := 2) rfl rfl (zR (pV 2 rfl) 5 j 2 (off := yU lv + j * 5 + 2) (fun _ => rfl) rfl (by omega) (by omega) rfl rfl (zC rfl ?_))))))))))))
    refine zEu rfl rfl rfl (zA (zT rfl (fun c4 => ?_) (fun c4 => ?_)))
    ·
     refine zb (zC rfl (zC rfl (zp rfl rfl (zM (o := 3) rfl rfl (zU 0 (v := lv) rfl rfl rfl rfl (zC rfl (zG (pV 2 rfl) 5 j rfl rfl rfl (by omega) rfl (zM (o := 3) rfl rfl (zR (pV 2 rfl) 5 j 3 (off := yU lv + j * 5 + 3) (fun _ => rfl) rfl (by omega) (by omega) rfl rfl (zt (c := IntKind.i64.wrap (m + (zJ ls j).amount)) rfl rfl rfl rfl (zE rfl (zA ?_))))))))))))
     refine zb (zC rfl (zt rfl rfl (zq (by omega)) rfl (zE rfl ?_)))
     exact ze (fun w' hw => ⟨j + 1, IntKind.i64.wrap (m + (zJ ls j).amount), ⟨rfl, rfl, rfl, rfl, rfl, trivial⟩, ⟨by omega, zFo hm (by omega) c4⟩, hw, (by omega)⟩)
    ·
     refine zI (zb (zC rfl (zt rfl rfl (zq (by omega)) rfl (zE rfl ?_))))
     exact ze (fun w' hw => ⟨j + 1, m, ⟨rfl, rfl, rfl, rfl, rfl, trivial⟩, ⟨by omega, zGx hm (by omega) c4⟩, hw, (by omega)⟩)
   ·
    refine z8 rfl (zB (zC rfl (zC rfl (zE rfl (zE rfl (zA ?_))))))
    exact zN (ye (v := Vi n) (v' := Vi m) rfl rfl rfl (fun w' hw => ⟨(by rw [hn, hm, List.take_of_length_le (by omega), List.take_of_length_le (by omega)]), hw⟩))
theorem zKB {S : List Nat} (wb te : Nat) (xs : List Value) (now : Int) (cnt : Nat) (bv lv : Value) (bs : List BudD) (ls : List LeaD) (k : ByteArray) (a : Int) (w : World) (ho : QOk now cnt bs ls) (hin : Own w S [Res.row wb te (Vi now :: Vn cnt :: bv :: lv :: xs), Res.vec 105 2 bv bs.length (bs.flatMap BudD.cells), Res.vec 77 5 lv ls.length (ls.flatMap LeaD.cells)] w) : Rets Tryz.prog 24 #[.pointer (some ⟨wb, 0, none⟩), .string k, Vi a] w fun u_ w' => ∃ (n e : Int) (bv' : Value) (bs' : List BudD), u_ = .tuple #[Vi n, Vi e] ∧ e = zAJ k a bs ∧ bs' = zAk k a bs ∧ (n = if e = 0 then yD k ls else 0) ∧ Own w S [Res.row wb te (Vi now :: Vn cnt :: bv' :: lv :: xs), Res.vec 105 2 bv' bs'.length (bs'.flatMap BudD.cells), Res.vec 77 5 lv ls.length (ls.flatMap LeaD.cells)] w' := by
  have hbl := ho.blen
  refine zd Tryz.func24 rfl Tryz.ntmps24 hin ?_
  refine zB (zE rfl (zE rfl (zA (zK (zB (zC rfl (zP rfl rfl (fun w' hw => (zDr k w').mono ?_))))))))
  rintro _ w1 ⟨rfl, hO⟩
  refine (?_ : CL _ _ _ _ _ _ (Own w S [Res.row wb te (Vi now :: Vn cnt :: bv :: lv :: xs), Res.vec 105 2 bv bs.length (bs.flatMap BudD.cells), Res.vec 77 5 lv ls.length (ls.flatMap LeaD.cells)])) w1 (hw.frame0 hO)
  refine xf (q := yb k) rfl rfl (zC rfl (yn (q := ¬ (yb k)) 2 3 [19, 18] (a < 0) rfl rfl rfl rfl rfl rfl trivial rfl (fun h1_3 => ?_) (fun g1_6 => ?_)))
  ·
   refine zQ rfl (gF h1_3) (zC rfl (zQ rfl (gF h1_3) (yA rfl rfl rfl ?_)))
   exact yH rfl (fun _ hw => hw)
  refine zA (zT rfl (fun c1 => ?_) (fun c1 => ?_))
  ·
   refine zB (zE rfl (zE rfl (zA ?_)))
   exact zN (ye (v := Vi 0) (v' := Vi 1) rfl rfl rfl (fun w' hw => ⟨0, 1, bv, bs, rfl, (zC1 c1).symm, zDf (zC1 c1) (by decide), rfl, hw⟩))
  ·
   refine zI (zB (zC rfl (zC rfl (zP rfl rfl (fun w' hw => (zBB wb te (xs) now cnt bv lv bs ls k w' ‹_› (hw.give [0, 1, 2] rfl (by decide))).mono ?_)))))
   rintro _ w1 ⟨rfl, hO⟩
   refine (?_ : CL _ _ _ _ _ _ (Own w S [Res.row wb te (Vi now :: Vn cnt :: bv :: lv :: xs), Res.vec 105 2 bv bs.length (bs.flatMap BudD.cells), Res.vec 77 5 lv ls.length (ls.flatMap LeaD.cells)])) w1 (hw.frameL [0, 1, 2] rfl hO)
   refine zC rfl (zr (vs := [Vi (yN k bs), Vi (yD k ls)]) rfl rfl rfl (zr (vs := [Vi (yN k bs), Vi (yD k ls)]) rfl rfl rfl (zE rfl (zE rfl (zA (zK (zB (zC rfl (yX rfl rfl rfl (zC rfl (z7 (q := (yN k bs) = 0) 2 2 [31, 30] (0 < a) rfl rfl rfl rfl rfl rfl trivial rfl (fun h4_2 => ?_) (fun g4_5 => ?_))))))))))))
   ·
    refine zQ rfl (gT h4_2) (zC rfl (zQ rfl (gT h4_2) (xF rfl rfl rfl ?_)))
    exact yH rfl (fun _ hw => hw)
   refine zC rfl (z7 (q := ((yN k bs) = 0) ∧ (0 < a)) 6 6 [39, 38, 37, 36, 35, 34] (64 ≤ ((bs.length : Nat) : Int)) rfl rfl rfl rfl rfl rfl trivial rfl (fun h4_6 => ?_) (fun g4_13 => ?_))
   ·
    refine zQ rfl (gT h4_6) (zC rfl (zQ rfl (gT h4_6) (zp rfl rfl (zQ rfl (gT h4_6) (zM (o := 2) rfl rfl (zQ rfl (gT h4_6) (zU 0 (v := bv) rfl rfl rfl rfl (zQ rfl (gT h4_6) (yM (pV 1 rfl) rfl rfl (zQ rfl (gT h4_6) (yQ rfl rfl rfl ?_)))))))))))
    exact yH rfl (fun _ hw => hw)
   refine zA (zT rfl (fun c2 => ?_) (fun c2 => ?_))
   ·
    refine zB (zE rfl (zE rfl (zA ?_)))
    exact zN (ye (v := Vi 0) (v' := Vi 7) rfl rfl rfl (fun w' hw => ⟨0, 7, bv, bs, rfl, (zCT c1 c2).symm, zDf (zCT c1 c2) (by decide), rfl, hw⟩))
   ·
    refine zI (zB (zE rfl (zA (zB (zC rfl (yX rfl rfl rfl (zE rfl (zA (zK (zB (zE rfl (zA ?_))))))))))))
    refine zX ?_
    refine zCi (fun (i : Nat) (p : Bool) (ov : Value) (os : List BudD) => [(0, .pointer (some ⟨wb, 0, none⟩)), (1, .string k), (2, Vi a), (9, Vi (yD k ls)), (10, ov), (11, .bool p), (12, Vj i)]) (fun (i : Nat) (p : Bool) (ov : Value) (os : List BudD) => i ≤ bs.length ∧ (p, os) = (bs.take i).foldl (y4 k a) (decide (a = 0), []) ∧ os.length ≤ 2 * i) (fun (i : Nat) (p : Bool) (ov : Value) (os : List BudD) => [Res.row wb te (Vi now :: Vn cnt :: bv :: lv :: xs), Res.vec 105 2 bv bs.length (bs.flatMap BudD.cells), Res.vec 77 5 lv ls.length (ls.flatMap LeaD.cells), Res.vec 105 2 ov os.length (os.flatMap BudD.cells)]) (fun (i : Nat) (p : Bool) (ov : Value) (os : List BudD) => bs.length - i) (fun w' hw => ⟨0, decide (a = 0), .slice none 0 0, [], ⟨rfl, rfl, rfl, rfl, rfl, rfl, rfl, trivial⟩, ⟨Nat.zero_le _, rfl, Nat.le_refl _⟩, (yW hw 105 2)⟩) (fun i p ov os g hΦ => ?_)
    have hi := hΦ.1
    have hI := hΦ.2.1
    have hol := hΦ.2.2
    refine zK (zB (zC rfl (zC rfl (zp rfl rfl (zM (o := 2) rfl rfl (zU 0 (v := bv) rfl rfl rfl rfl (yM (pV 1 rfl) rfl rfl (yA rfl rfl rfl (zA (zT rfl (fun c3 => ?_) (fun c3 => ?_)))))))))))
    ·
     refine zI (zK (zX (zB (zC rfl (zp rfl rfl (zM (o := 2) rfl rfl (zU 0 (v := bv) rfl rfl rfl rfl (zC rfl (zG (pV 1 rfl) 2 i rfl rfl rfl (by omega) rfl (xm (pV 1 rfl) 2 i (off := yU bv + i * 2) (fun _ => rfl) rfl rfl (by omega) rfl (yG (v := .agg #[.string (⟨#[]⟩ : ByteArray), Vi 0]) (by kernel_rfl) rfl (fun b13 => zi 4 rfl rfl rfl (zx rfl) rfl ?_))))))))))))
     refine zA (zK (zB (zC rfl (kL (b := p) rfl rfl (zC rfl (z7 (q := (!p) = true) 4 2 [65, 64, 63, 62] (sLe k ((zJ bs i).key)) rfl rfl (yt _) rfl rfl rfl trivial rfl (fun h12_2 => ?_) (fun g12_7 => ?_)))))))
     ·
      refine zQ rfl (bT h12_2) (zM (o := 0) rfl rfl (zQ rfl (bT h12_2) (zU 4 (v := .string ((zJ bs i).key)) rfl rfl rfl rfl (zQ rfl (bT h12_2) (zC rfl (zQ rfl (bT h12_2) (zKw rfl rfl rfl ?_)))))))
      exact yH rfl (fun _ hw => hw)
     refine zA (zT rfl (fun c4 => ?_) (fun c4 => ?_))
     ·
      refine zB (zC rfl (zC rfl (zC rfl (yB (cs := [.string k, Vi a]) (z := [.string (⟨#[]⟩ : ByteArray), Vi 0]) (pl := [(0, 1), (1, 1)]) (by kernel_rfl) (by kernel_rfl) rfl (yl (e := 105) (sz := 2) (vs := [.agg #[.string k, Vi a]]) (by kernel_rfl) rfl rfl (by simp [Value.cells, BudD.cells]) (by decide) rfl (fun b71 => yq (g := BudD.cells) (sz := 2) (by' := 24) (fun _ => rfl) (l := os) (l' := [({ key := k, amount := a } : BudD)]) (by simp [cell1, BudD.cells, vu]) 3 (by kernel_rfl) rfl rfl rfl (fun w' hw' => Vec.sl (Own.holds hw' 5 _ rfl)) (by first | omega | (simp; omega)) (by decide) rfl (fun v72 => zE rfl (zA (zb (zE rfl (zA (zB ?_))))))))))))
      refine zM (o := 0) rfl rfl (zU 4 (v := .string ((zJ bs i).key)) rfl rfl rfl rfl (zC rfl (zEt rfl rfl rfl (zA (zT rfl (fun c5 => ?_) (fun c5 => ?_))))))
      ·
       refine zb (zC rfl (yP (cs := (BudD.cells (zJ bs i))) 4 rfl rfl rfl (yl (e := 105) (sz := 2) (vs := [.agg (BudD.cells (zJ bs i)).toArray]) (by kernel_rfl) rfl rfl (by simp [Value.cells, BudD.cells]) (by decide) rfl (fun b79 => yq (g := BudD.cells) (sz := 2) (by' := 24) (fun _ => rfl) (l := os ++ [({ key := k, amount := a } : BudD)]) (l' := [(zJ bs i)]) (by simp [cell1, BudD.cells, vu]) 3 (by kernel_rfl) rfl rfl rfl (fun w' hw' => Vec.sl (Own.holds hw' 6 _ rfl)) (by first | omega | (simp; omega)) (by decide) rfl (fun v80 => zE rfl (zA (zb (zC rfl (zt rfl rfl (zq (by omega)) rfl (zE rfl ?_))))))))))
       exact ze (fun w' hw => ⟨i + 1, true, v80, os ++ [⟨k, a⟩] ++ [zJ bs i], ⟨rfl, rfl, rfl, rfl, rfl, rfl, rfl, trivial⟩, ⟨by omega, (zLd ⟨zKA c4.1, c4.2⟩ c5).trans (jj hI (by omega)), by simp; omega⟩, hw.sel [0, 1, 2, 3] rfl (by decide), (by omega)⟩)
      ·
       refine zI (zb (zC rfl (zt rfl rfl (zq (by omega)) rfl (zE rfl ?_))))
       exact ze (fun w' hw => ⟨i + 1, true, v72, os ++ [⟨k, a⟩], ⟨rfl, rfl, rfl, rfl, rfl, rfl, rfl, trivial⟩, ⟨by omega, (zLb ⟨zKA c4.1, c4.2⟩ c5).trans (jj hI (by omega)), by simp; omega⟩, hw.sel [0, 1, 2, 3] rfl (by decide), (by omega)⟩)
     ·
      refine zI (zB (zM (o := 0) rfl rfl (zU 4 (v := .string ((zJ bs i).key)) rfl rfl rfl rfl (zC rfl (zEt rfl rfl rfl (zA (zT rfl (fun c6 => ?_) (fun c6 => ?_))))))))
      ·
       refine zb (zC rfl (yP (cs := (BudD.cells (zJ bs i))) 4 rfl rfl rfl (yl (e := 105) (sz := 2) (vs := [.agg (BudD.cells (zJ bs i)).toArray]) (by kernel_rfl) rfl rfl (by simp [Value.cells, BudD.cells]) (by decide) rfl (fun b79 => yq (g := BudD.cells) (sz := 2) (by' := 24) (fun _ => rfl) (l := os) (l' := [(zJ bs i)]) (by simp [cell1, BudD.cells, vu]) 3 (by kernel_rfl) rfl rfl rfl (fun w' hw' => Vec.sl (Own.holds hw' 5 _ rfl)) (by first | omega | (simp; omega)) (by decide) rfl (fun v80 => zE rfl (zA (zb (zC rfl (zt rfl rfl (zq (by omega)) rfl (zE rfl ?_))))))))))
       exact ze (fun w' hw => ⟨i + 1, p, v80, os ++ [zJ bs i], ⟨rfl, rfl, rfl, rfl, rfl, rfl, rfl, trivial⟩, ⟨by omega, (zLo (fun q => c4 ⟨zIs q.1, q.2⟩) c6).trans (jj hI (by omega)), by simp; omega⟩, hw.sel [0, 1, 2, 3] rfl (by decide), (by omega)⟩)
      ·
       refine zI (zb (zC rfl (zt rfl rfl (zq (by omega)) rfl (zE rfl ?_))))
       exact ze (fun w' hw => ⟨i + 1, p, ov, os, ⟨rfl, rfl, rfl, rfl, rfl, rfl, rfl, trivial⟩, ⟨by omega, (zLl (fun q => c4 ⟨zIs q.1, q.2⟩) c6).trans (jj hI (by omega)), by omega⟩, hw.sel [0, 1, 2, 3] rfl (by decide), (by omega)⟩)
    ·
     refine z8 rfl (zK (zB (zC rfl (kL (b := p) rfl rfl (zA (kp rfl (fun c7 => ?_) (fun c7 => ?_)))))))
     ·
      refine zb (zC rfl (zC rfl (zC rfl (yB (cs := [.string k, Vi a]) (z := [.string (⟨#[]⟩ : ByteArray), Vi 0]) (pl := [(0, 1), (1, 1)]) (by kernel_rfl) (by kernel_rfl) rfl (yl (e := 105) (sz := 2) (vs := [.agg #[.string k, Vi a]]) (by kernel_rfl) rfl rfl (by simp [Value.cells, BudD.cells]) (by decide) rfl (fun b87 => yq (g := BudD.cells) (sz := 2) (by' := 24) (fun _ => rfl) (l := os) (l' := [({ key := k, amount := a } : BudD)]) (by simp [cell1, BudD.cells, vu]) 3 (by kernel_rfl) rfl rfl rfl (fun w' hw' => Vec.sl (Own.holds hw' 4 _ rfl)) (by first | omega | (simp; omega)) (by decide) rfl (fun v88 => zE rfl (zA (zB (zC rfl (zC rfl (zp rfl rfl ?_))))))))))))
      refine zM (o := 2) rfl rfl ?_
      refine yj (fun w' hw => Own.cell1Vec (i := 3) rfl hw) (fun hc1_ => ?_)
      refine y9 (cs := (Vi now :: Vn cnt :: bv :: lv :: xs)) 0 rfl rfl rfl hc1_ rfl (zA (zB (zC rfl (zE rfl (zE rfl (zA ?_))))))
      exact zN (ye (v := Vi (yD k ls)) (v' := Vi 0) rfl rfl rfl (fun w' hw => ⟨yD k ls, 0, v88, os ++ [⟨k, a⟩], rfl, (zBF c1 c2).symm, (by rw [← zDN (zBF c1 c2) hI (by omega), if_pos (zKA c7)]), rfl, hw.sel [0, 3, 2] rfl (by decide)⟩))
     ·
      refine zI (zB (zC rfl (zC rfl (zp rfl rfl (zM (o := 2) rfl rfl ?_)))))
      refine yj (fun w' hw => Own.cell1Vec (i := 3) rfl hw) (fun hc2_ => ?_)
      refine y9 (cs := (Vi now :: Vn cnt :: bv :: lv :: xs)) 0 rfl rfl rfl hc2_ rfl (zA (zB (zC rfl (zE rfl (zE rfl (zA ?_))))))
      exact zN (ye (v := Vi (yD k ls)) (v' := Vi 0) rfl rfl rfl (fun w' hw => ⟨yD k ls, 0, ov, os, rfl, (zBF c1 c2).symm, (by rw [← zDN (zBF c1 c2) hI (by omega), if_neg (by cases p <;> simp_all), List.append_nil]), rfl, hw.sel [0, 3, 2] rfl (by decide)⟩))
theorem zIn {S : List Nat} (wb te : Nat) (xs : List Value) (now : Int) (cnt : Nat) (bv lv : Value) (bs : List BudD) (ls : List LeaD) (s : Nat) (k : ByteArray) (a sp : Int) (w : World) (ho : QOk now cnt bs ls) (ha : y6 a) (hc : cnt ≤ 1000000000) (hin : Own w S [Res.row wb te (Vi now :: Vn cnt :: bv :: lv :: xs), Res.vec 105 2 bv bs.length (bs.flatMap BudD.cells), Res.vec 77 5 lv ls.length (ls.flatMap LeaD.cells)] w) : Rets Tryz.prog 25 #[.pointer (some ⟨wb, 0, none⟩), Vn s, .string k, Vi a, Vi sp] w fun u_ w' => ∃ (x : LeaD) (e : Int) (cnt' : Nat) (lv' : Value) (ls' : List LeaD), u_ = .tuple #[.agg (LeaD.cells x).toArray, Vi e] ∧ e = xI s k a sp bs ls ∧ x = kN e cnt s k a (now + sp) ∧ cnt' = zAX e cnt ∧ ls' = zA0 e x ls ∧ Own w S [Res.row wb te (Vi now :: Vn cnt' :: bv :: lv' :: xs), Res.vec 105 2 bv bs.length (bs.flatMap BudD.cells), Res.vec 77 5 lv' ls'.length (ls'.flatMap LeaD.cells)] w' := by
  have hll := ho.llen
  have ht := ho.time
  have hlen := ho.lent0 k
  refine zd Tryz.func25 rfl Tryz.ntmps25 hin ?_
  refine zB (yG (v := .agg #[Vn 0, Vn 0, .string (⟨#[]⟩ : ByteArray), Vi 0, Vi 0]) (by kernel_rfl) rfl (fun b10 => zE rfl (zA (zK (zB (zC rfl (yX rfl rfl rfl (zC rfl (yn (q := ((s : Nat) : Int) = ((0 : Nat) : Int)) 3 2 [22, 21, 20] (¬ (yb k)) rfl rfl rfl rfl rfl rfl trivial rfl (fun h1_2 => ?_) (fun g1_6 => ?_))))))))))
  ·
   refine zQ rfl (gF h1_2) (zC rfl (zQ rfl (gF h1_2) (zP rfl rfl (fun w' hw => (zDr k w').mono ?_))))
   rintro _ w1 ⟨rfl, hO⟩
   refine (?_ : CL _ _ _ _ _ _ (Own w S [Res.row wb te (Vi now :: Vn cnt :: bv :: lv :: xs), Res.vec 105 2 bv bs.length (bs.flatMap BudD.cells), Res.vec 77 5 lv ls.length (ls.flatMap LeaD.cells), Res.row b10 77 [Vn 0, Vn 0, .string (⟨#[]⟩ : ByteArray), Vi 0, Vi 0]])) w1 (hw.frame0 hO)
   refine zQ rfl (gF h1_2) (xf (q := yb k) rfl rfl ?_)
   exact yH rfl (fun _ hw => hw)
  refine zC rfl (yn (q := (((s : Nat) : Int) = ((0 : Nat) : Int)) ∨ (¬ (yb k))) 2 7 [26, 25] (a < 1) rfl rfl rfl rfl rfl rfl trivial rfl (fun h1_7 => ?_) (fun g1_10 => ?_))
  ·
   refine zQ rfl (gF h1_7) (zC rfl (zQ rfl (gF h1_7) (yA rfl rfl rfl ?_)))
   exact yH rfl (fun _ hw => hw)
  refine zC rfl (yn (q := ((((s : Nat) : Int) = ((0 : Nat) : Int)) ∨ (¬ (yb k))) ∨ (a < 1)) 2 11 [30, 29] (sp < 1) rfl rfl rfl rfl rfl rfl trivial rfl (fun h1_11 => ?_) (fun g1_14 => ?_))
  ·
   refine zQ rfl (gF h1_11) (zC rfl (zQ rfl (gF h1_11) (yA rfl rfl rfl ?_)))
   exact yH rfl (fun _ hw => hw)
  refine zC rfl (yn (q := (((((s : Nat) : Int) = ((0 : Nat) : Int)) ∨ (¬ (yb k))) ∨ (a < 1)) ∨ (sp < 1)) 2 15 [34, 33] (1099511627776 < sp) rfl rfl rfl rfl rfl rfl trivial rfl (fun h1_15 => ?_) (fun g1_18 => ?_))
  ·
   refine zQ rfl (gF h1_15) (zC rfl (zQ rfl (gF h1_15) (xF rfl rfl rfl ?_)))
   exact yH rfl (fun _ hw => hw)
  refine zA (zT rfl (fun c1 => ?_) (fun c1 => ?_))
  ·
   refine zB (yB (cs := [Vn 0, Vn 0, .string (⟨#[]⟩ : ByteArray), Vi 0, Vi 0]) (z := [Vn 0, Vn 0, .string (⟨#[]⟩ : ByteArray), Vi 0, Vi 0]) (pl := [(0, 1), (1, 1), (2, 1), (3, 1), (4, 1)]) (by kernel_rfl) (by kernel_rfl) rfl (zi 3 rfl rfl rfl (zx rfl) rfl (zE rfl (zA ?_))))
   exact zN (z5 (cs := [Vn 0, Vn 0, .string (⟨#[]⟩ : ByteArray), Vi 0, Vi 0]) (v := Vi 1) rfl rfl rfl (by kernel_rfl) (Own.rowCells (i := 3) rfl) (fun w' hw => ⟨LeaD.zero, 1, cnt, lv, ls, rfl, (zJy (zIt.1 c1)).symm, rfl, rfl, rfl, hw.sel [0, 1, 2] rfl (by decide)⟩))
  ·
   have hla : ¬ yd s k a sp := fun q => c1 (zIt.2 q)
   have hsp : 1 ≤ sp ∧ sp ≤ 1099511627776 := ⟨Int.not_lt.1 fun q => c1 (.inl (.inr q)), Int.not_lt.1 fun q => c1 (.inr q)⟩
   have ha1 : 1 ≤ a := Int.not_lt.1 fun q => c1 (.inl (.inl (.inr q)))
   refine zI (zB (zC rfl (zC rfl (zP rfl rfl (fun w' hw => (zBB wb te (xs) now cnt bv lv bs ls k w' ‹_› (hw.give [0, 1, 2] rfl (by decide))).mono ?_)))))
   rintro _ w1 ⟨rfl, hO⟩
   refine (?_ : CL _ _ _ _ _ _ (Own w S [Res.row b10 77 [Vn 0, Vn 0, .string (⟨#[]⟩ : ByteArray), Vi 0, Vi 0], Res.row wb te (Vi now :: Vn cnt :: bv :: lv :: xs), Res.vec 105 2 bv bs.length (bs.flatMap BudD.cells), Res.vec 77 5 lv ls.length (ls.flatMap LeaD.cells)])) w1 (hw.frameL [0, 1, 2] rfl hO)
   refine zC rfl (zr (vs := [Vi (yN k bs), Vi (yD k ls)]) rfl rfl rfl (zr (vs := [Vi (yN k bs), Vi (yD k ls)]) rfl rfl rfl (zE rfl (zE rfl (zA (zK (zB (zC rfl (yX rfl rfl rfl (zA (zT rfl (fun c2 => ?_) (fun c2 => ?_))))))))))))
   ·
    refine zB (yB (cs := [Vn 0, Vn 0, .string (⟨#[]⟩ : ByteArray), Vi 0, Vi 0]) (z := [Vn 0, Vn 0, .string (⟨#[]⟩ : ByteArray), Vi 0, Vi 0]) (pl := [(0, 1), (1, 1), (2, 1), (3, 1), (4, 1)]) (by kernel_rfl) (by kernel_rfl) rfl (zi 0 rfl rfl rfl (zx rfl) rfl (zE rfl (zA ?_))))
    exact zN (z5 (cs := [Vn 0, Vn 0, .string (⟨#[]⟩ : ByteArray), Vi 0, Vi 0]) (v := Vi 8) rfl rfl rfl (by kernel_rfl) (Own.rowCells (i := 0) rfl) (fun w' hw => ⟨LeaD.zero, 8, cnt, lv, ls, rfl, (zKH hla c2).symm, rfl, rfl, rfl, hw.sel [1, 2, 3] rfl (by decide)⟩))
   ·
    refine zI (zB (zC rfl (zC rfl (zP rfl rfl (fun w' hw => (zJn (yD k ls) a w' hlen ⟨by omega, ha.2⟩).mono ?_)))))
    rintro _ w1 ⟨n1_, e2_, rfl, hf6_2, hO⟩
    have hsum := zFc hf6_2
    refine (?_ : CL _ _ _ _ _ _ (Own w S [Res.row b10 77 [Vn 0, Vn 0, .string (⟨#[]⟩ : ByteArray), Vi 0, Vi 0], Res.row wb te (Vi now :: Vn cnt :: bv :: lv :: xs), Res.vec 105 2 bv bs.length (bs.flatMap BudD.cells), Res.vec 77 5 lv ls.length (ls.flatMap LeaD.cells)])) w1 (hw.frame0 hO)
    refine zC rfl (zr (vs := [Vi n1_, Vi e2_]) rfl rfl rfl (zr (vs := [Vi n1_, Vi e2_]) rfl rfl rfl (zE rfl (zE rfl (zA (zK (zB (zC rfl (kP rfl rfl rfl (zA (zT rfl (fun c3 => ?_) (fun c3 => ?_))))))))))))
    ·
     refine zB (yB (cs := [Vn 0, Vn 0, .string (⟨#[]⟩ : ByteArray), Vi 0, Vi 0]) (z := [Vn 0, Vn 0, .string (⟨#[]⟩ : ByteArray), Vi 0, Vi 0]) (pl := [(0, 1), (1, 1), (2, 1), (3, 1), (4, 1)]) (by kernel_rfl) (by kernel_rfl) rfl (zC rfl (zi 0 rfl rfl rfl (zx rfl) rfl (zE rfl (zA ?_)))))
     exact zN (z5 (cs := [Vn 0, Vn 0, .string (⟨#[]⟩ : ByteArray), Vi 0, Vi 0]) (v := Vi e2_) rfl rfl rfl (by kernel_rfl) (Own.rowCells (i := 0) rfl) (fun w' hw => ⟨LeaD.zero, e2_, cnt, lv, ls, rfl, (by rw [(ki hsum c3).2]; exact (zJw hla c2 (ki hsum c3).1).symm), (by rw [(ki hsum c3).2]; rfl), (by rw [(ki hsum c3).2]; rfl), (by rw [(ki hsum c3).2]; rfl), hw.sel [1, 2, 3] rfl (by decide)⟩))
    ·
     refine zI (zK (zB (zC rfl (zC rfl (xF rfl rfl rfl (zA (zT rfl (fun c4 => ?_) (fun c4 => ?_))))))))
     ·
      refine zB (yB (cs := [Vn 0, Vn 0, .string (⟨#[]⟩ : ByteArray), Vi 0, Vi 0]) (z := [Vn 0, Vn 0, .string (⟨#[]⟩ : ByteArray), Vi 0, Vi 0]) (pl := [(0, 1), (1, 1), (2, 1), (3, 1), (4, 1)]) (by kernel_rfl) (by kernel_rfl) rfl (zi 0 rfl rfl rfl (zx rfl) rfl (zE rfl (zA ?_))))
      exact zN (z5 (cs := [Vn 0, Vn 0, .string (⟨#[]⟩ : ByteArray), Vi 0, Vi 0]) (v := Vi 16) rfl rfl rfl (by kernel_rfl) (Own.rowCells (i := 0) rfl) (fun w' hw => ⟨LeaD.zero, 16, cnt, lv, ls, rfl, (zH1 hla c2 (xW hsum c3).1 (by rw [← (xW hsum c3).2]; exact c4)).symm, rfl, rfl, rfl, hw.sel [1, 2, 3] rfl (by decide)⟩))
     ·
      refine zI (zK (zB (zC rfl (zp rfl rfl (zM (o := 3) rfl rfl (zU 1 (v := lv) rfl rfl rfl rfl (yM (pV 3 rfl) rfl rfl (yQ rfl rfl rfl (zA (zT rfl (fun c5 => ?_) (fun c5 => ?_)))))))))))
      ·
       refine zB (yB (cs := [Vn 0, Vn 0, .string (⟨#[]⟩ : ByteArray), Vi 0, Vi 0]) (z := [Vn 0, Vn 0, .string (⟨#[]⟩ : ByteArray), Vi 0, Vi 0]) (pl := [(0, 1), (1, 1), (2, 1), (3, 1), (4, 1)]) (by kernel_rfl) (by kernel_rfl) rfl (zi 0 rfl rfl rfl (zx rfl) rfl (zE rfl (zA ?_))))
       exact zN (z5 (cs := [Vn 0, Vn 0, .string (⟨#[]⟩ : ByteArray), Vi 0, Vi 0]) (v := Vi 7) rfl rfl rfl (by kernel_rfl) (Own.rowCells (i := 0) rfl) (fun w' hw => ⟨LeaD.zero, 7, cnt, lv, ls, rfl, (zJf hla c2 (xW hsum c3).1 (by rw [← (xW hsum c3).2]; exact c4) c5).symm, rfl, rfl, rfl, hw.sel [1, 2, 3] rfl (by decide)⟩))
      ·
       refine zI (zB (zC rfl (zp rfl rfl (zM (o := 1) rfl rfl (zU 1 (v := Vn cnt) rfl rfl rfl rfl (zt rfl rfl (zCq (by omega)) rfl (zp rfl rfl (zM (o := 1) rfl rfl (y9 (cs := (Vi now :: Vn cnt :: bv :: lv :: xs)) 1 rfl rfl rfl rfl rfl (zA (zK (zc [0, 1, 2, 3] rfl (by decide) (by kernel_rfl) (fun w' hw hS => ?_)))))))))))))
       refine zD 0 rfl (zL) hS (zD 1 rfl (zn rfl) hS (zD 2 rfl (zY (o := 1) rfl) hS (zD 3 rfl (zj 1 (v := Vn (cnt + 1)) rfl rfl rfl) hS (zD 4 rfl (zL) hS (zD 5 rfl (zL) hS (zD 6 rfl (zL) hS (zD 7 rfl (zL) hS (zD 8 rfl (zn rfl) hS (zD 9 rfl (zY (o := 0) rfl) hS (zD 10 rfl (zj 1 (v := Vi now) rfl rfl rfl) hS (zD 11 rfl (zL) hS (zD 12 rfl (xV rfl rfl (zq (by omega))) hS ?_))))))))))))
       refine zD 13 rfl (zDX (cs := [Vn (cnt + 1), Vn s, .string k, Vi a, Vi (now + sp)]) (z := [Vn 0, Vn 0, .string (⟨#[]⟩ : ByteArray), Vi 0, Vi 0]) (pl := [(0, 1), (1, 1), (2, 1), (3, 1), (4, 1)]) (by kernel_rfl) (by kernel_rfl)) hS (zZ 14 rfl hw (yG (v := .agg #[Vn 0, Vn 0, .string (⟨#[]⟩ : ByteArray), Vi 0, Vi 0]) (by kernel_rfl) rfl (fun b16 => zF [0, 1, 2, 3] rfl (by decide) (fun w' hw hS => zZ 15 rfl hw (zi 4 rfl rfl rfl (zx rfl) rfl (zF [0, 1, 2, 3] rfl (by decide) (fun w' hw hS => zO ?_)))))))
       refine (?_ : C _ _ _ _ _ _ _ (Own w S [Res.row b10 77 [Vn 0, Vn 0, .string (⟨#[]⟩ : ByteArray), Vi 0, Vi 0], Res.row wb te (Vi now :: Vn (cnt + 1) :: bv :: lv :: xs), Res.vec 105 2 bv bs.length (bs.flatMap BudD.cells), Res.vec 77 5 lv ls.length (ls.flatMap LeaD.cells), Res.row b16 77 [Vn (cnt + 1), Vn s, .string k, Vi a, Vi (now + sp)]])) _ hw
       refine zK (zc [0, 2, 4] rfl (by decide) (by kernel_rfl) (fun w' hw hS => zD 0 rfl (zL) hS (zD 1 rfl (zL) hS (zD 2 rfl (zn rfl) hS (zD 3 rfl (zY (o := 3) rfl) hS (zD 5 rfl (jz (cs := [Vn (cnt + 1), Vn s, .string k, Vi a, Vi (now + sp)]) 2 rfl rfl) hS (za 4 6 ?_ ?_)))))))
       ·
        refine zW 4 rfl hw (zU 1 (v := lv) rfl rfl rfl rfl (zF [0, 2, 4] rfl (by decide) (fun w' hw hS => zZ 6 rfl hw (yl (e := 77) (sz := 5) (vs := [.agg #[Vn (cnt + 1), Vn s, .string k, Vi a, Vi (now + sp)]]) (by kernel_rfl) rfl rfl (by simp [Value.cells, LeaD.cells]) (by decide) rfl (fun b94 => zF [0, 2, 4] rfl (by decide) (fun w' hw hS => zZ 7 rfl hw (yq (g := LeaD.cells) (sz := 5) (by' := 48) (fun _ => rfl) (l := ls) (l' := [({ id := cnt + 1, session := s, key := k, amount := a, until_ := now + sp } : LeaD)]) (by simp [cell1, LeaD.cells, vu]) 3 (by kernel_rfl) rfl rfl rfl (fun w' hw' => Vec.sl (Own.holds hw' 5 _ rfl)) (by first | omega | (simp; omega)) (by decide) rfl (fun v95 => zF [0, 2, 4] rfl (by decide) (fun w' hw hS => zD 8 rfl (zn rfl) hS (zD 9 rfl (zY (o := 3) rfl) hS (zZ 10 rfl hw ?_)))))))))))
        refine yj (fun w' hw => Own.cell1Vec (i := 3) rfl hw) (fun hc2_ => ?_)
        refine y9 (cs := (Vi now :: Vn (cnt + 1) :: bv :: lv :: xs)) 1 rfl rfl rfl hc2_ rfl (zF [0, 2, 4] rfl (by decide) (fun w' hw hS => zO ?_))
        refine (?_ : C _ _ _ _ _ _ _ (Own w S [Res.row b10 77 [Vn 0, Vn 0, .string (⟨#[]⟩ : ByteArray), Vi 0, Vi 0], Res.row wb te (Vi now :: Vn (cnt + 1) :: bv :: v95 :: xs), Res.vec 105 2 bv bs.length (bs.flatMap BudD.cells), Res.vec 77 5 v95 (ls ++ [({ id := cnt + 1, session := s, key := k, amount := a, until_ := now + sp } : LeaD)]).length ((ls ++ [({ id := cnt + 1, session := s, key := k, amount := a, until_ := now + sp } : LeaD)]).flatMap LeaD.cells), Res.row b16 77 [Vn (cnt + 1), Vn s, .string k, Vi a, Vi (now + sp)], Res.vec 77 5 (.slice (some ⟨b94, 0, none⟩) 1 1) [({ id := cnt + 1, session := s, key := k, amount := a, until_ := now + sp } : LeaD)].length ([({ id := cnt + 1, session := s, key := k, amount := a, until_ := now + sp } : LeaD)].flatMap LeaD.cells)])) _ hw
        refine zB (yP (cs := [Vn (cnt + 1), Vn s, .string k, Vi a, Vi (now + sp)]) 4 rfl rfl rfl (zi 0 rfl rfl rfl (zx rfl) rfl (zE rfl (zA ?_))))
        exact zN (z5 (cs := [Vn (cnt + 1), Vn s, .string k, Vi a, Vi (now + sp)]) (v := Vi 0) rfl rfl rfl (by kernel_rfl) (Own.rowCells (i := 0) rfl) (fun w' hw => ⟨⟨cnt + 1, s, k, a, now + sp⟩, 0, cnt + 1, v95, ls ++ [⟨cnt + 1, s, k, a, now + sp⟩], rfl, (zF7 hla c2 (xW hsum c3).1 (by rw [← (xW hsum c3).2]; exact c4) c5).symm, rfl, rfl, rfl, hw.sel [1, 2, 3] rfl (by decide)⟩))
       ·
        refine zW 6 rfl hw (yl (e := 77) (sz := 5) (vs := [.agg #[Vn (cnt + 1), Vn s, .string k, Vi a, Vi (now + sp)]]) (by kernel_rfl) rfl rfl (by simp [Value.cells, LeaD.cells]) (by decide) rfl (fun b94 => zF [0, 2, 4] rfl (by decide) (fun w' hw hS => zZ 4 rfl hw (zU 1 (v := lv) rfl rfl rfl rfl (zF [0, 2, 4] rfl (by decide) (fun w' hw hS => zZ 7 rfl hw (yq (g := LeaD.cells) (sz := 5) (by' := 48) (fun _ => rfl) (l := ls) (l' := [({ id := cnt + 1, session := s, key := k, amount := a, until_ := now + sp } : LeaD)]) (by simp [cell1, LeaD.cells, vu]) 3 (by kernel_rfl) rfl rfl rfl (fun w' hw' => Vec.sl (Own.holds hw' 5 _ rfl)) (by first | omega | (simp; omega)) (by decide) rfl (fun v95 => zF [0, 2, 4] rfl (by decide) (fun w' hw hS => zD 8 rfl (zn rfl) hS (zD 9 rfl (zY (o := 3) rfl) hS (zZ 10 rfl hw ?_)))))))))))
        refine yj (fun w' hw => Own.cell1Vec (i := 3) rfl hw) (fun hc3_ => ?_)
        refine y9 (cs := (Vi now :: Vn (cnt + 1) :: bv :: lv :: xs)) 1 rfl rfl rfl hc3_ rfl (zF [0, 2, 4] rfl (by decide) (fun w' hw hS => zO ?_))
        refine (?_ : C _ _ _ _ _ _ _ (Own w S [Res.row b10 77 [Vn 0, Vn 0, .string (⟨#[]⟩ : ByteArray), Vi 0, Vi 0], Res.row wb te (Vi now :: Vn (cnt + 1) :: bv :: v95 :: xs), Res.vec 105 2 bv bs.length (bs.flatMap BudD.cells), Res.vec 77 5 v95 (ls ++ [({ id := cnt + 1, session := s, key := k, amount := a, until_ := now + sp } : LeaD)]).length ((ls ++ [({ id := cnt + 1, session := s, key := k, amount := a, until_ := now + sp } : LeaD)]).flatMap LeaD.cells), Res.row b16 77 [Vn (cnt + 1), Vn s, .string k, Vi a, Vi (now + sp)], Res.vec 77 5 (.slice (some ⟨b94, 0, none⟩) 1 1) [({ id := cnt + 1, session := s, key := k, amount := a, until_ := now + sp } : LeaD)].length ([({ id := cnt + 1, session := s, key := k, amount := a, until_ := now + sp } : LeaD)].flatMap LeaD.cells)])) _ hw
        refine zB (yP (cs := [Vn (cnt + 1), Vn s, .string k, Vi a, Vi (now + sp)]) 4 rfl rfl rfl (zi 0 rfl rfl rfl (zx rfl) rfl (zE rfl (zA ?_))))
        exact zN (z5 (cs := [Vn (cnt + 1), Vn s, .string k, Vi a, Vi (now + sp)]) (v := Vi 0) rfl rfl rfl (by kernel_rfl) (Own.rowCells (i := 0) rfl) (fun w' hw => ⟨⟨cnt + 1, s, k, a, now + sp⟩, 0, cnt + 1, v95, ls ++ [⟨cnt + 1, s, k, a, now + sp⟩], rfl, (zF7 hla c2 (xW hsum c3).1 (by rw [← (xW hsum c3).2]; exact c4) c5).symm, rfl, rfl, rfl, hw.sel [1, 2, 3] rfl (by decide)⟩))
def zGA (ls : List LeaD) (s i : Nat) (r : Int) : Prop := (r = -1 ∧ ∀ l ∈ ls, ¬ (l.id = i ∧ l.session = s)) ∨ (∃ k : Nat, r = (k : Int) ∧ k < ls.length ∧ (zJ ls k).id = i ∧ (zJ ls k).session = s)
theorem zDB {ls : List LeaD} {s i : Nat} {r : Int} (h : zGA ls s i r) (hr : r < 0) : ∀ l ∈ ls, ¬ (l.id = i ∧ l.session = s) := by
  rcases h with h | ⟨k, h, _⟩
  · exact h.2
  · omega
theorem zDe {ls : List LeaD} {s i : Nat} {r : Int} (h : zGA ls s i r) (hr : ¬ r < 0) : r.toNat < ls.length ∧ (zJ ls r.toNat).id = i ∧ (zJ ls r.toNat).session = s := by
  rcases h with h | ⟨k, rfl, h⟩
  · omega
  · simpa using h
theorem zLa {ls : List LeaD} {r : Int} (hr : ¬ r < 0) : (ls.take r.toNat).drop 0 ++ ls.drop (r + 1).toNat = ls.take r.toNat ++ ls.drop (r.toNat + 1) := by
  rw [show (r + 1).toNat = r.toNat + 1 by omega]; rfl
theorem zCG {l : LeaD} {t : Int} (h : l.until_ < t) : yz l t = ⟨l.id, l.session, l.key, l.amount, t⟩ := by
  unfold yz; rw [Int.max_eq_right (by omega)]
theorem zCS {l : LeaD} {t : Int} (h : ¬ l.until_ < t) : yz l t = l := by
  unfold yz; rw [Int.max_eq_left (by omega)]
theorem zH7 {α : Type} [Inhabited α] {l : List α} {k : Nat} {b : α} (h : k < l.length) : zJ (l.set k b) k = b := by simp [zJ, h]
theorem zGt {α : Type} [Inhabited α] {l : List α} {k : Nat} (h : k < l.length) : l = l.set k (zJ l k) := by
  apply List.ext_getElem?
  intro j
  rw [List.getElem?_set]
  split
  · rename_i e; subst e; exact xw h
  · rfl
theorem zEx {S : List Nat} (wb te : Nat) (xs : List Value) (now : Int) (cnt : Nat) (bv lv : Value) (bs : List BudD) (ls : List LeaD) (s i : Nat) (w : World) (hll : ls.length ≤ 128) (hin : Own w S [Res.row wb te (Vi now :: Vn cnt :: bv :: lv :: xs), Res.vec 77 5 lv ls.length (ls.flatMap LeaD.cells)] w) : Rets Tryz.prog 40 #[.pointer (some ⟨wb, 0, none⟩), Vn s, Vn i] w fun u_ w' => ∃ (r : Int), u_ = Vi r ∧ zGA ls s i r ∧ Own w S [Res.row wb te (Vi now :: Vn cnt :: bv :: lv :: xs), Res.vec 77 5 lv ls.length (ls.flatMap LeaD.cells)] w' := by
  refine zd Tryz.func40 rfl Tryz.ntmps40 hin ?_
  refine zB (zE rfl (zA (zK (zB (zE rfl (zA (zX ?_)))))))
  refine yu (fun (k : Nat) => [(0, .pointer (some ⟨wb, 0, none⟩)), (1, Vn s), (2, Vn i), (7, Vj k)]) (fun (k : Nat) => k ≤ ls.length ∧ ∀ l ∈ ls.take k, ¬ (l.id = i ∧ l.session = s)) (fun (k : Nat) => [Res.row wb te (Vi now :: Vn cnt :: bv :: lv :: xs), Res.vec 77 5 lv ls.length (ls.flatMap LeaD.cells)]) (fun (k : Nat) => ls.length - k) (fun w' hw => ⟨0, ⟨rfl, rfl, rfl, rfl, trivial⟩, ⟨Nat.zero_le _, by simp⟩, hw⟩) (fun k g hΦ => ?_)
  have hk1 := hΦ.1
  have hkI := hΦ.2
  refine zK (zB (zC rfl (zC rfl (zp rfl rfl (zM (o := 3) rfl rfl (zU 0 (v := lv) rfl rfl rfl rfl (yM (pV 1 rfl) rfl rfl (yA rfl rfl rfl (zA (zT rfl (fun c1 => ?_) (fun c1 => ?_)))))))))))
  ·
   refine zI (zK (zX (zB (zC rfl (zp rfl rfl (zM (o := 3) rfl rfl (zU 0 (v := lv) rfl rfl rfl rfl (zC rfl (zG (pV 1 rfl) 5 k rfl rfl rfl (by omega) rfl (zM (o := 0) rfl rfl (zR (pV 1 rfl) 5 k 0 (off := yU lv + k * 5 + 0) (fun _ => rfl) rfl (by omega) (by omega) rfl rfl (zC rfl ?_))))))))))))
   refine yX rfl rfl rfl (zC rfl (z7 (q := (((zJ ls k).id : Nat) : Int) = ((i : Nat) : Int)) 10 10 [37, 36, 35, 34, 33, 32, 31, 30, 29, 28] ((((zJ ls k).session : Nat) : Int) = ((s : Nat) : Int)) rfl rfl rfl rfl rfl rfl trivial rfl (fun h4_10 => ?_) (fun g4_21 => ?_)))
   ·
    refine zQ rfl (gT h4_10) (zC rfl (zQ rfl (gT h4_10) (zp rfl rfl (zQ rfl (gT h4_10) (zM (o := 3) rfl rfl (zQ rfl (gT h4_10) (zU 0 (v := lv) rfl rfl rfl rfl (zQ rfl (gT h4_10) (zC rfl (zQ rfl (gT h4_10) (zG (pV 1 rfl) 5 k rfl rfl rfl (by omega) rfl (zQ rfl (gT h4_10) ?_))))))))))))
    refine zM (o := 1) rfl rfl (zQ rfl (gT h4_10) (zR (pV 1 rfl) 5 k 1 (off := yU lv + k * 5 + 1) (fun _ => rfl) rfl (by omega) (by omega) rfl rfl (zQ rfl (gT h4_10) (zC rfl (zQ rfl (gT h4_10) (yX rfl rfl rfl ?_))))))
    exact yH rfl (fun _ hw => hw)
   refine zA (zT rfl (fun c2 => ?_) (fun c2 => ?_))
   ·
    refine zB (zC rfl (zE rfl (zA ?_)))
    exact zN (zu (v := Vj k) rfl rfl (fun w' hw => ⟨((k : Nat) : Int), rfl, .inr ⟨k, rfl, by omega, by omega, by omega⟩, hw⟩))
   ·
    refine zI (zb (zC rfl (zt rfl rfl (zq (by omega)) rfl (zE rfl ?_))))
    exact ze (fun w' hw => ⟨k + 1, ⟨rfl, rfl, rfl, rfl, trivial⟩, ⟨by omega, by rw [yJ (by omega)]; intro l hl; rcases List.mem_append.1 hl with q | q; exact hkI l q; rw [List.mem_singleton.1 q]; omega⟩, hw, (by omega)⟩)
  ·
   refine z8 rfl (zB (zE rfl (zA ?_)))
   exact zN (zu (v := Vi (-1)) rfl rfl (fun w' hw => ⟨-1, rfl, .inl ⟨rfl, by have := hkI; rwa [List.take_of_length_le (by omega)] at this⟩, hw⟩))
theorem zHt {S : List Nat} (wb te : Nat) (xs : List Value) (now : Int) (cnt : Nat) (bv lv : Value) (bs : List BudD) (ls : List LeaD) (n : Int) (w : World) (ht : 0 ≤ now ∧ now ≤ 2305843009213693952) (hn : y6 n) (hll : ls.length ≤ 128) (hin : Own w S [Res.row wb te (Vi now :: Vn cnt :: bv :: lv :: xs), Res.vec 77 5 lv ls.length (ls.flatMap LeaD.cells)] w) : Rets Tryz.prog 36 #[.pointer (some ⟨wb, 0, none⟩), Vi n] w fun u_ w' => ∃ (gv : Value) (gs : List Nat) (e now' : Int) (lv' : Value) (ls' : List LeaD), u_ = .tuple #[gv, Vi e] ∧ e = yT now n ∧ now' = jx now n ∧ ls' = jL now n ls ∧ gs = zHT now n ls ∧ Own w S [Res.row wb te (Vi now' :: Vn cnt :: bv :: lv' :: xs), Res.vec 77 5 lv' ls'.length (ls'.flatMap LeaD.cells), Res.vec 32 1 gv gs.length (gs.flatMap U1)] w' := by
  refine zd Tryz.func36 rfl Tryz.ntmps36 hin ?_
  refine zB (zE rfl (zE rfl (zA (zK (zB (zC rfl (yA rfl rfl rfl (zC rfl (yn (q := n < 0) 2 2 [13, 12] (1099511627776 < n) rfl rfl rfl rfl rfl rfl trivial rfl (fun h1_2 => ?_) (fun g1_5 => ?_))))))))))
  ·
   refine zQ rfl (gF h1_2) (zC rfl (zQ rfl (gF h1_2) (xF rfl rfl rfl ?_)))
   exact yH rfl (fun _ hw => hw)
  refine zA (zT rfl (fun c1 => ?_) (fun c1 => ?_))
  ·
   refine zB (zE rfl (zE rfl (zA ?_)))
   exact zN (ye (v := .slice none 0 0) (v' := Vi 1) rfl rfl rfl (fun w' hw => ⟨.slice none 0 0, [], 1, now, lv, ls, rfl, (xU (ls := ls) (jK c1) (by decide)).1, (xU (ls := ls) (jK c1) (by decide)).2.1, (xU (jK c1) (by decide)).2.2.1, (xU (jK c1) (by decide)).2.2.2, (yW hw 32 1)⟩))
  ·
   refine zI (zK (zB (zC rfl (zp rfl rfl (zM (o := 0) rfl rfl (zU 0 (v := Vi now) rfl rfl rfl rfl (zC rfl (zt rfl rfl (zq (by omega)) rfl (xF rfl rfl rfl (zA (zT rfl (fun c2 => ?_) (fun c2 => ?_))))))))))))
   ·
    refine zB (zE rfl (zE rfl (zA ?_)))
    exact zN (ye (v := .slice none 0 0) (v' := Vi 3) rfl rfl rfl (fun w' hw => ⟨.slice none 0 0, [], 3, now, lv, ls, rfl, (xU (ls := ls) (jb c1 (by omega)) (by decide)).1, (xU (ls := ls) (jb c1 (by omega)) (by decide)).2.1, (xU (jb c1 (by omega)) (by decide)).2.2.1, (xU (jb c1 (by omega)) (by decide)).2.2.2, (yW hw 32 1)⟩))
   ·
    refine zI (zB (zC rfl (zC rfl (zp rfl rfl (zM (o := 0) rfl rfl (zU 0 (v := Vi now) rfl rfl rfl rfl (zC rfl (zt rfl rfl (zq (by omega)) rfl (zp rfl rfl (zM (o := 0) rfl rfl (y9 (cs := (Vi now :: Vn cnt :: bv :: lv :: xs)) 0 rfl rfl rfl rfl rfl (zA ?_))))))))))))
    refine zB (zE rfl (zA (zB (zE rfl (zA (zK (zB (zE rfl (zA (zX ?_))))))))))
    refine zHs (fun (k : Nat) (gv rv : Value) (gs : List Nat) (rs : List LeaD) => [(0, .pointer (some ⟨wb, 0, none⟩)), (6, gv), (7, rv), (8, Vj k)]) (fun (k : Nat) (gv rv : Value) (gs : List Nat) (rs : List LeaD) => k ≤ ls.length ∧ gs = ((ls.take k).filter (x7 (now + n))).map (·.id) ∧ rs = (ls.take k).filter (fun l => !x7 (now + n) l)) (fun (k : Nat) (gv rv : Value) (gs : List Nat) (rs : List LeaD) => [Res.row wb te (Vi (now + n) :: Vn cnt :: bv :: lv :: xs), Res.vec 77 5 lv ls.length (ls.flatMap LeaD.cells), Res.vec 32 1 gv gs.length (gs.flatMap U1), Res.vec 77 5 rv rs.length (rs.flatMap LeaD.cells)]) (fun (k : Nat) (gv rv : Value) (gs : List Nat) (rs : List LeaD) => ls.length - k) (fun w' hw => ⟨0, .slice none 0 0, .slice none 0 0, [], [], ⟨rfl, rfl, rfl, rfl, trivial⟩, ⟨Nat.zero_le _, rfl, rfl⟩, (yW (yW hw 32 1) 77 5)⟩) (fun k gv rv gs rs g hΦ => ?_)
    have hk1 := hΦ.1
    have hgl : gs.length ≤ ls.length := by rw [hΦ.2.1, List.length_map]; exact zE6 _ _ _
    have hrl : rs.length ≤ ls.length := by rw [hΦ.2.2]; exact zE6 _ _ _
    refine zK (zB (zC rfl (zC rfl (zp rfl rfl (zM (o := 3) rfl rfl (zU 0 (v := lv) rfl rfl rfl rfl (yM (pV 1 rfl) rfl rfl (yA rfl rfl rfl (zA (zT rfl (fun c3 => ?_) (fun c3 => ?_)))))))))))
    ·
     refine zI (zK (zX (yy (by kernel_rfl) (by kernel_rfl) (zS rfl (zL) (zS rfl (zn rfl) (zS rfl (zY (o := 3) rfl) (zS rfl (zj 0 (v := lv) rfl rfl rfl) (zS rfl (zL) (zS rfl (z4 (pV 1 rfl) 5 k rfl rfl rfl (by omega)) (zS rfl (zY (o := 4) rfl) (zS rfl (yL (pV 1 rfl) 5 k 4 (off := yU lv + k * 5 + 4) (fun _ => rfl) rfl (by omega) (by omega) rfl) (zS rfl (zL) ?_))))))))))))
     refine zS rfl (zn rfl) (zS rfl (zY (o := 0) rfl) (zS rfl (zj 0 (v := Vi (now + n)) rfl rfl rfl) (zS rfl (zAj rfl rfl) (kT (zT rfl (fun c4 => ?_) (fun c4 => ?_))))))
     ·
      refine zb (zC rfl (zC rfl (zp rfl rfl (zM (o := 3) rfl rfl (zU 0 (v := lv) rfl rfl rfl rfl (zC rfl (zG (pV 1 rfl) 5 k rfl rfl rfl (by omega) rfl (zM (o := 0) rfl rfl (zR (pV 1 rfl) 5 k 0 (off := yU lv + k * 5 + 0) (fun _ => rfl) rfl (by omega) (by omega) rfl rfl (yl (e := 32) (sz := 1) (vs := [Vn ((zJ ls k).id)]) (by kernel_rfl) rfl rfl (by simp [Value.cells]) (by decide) rfl (fun b62 => yq (g := U1) (sz := 1) (by' := 8) (fun _ => rfl) (l := gs) (l' := [(zJ ls k).id]) (by simp [cell1, U1]) 2 (by kernel_rfl) rfl rfl rfl (fun w' hw' => Vec.sl (Own.holds hw' 4 _ rfl)) (by first | omega | (simp; omega)) (by decide) rfl (fun v63 => zE rfl ?_))))))))))))
      refine zA (zb (zC rfl (zt rfl rfl (zq (by omega)) rfl (zE rfl ?_))))
      exact ze (fun w' hw => ⟨k + 1, v63, rv, gs ++ [(zJ ls k).id], rs, ⟨rfl, rfl, rfl, rfl, trivial⟩, ⟨by omega, by rw [hΦ.2.1]; exact (zDc (by omega) c4).1, by rw [hΦ.2.2]; exact (zDc (by omega) c4).2⟩, hw.sel [0, 1, 2, 3] rfl (by decide), (by omega)⟩)
     ·
      refine zb (zC rfl (zC rfl (zp rfl rfl (zM (o := 3) rfl rfl (zU 0 (v := lv) rfl rfl rfl rfl (zC rfl (zG (pV 1 rfl) 5 k rfl rfl rfl (by omega) rfl (xm (pV 1 rfl) 5 k (off := yU lv + k * 5) (fun _ => rfl) rfl rfl (by omega) rfl (yl (e := 77) (sz := 5) (vs := [.agg (LeaD.cells (zJ ls k)).toArray]) (by kernel_rfl) rfl rfl (by simp [Value.cells, LeaD.cells]) (by decide) rfl (fun b72 => yq (g := LeaD.cells) (sz := 5) (by' := 48) (fun _ => rfl) (l := rs) (l' := [(zJ ls k)]) (by simp [cell1, LeaD.cells, vu]) 3 (by kernel_rfl) rfl rfl rfl (fun w' hw' => Vec.sl (Own.holds hw' 4 _ rfl)) (by first | omega | (simp; omega)) (by decide) rfl (fun v73 => zE rfl (zA ?_))))))))))))
      refine zb (zC rfl (zt rfl rfl (zq (by omega)) rfl (zE rfl ?_)))
      exact ze (fun w' hw => ⟨k + 1, gv, v73, gs, rs ++ [zJ ls k], ⟨rfl, rfl, rfl, rfl, trivial⟩, ⟨by omega, by rw [hΦ.2.1]; exact (zDC (by omega) c4).1, by rw [hΦ.2.2]; exact (zDC (by omega) c4).2⟩, hw.sel [0, 1, 2, 3] rfl (by decide), (by omega)⟩)
    ·
     refine z8 rfl (zB (zC rfl (zC rfl (zp rfl rfl (zM (o := 3) rfl rfl ?_)))))
     refine yj (fun w' hw => Own.cell1Vec (i := 3) rfl hw) (fun hc1_ => ?_)
     refine y9 (cs := (Vi (now + n) :: Vn cnt :: bv :: lv :: xs)) 0 rfl rfl rfl hc1_ rfl (zA (zB (zC rfl (zE rfl (zE rfl (zA ?_))))))
     exact zN (ye (v := gv) (v' := Vi 0) rfl rfl rfl (fun w' hw => ⟨gv, gs, 0, now + n, rv, rs, rfl, (jc c1 (by omega)).symm, (if_pos (jc c1 (by omega))).symm, (by unfold jL; rw [if_pos (jc c1 (by omega)), hΦ.2.2, List.take_of_length_le (by omega)]), (by unfold zHT; rw [if_pos (jc c1 (by omega)), hΦ.2.1, List.take_of_length_le (by omega)]), hw.sel [0, 3, 2] rfl (by decide)⟩))
theorem zG6 {S : List Nat} (wb te : Nat) (xs : List Value) (now : Int) (cnt : Nat) (bv lv : Value) (bs : List BudD) (ls : List LeaD) (s i : Nat) (sp : Int) (w : World) (ho : QOk now cnt bs ls) (hin : Own w S [Res.row wb te (Vi now :: Vn cnt :: bv :: lv :: xs), Res.vec 105 2 bv bs.length (bs.flatMap BudD.cells), Res.vec 77 5 lv ls.length (ls.flatMap LeaD.cells)] w) : Rets Tryz.prog 26 #[.pointer (some ⟨wb, 0, none⟩), Vn s, Vn i, Vi sp] w fun u_ w' => ∃ (x : LeaD) (e : Int) (ls' : List LeaD), u_ = .tuple #[.agg (LeaD.cells x).toArray, Vi e] ∧ zAp now bs ls s i sp x e ls' ∧ Own w S [Res.row wb te (Vi now :: Vn cnt :: bv :: lv :: xs), Res.vec 105 2 bv bs.length (bs.flatMap BudD.cells), Res.vec 77 5 lv ls'.length (ls'.flatMap LeaD.cells)] w' := by
  have hll := ho.llen
  have ht := ho.time
  refine zd Tryz.func26 rfl Tryz.ntmps26 hin ?_
  refine zB (yG (v := .agg #[Vn 0, Vn 0, .string (⟨#[]⟩ : ByteArray), Vi 0, Vi 0]) (by kernel_rfl) rfl (fun b8 => zE rfl (zA (zK (zB (zC rfl (yA rfl rfl rfl (zC rfl (yn (q := sp < 1) 2 2 [17, 16] (1099511627776 < sp) rfl rfl rfl rfl rfl rfl trivial rfl (fun h1_2 => ?_) (fun g1_5 => ?_))))))))))
  ·
   refine zQ rfl (gF h1_2) (zC rfl (zQ rfl (gF h1_2) (xF rfl rfl rfl ?_)))
   exact yH rfl (fun _ hw => hw)
  refine zA (zT rfl (fun c1 => ?_) (fun c1 => ?_))
  ·
   refine zB (yB (cs := [Vn 0, Vn 0, .string (⟨#[]⟩ : ByteArray), Vi 0, Vi 0]) (z := [Vn 0, Vn 0, .string (⟨#[]⟩ : ByteArray), Vi 0, Vi 0]) (pl := [(0, 1), (1, 1), (2, 1), (3, 1), (4, 1)]) (by kernel_rfl) (by kernel_rfl) rfl (zi 3 rfl rfl rfl (zx rfl) rfl (zE rfl (zA ?_))))
   exact zN (z5 (cs := [Vn 0, Vn 0, .string (⟨#[]⟩ : ByteArray), Vi 0, Vi 0]) (v := Vi 1) rfl rfl rfl (by kernel_rfl) (Own.rowCells (i := 3) rfl) (fun w' hw => ⟨LeaD.zero, 1, ls, rfl, .inl ⟨fun q => by unfold yV at q; omega, rfl, rfl, rfl⟩, hw.sel [0, 1, 2] rfl (by decide)⟩))
  ·
   have hsp : 1 ≤ sp ∧ sp ≤ 1099511627776 := ⟨Int.not_lt.1 fun q => c1 (.inl q), Int.not_lt.1 fun q => c1 (.inr q)⟩
   refine zI (zB (zC rfl (zC rfl (zC rfl (zP rfl rfl (fun w' hw => (zEx wb te (xs) now cnt bv lv bs ls s i w' (by first | omega | (simp <;> omega)) (hw.give [0, 2] rfl (by decide))).mono ?_))))))
   rintro _ w1 ⟨r1_, rfl, hf3_3, hO⟩
   refine (?_ : CL _ _ _ _ _ _ (Own w S [Res.vec 105 2 bv bs.length (bs.flatMap BudD.cells), Res.row b8 77 [Vn 0, Vn 0, .string (⟨#[]⟩ : ByteArray), Vi 0, Vi 0], Res.row wb te (Vi now :: Vn cnt :: bv :: lv :: xs), Res.vec 77 5 lv ls.length (ls.flatMap LeaD.cells)])) w1 (hw.frameL [0, 2] rfl hO)
   refine zE rfl (zA (zK (zB (zC rfl (yA rfl rfl rfl (zA (zT rfl (fun c2 => ?_) (fun c2 => ?_))))))))
   ·
    refine zB (yB (cs := [Vn 0, Vn 0, .string (⟨#[]⟩ : ByteArray), Vi 0, Vi 0]) (z := [Vn 0, Vn 0, .string (⟨#[]⟩ : ByteArray), Vi 0, Vi 0]) (pl := [(0, 1), (1, 1), (2, 1), (3, 1), (4, 1)]) (by kernel_rfl) (by kernel_rfl) rfl (zi 1 rfl rfl rfl (zx rfl) rfl (zE rfl (zA ?_))))
    exact zN (z5 (cs := [Vn 0, Vn 0, .string (⟨#[]⟩ : ByteArray), Vi 0, Vi 0]) (v := Vi 17) rfl rfl rfl (by kernel_rfl) (Own.rowCells (i := 1) rfl) (fun w' hw => ⟨LeaD.zero, 17, ls, rfl, .inr (.inl ⟨hsp, zDB hf3_3 c2, rfl, rfl, rfl⟩), hw.sel [2, 0, 3] rfl (by decide)⟩))
   ·
    have hat := zDe hf3_3 c2
    have hat1 := hat.1
    refine zI (zB (zC rfl (zC rfl (zp rfl rfl (zM (o := 3) rfl rfl (zU 2 (v := lv) rfl rfl rfl rfl (zC rfl (zG (pV 3 rfl) 5 ((r1_).toNat) rfl rfl (by omega) (by omega) rfl (zM (o := 2) rfl rfl (zR (pV 3 rfl) 5 ((r1_).toNat) 2 (off := yU lv + ((r1_).toNat) * 5 + 2) (fun _ => rfl) rfl (by omega) (by omega) rfl rfl (zP rfl rfl (fun w' hw => (zBB wb te (xs) now cnt bv lv bs ls ((zJ ls ((r1_).toNat)).key) w' ‹_› (hw.give [2, 0, 3] rfl (by decide))).mono ?_))))))))))))
    rintro _ w1 ⟨rfl, hO⟩
    refine (?_ : CL _ _ _ _ _ _ (Own w S [Res.row b8 77 [Vn 0, Vn 0, .string (⟨#[]⟩ : ByteArray), Vi 0, Vi 0], Res.row wb te (Vi now :: Vn cnt :: bv :: lv :: xs), Res.vec 105 2 bv bs.length (bs.flatMap BudD.cells), Res.vec 77 5 lv ls.length (ls.flatMap LeaD.cells)])) w1 (hw.frameL [2, 0, 3] rfl hO)
    refine zC rfl (zr (vs := [Vi (yN ((zJ ls ((r1_).toNat)).key) bs), Vi (yD ((zJ ls ((r1_).toNat)).key) ls)]) rfl rfl rfl (zr (vs := [Vi (yN ((zJ ls ((r1_).toNat)).key) bs), Vi (yD ((zJ ls ((r1_).toNat)).key) ls)]) rfl rfl rfl (zE rfl (zE rfl (zA (zK (zB (zC rfl (zC rfl (xF rfl rfl rfl (zA (zT rfl (fun c3 => ?_) (fun c3 => ?_)))))))))))))
    ·
     refine zB (yB (cs := [Vn 0, Vn 0, .string (⟨#[]⟩ : ByteArray), Vi 0, Vi 0]) (z := [Vn 0, Vn 0, .string (⟨#[]⟩ : ByteArray), Vi 0, Vi 0]) (pl := [(0, 1), (1, 1), (2, 1), (3, 1), (4, 1)]) (by kernel_rfl) (by kernel_rfl) rfl (zi 0 rfl rfl rfl (zx rfl) rfl (zE rfl (zA ?_))))
     exact zN (z5 (cs := [Vn 0, Vn 0, .string (⟨#[]⟩ : ByteArray), Vi 0, Vi 0]) (v := Vi 16) rfl rfl rfl (by kernel_rfl) (Own.rowCells (i := 0) rfl) (fun w' hw => ⟨LeaD.zero, 16, ls, rfl, .inr (.inr ⟨hsp, _, hat.1, hat.2.1, hat.2.2, .inl ⟨c3, rfl, rfl, rfl⟩⟩), hw.sel [1, 2, 3] rfl (by decide)⟩))
    ·
     refine zI (zK (yy (by kernel_rfl) (by kernel_rfl) (zS rfl (zL) (zS rfl (zn rfl) (zS rfl (zY (o := 3) rfl) (zS rfl (zj 1 (v := lv) rfl rfl rfl) (zS rfl (zL) (zS rfl (z4 (pV 3 rfl) 5 ((r1_).toNat) rfl rfl (by omega) (by omega)) (zS rfl (zY (o := 4) rfl) (zS rfl (yL (pV 3 rfl) 5 ((r1_).toNat) 4 (off := yU lv + ((r1_).toNat) * 5 + 4) (fun _ => rfl) rfl (by omega) (by omega) rfl) (zS rfl (zL) (zS rfl (zn rfl) ?_))))))))))))
     refine zS rfl (zY (o := 0) rfl) (zS rfl (zj 1 (v := Vi now) rfl rfl rfl) (zS rfl (zL) (zS rfl (xV rfl rfl (zq (by omega))) (zS rfl (zBq rfl rfl) (kT (zT rfl (fun c4 => ?_) (fun c4 => ?_)))))))
     ·
      refine zc [0, 1, 2] rfl (by decide) (by kernel_rfl) (fun w' hw hS => zD 0 rfl (zL) hS (zD 1 rfl (zn rfl) hS (zD 2 rfl (zY (o := 3) rfl) hS (zD 3 rfl (zj 1 (v := lv) rfl rfl rfl) hS (zD 4 rfl (zL) hS (zD 5 rfl (zL) hS (zD 6 rfl (zn rfl) hS (zD 7 rfl (zY (o := 0) rfl) hS (zD 8 rfl (zj 1 (v := Vi now) rfl rfl rfl) hS (zD 9 rfl (zL) hS (zD 10 rfl (xV rfl rfl (zq (by omega))) hS (zZ 11 rfl hw ?_))))))))))))
      refine zG (pV 3 rfl) 5 ((r1_).toNat) rfl rfl (by omega) (by omega) rfl (zF [0, 1, 2] rfl (by decide) (fun w' hw hS => zD 12 rfl (zY (o := 4) rfl) hS (zZ 13 rfl hw (zJx 3 5 ((r1_).toNat) 4 ({ (zJ ls ((r1_).toNat)) with until_ := now + sp } : LeaD) (off := yU lv + ((r1_).toNat) * 5 + 4) rfl (fun _ => rfl) rfl (by omega) rfl rfl rfl (by omega) (by decide) (by kernel_rfl) (zF [0, 1, 2] rfl (by decide) (fun w' hw hS => zO ?_))))))
      refine (?_ : C _ _ _ _ _ _ _ (Own w S [Res.row b8 77 [Vn 0, Vn 0, .string (⟨#[]⟩ : ByteArray), Vi 0, Vi 0], Res.row wb te (Vi now :: Vn cnt :: bv :: lv :: xs), Res.vec 105 2 bv bs.length (bs.flatMap BudD.cells), Res.vec 77 5 lv (ls.set ((r1_).toNat) ({ (zJ ls ((r1_).toNat)) with until_ := now + sp } : LeaD)).length ((ls.set ((r1_).toNat) ({ (zJ ls ((r1_).toNat)) with until_ := now + sp } : LeaD)).flatMap LeaD.cells)])) _ hw
      refine zB (zC rfl (zp rfl rfl (zM (o := 3) rfl rfl (zU 1 (v := lv) rfl rfl rfl rfl (zC rfl (zG (pV 3 rfl) 5 ((r1_).toNat) rfl rfl (by omega) (by simp only [List.length_set]; omega) rfl (xm (pV 3 rfl) 5 ((r1_).toNat) (off := yU lv + ((r1_).toNat) * 5) (fun _ => rfl) rfl rfl (by simp only [List.length_set]; omega) rfl (zi 0 rfl rfl rfl (zx rfl) rfl (zE rfl (zA ?_))))))))))
      exact zN (z5 (cs := (LeaD.cells (zJ (ls.set ((r1_).toNat) ({ (zJ ls ((r1_).toNat)) with until_ := now + sp } : LeaD)) ((r1_).toNat)))) (v := Vi 0) rfl rfl rfl (by kernel_rfl) (Own.rowCells (i := 0) rfl) (fun w' hw => ⟨yz (zJ ls (r1_).toNat) (now + sp), 0, ls.set (r1_).toNat (yz (zJ ls (r1_).toNat) (now + sp)), (by rw [zH7 hat1, zCG c4]), .inr (.inr ⟨hsp, _, hat.1, hat.2.1, hat.2.2, .inr ⟨by omega, rfl, rfl, rfl⟩⟩), by rw [zCG c4]; exact hw.sel [1, 2, 3] rfl (by decide)⟩))
     ·
      refine zI (zB (zC rfl (zp rfl rfl (zM (o := 3) rfl rfl (zU 1 (v := lv) rfl rfl rfl rfl (zC rfl (zG (pV 3 rfl) 5 ((r1_).toNat) rfl rfl (by omega) (by omega) rfl (xm (pV 3 rfl) 5 ((r1_).toNat) (off := yU lv + ((r1_).toNat) * 5) (fun _ => rfl) rfl rfl (by omega) rfl (zi 0 rfl rfl rfl (zx rfl) rfl (zE rfl (zA ?_)))))))))))
      exact zN (z5 (cs := (LeaD.cells (zJ ls ((r1_).toNat)))) (v := Vi 0) rfl rfl rfl (by kernel_rfl) (Own.rowCells (i := 0) rfl) (fun w' hw => ⟨yz (zJ ls (r1_).toNat) (now + sp), 0, ls, (by rw [zCS c4]), .inr (.inr ⟨hsp, _, hat.1, hat.2.1, hat.2.2, .inr ⟨by omega, rfl, rfl, by rw [zCS c4]; exact zGt hat1⟩⟩), hw.sel [1, 2, 3] rfl (by decide)⟩))
theorem zIG {S : List Nat} (wb te : Nat) (xs : List Value) (now : Int) (cnt : Nat) (bv lv : Value) (bs : List BudD) (ls : List LeaD) (s i : Nat) (w : World) (hll : ls.length ≤ 128) (hin : Own w S [Res.row wb te (Vi now :: Vn cnt :: bv :: lv :: xs), Res.vec 77 5 lv ls.length (ls.flatMap LeaD.cells)] w) : Rets Tryz.prog 27 #[.pointer (some ⟨wb, 0, none⟩), Vn s, Vn i] w fun u_ w' => ∃ (x : LeaD) (e : Int) (lv' : Value) (ls' : List LeaD), u_ = .tuple #[.agg (LeaD.cells x).toArray, Vi e] ∧ zB8 ls s i x e ls' ∧ Own w S [Res.row wb te (Vi now :: Vn cnt :: bv :: lv' :: xs), Res.vec 77 5 lv' ls'.length (ls'.flatMap LeaD.cells)] w' := by
  refine zd Tryz.func27 rfl Tryz.ntmps27 hin ?_
  refine zB (yG (v := .agg #[Vn 0, Vn 0, .string (⟨#[]⟩ : ByteArray), Vi 0, Vi 0]) (by kernel_rfl) rfl (fun b6 => zE rfl (zA (zB (zC rfl (zC rfl (zC rfl (zP rfl rfl (fun w' hw => (zEx wb te (xs) now cnt bv lv bs ls s i w' (by first | omega | (simp <;> omega)) (hw.give [0, 1] rfl (by decide))).mono ?_)))))))))
  rintro _ w1 ⟨r1_, rfl, hf1_3, hO⟩
  refine (?_ : CL _ _ _ _ _ _ (Own w S [Res.row b6 77 [Vn 0, Vn 0, .string (⟨#[]⟩ : ByteArray), Vi 0, Vi 0], Res.row wb te (Vi now :: Vn cnt :: bv :: lv :: xs), Res.vec 77 5 lv ls.length (ls.flatMap LeaD.cells)])) w1 (hw.frameL [0, 1] rfl hO)
  refine zE rfl (zA (zK (zB (zC rfl (yA rfl rfl rfl (zA (zT rfl (fun c1 => ?_) (fun c1 => ?_))))))))
  ·
   refine zB (yB (cs := [Vn 0, Vn 0, .string (⟨#[]⟩ : ByteArray), Vi 0, Vi 0]) (z := [Vn 0, Vn 0, .string (⟨#[]⟩ : ByteArray), Vi 0, Vi 0]) (pl := [(0, 1), (1, 1), (2, 1), (3, 1), (4, 1)]) (by kernel_rfl) (by kernel_rfl) rfl (zi 0 rfl rfl rfl (zx rfl) rfl (zE rfl (zA ?_))))
   exact zN (z5 (cs := [Vn 0, Vn 0, .string (⟨#[]⟩ : ByteArray), Vi 0, Vi 0]) (v := Vi 17) rfl rfl rfl (by kernel_rfl) (Own.rowCells (i := 0) rfl) (fun w' hw => ⟨LeaD.zero, 17, lv, ls, rfl, .inl ⟨zDB hf1_3 c1, rfl, rfl, rfl⟩, hw.sel [1, 2] rfl (by decide)⟩))
  ·
   have hat := zDe hf1_3 c1
   have hat1 := hat.1
   refine zI (zB (zC rfl (zp rfl rfl (zM (o := 3) rfl rfl (zU 1 (v := lv) rfl rfl rfl rfl (zC rfl (zG (pV 2 rfl) 5 ((r1_).toNat) rfl rfl (by omega) (by omega) rfl (xm (pV 2 rfl) 5 ((r1_).toNat) (off := yU lv + ((r1_).toNat) * 5) (fun _ => rfl) rfl rfl (by omega) rfl (yG (v := .agg #[Vn 0, Vn 0, .string (⟨#[]⟩ : ByteArray), Vi 0, Vi 0]) (by kernel_rfl) rfl (fun b9 => zi 3 rfl rfl rfl (zx rfl) rfl (zA (zB ?_))))))))))))
   refine yl (e := 77) (sz := 5) (vs := []) (by kernel_rfl) rfl rfl (by simp [Value.cells, LeaD.cells]) (by decide) rfl (fun b25 => zC rfl (zp rfl rfl (zM (o := 3) rfl rfl (zU 1 (v := lv) rfl rfl rfl rfl (zC rfl (zF0 (pV 2 rfl) 5 0 ((r1_).toNat) (by kernel_rfl) rfl rfl ⟨_, (show Value.int .i64 _ = Value.int .i64 _ by congr 1; omega)⟩ (by omega) (by omega) rfl (yq (g := LeaD.cells) (sz := 5) (by' := 48) (fun _ => rfl) (l := []) (l' := ((ls.take ((r1_).toNat)).drop 0)) (by simp [cell1, LeaD.cells, vu]) 4 (by kernel_rfl) rfl rfl rfl (fun w' hw' => Sl.subL_f (g := LeaD.cells) (xs := ls) (sz := 5) (fun _ => rfl) ((fun w' hw' => Vec.sl (Own.holds hw' 2 _ rfl)) w' hw') (l := 0) (h := (r1_).toNat) (by omega) (by omega)) (by first | omega | (simp; omega)) (by decide) rfl (fun v32 => zE rfl (zA (zB (zC rfl (zC rfl ?_))))))))))))
   refine zC rfl (zp rfl rfl (zM (o := 3) rfl rfl (zU 1 (v := lv) rfl rfl rfl rfl (zC rfl (zt rfl rfl (zq (by omega)) rfl (zF0 (pV 2 rfl) 5 ((r1_ + 1).toNat) ls.length (by kernel_rfl) rfl ⟨_, (show Value.int .i64 _ = Value.int .i64 _ by congr 1; omega)⟩ rfl (by omega) (by omega) rfl (yq (g := LeaD.cells) (sz := 5) (by' := 48) (fun _ => rfl) (l := ((ls.take ((r1_).toNat)).drop 0)) (l' := (ls.drop ((r1_ + 1).toNat))) (by simp [cell1, LeaD.cells, vu]) 4 (by kernel_rfl) rfl rfl rfl (fun w' hw' => Sl.dropL_f (g := LeaD.cells) (xs := ls) (sz := 5) (fun _ => rfl) ((fun w' hw' => Vec.sl (Own.holds hw' 2 _ rfl)) w' hw') (l := (r1_ + 1).toNat) (by omega)) (by first | omega | (simp; omega)) (by decide) rfl (fun v42 => zp rfl rfl (zM (o := 3) rfl rfl ?_)))))))))
   refine yj (fun w' hw => Own.cell1Vec (i := 4) rfl hw) (fun hc1_ => ?_)
   refine y9 (cs := (Vi now :: Vn cnt :: bv :: lv :: xs)) 1 rfl rfl rfl hc1_ rfl (zA (zB (yP (cs := (LeaD.cells (zJ ls ((r1_).toNat)))) 3 rfl rfl rfl (zi 0 rfl rfl rfl (zx rfl) rfl (zE rfl (zA ?_))))))
   exact zN (z5 (cs := (LeaD.cells (zJ ls ((r1_).toNat)))) (v := Vi 0) rfl rfl rfl (by kernel_rfl) (Own.rowCells (i := 0) rfl) (fun w' hw => ⟨zJ ls (r1_).toNat, 0, v42, ls.take (r1_).toNat ++ ls.drop ((r1_).toNat + 1), rfl, .inr ⟨_, hat.1, hat.2.1, hat.2.2, rfl, rfl, rfl⟩, by rw [← zLa (ls := ls) c1]; exact hw.sel [1, 4] rfl (by decide)⟩))
end Go.Proofs.YtcdiehplbmkmeaaGreat
