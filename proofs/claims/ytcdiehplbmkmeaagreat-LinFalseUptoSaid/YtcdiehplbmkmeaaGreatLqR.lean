import Derived.Test.YtcdiehplbmkmeaaGreatQuotaW
set_option linter.unusedSectionVars false
set_option linter.unusedSimpArgs false
set_option linter.unusedVariables false
set_option maxRecDepth 10000
namespace Go.Proofs.YtcdiehplbmkmeaaGreat
open Go Go.Sc Go.Proofs
theorem zBg {key : ByteArray} {bs : List BudD} {k : Nat} (hn : (bs.map (·.key)).Nodup) (hk : k < bs.length) : yO key (bs.take (k + 1)) = if (zG bs k).key = key then (zG bs k).amount else yO key (bs.take k) := by
  have hn' : KNd (KB (bs.take (k + 1))) := zJd (hn.sublist ((List.take_sublist _ _).map _))
  unfold yO
  rw [yP hk] at hn' ⊢
  have e : KB (bs.take k ++ [zG bs k]) = KB (bs.take k) ++ [((zG bs k).key, (zG bs k).amount)] := by unfold KB; rw [List.map_append]; rfl
  rw [e] at hn' ⊢
  have hp := (List.perm_append_comm : (KB (bs.take k) ++ [((zG bs k).key, (zG bs k).amount)]).Perm _)
  rw [ki hn' hp]
  show (zf key (((zG bs k).key, (zG bs k).amount) :: KB (bs.take k))).getD 0 = _
  show (if key = (zG bs k).key then some (zG bs k).amount else zf key (KB (bs.take k))).getD 0 = _
  by_cases c : key = (zG bs k).key
  · rw [if_pos c, if_pos c.symm]; rfl
  · rw [if_neg c, if_neg fun q => c q.symm]
theorem zF2 {key : ByteArray} {ls : List LeaD} {k : Nat} {n : Int} (h : n = yF key (ls.take k)) (hk : k < ls.length) (hy : (zG ls k).key = key) : IntKind.i64.wrap (n + (zG ls k).amount) = yF key (ls.take (k + 1)) := by
  rw [h, yP hk]; unfold yF; rw [zDh, jc]; simp only [yd, if_pos hy, Int.add_zero]
theorem zHH {key : ByteArray} {ls : List LeaD} {k : Nat} {n : Int} (h : n = yF key (ls.take k)) (hk : k < ls.length) (hy : ¬ (zG ls k).key = key) : n = yF key (ls.take (k + 1)) := by
  rw [h, yP hk]; unfold yF; rw [jc]; simp only [yd, if_neg hy, Int.add_zero]
theorem jh {key : ByteArray} {a : Int} {bs : List BudD} {k : Nat} {q q0 : Bool × List BudD} (h : q = (bs.take k).foldl (y0 key a) q0) (hk : k < bs.length) : y0 key a q (zG bs k) = (bs.take (k + 1)).foldl (y0 key a) q0 := by
  rw [yP hk, List.foldl_append, h]; rfl
theorem zDx {k : ByteArray} {a : Int} {bs : List BudD} (h : ¬ yW k ∨ a < 0) : zAA k a bs = 1 := if_pos h
theorem zCD {k : ByteArray} {a : Int} {bs : List BudD} (h : ¬ (¬ yW k ∨ a < 0)) (h2 : (yO k bs = 0 ∧ 0 < a) ∧ 64 ≤ ((bs.length : Nat) : Int)) : zAA k a bs = 7 := by
  unfold zAA; rw [if_neg h, if_pos ⟨h2.1.1, h2.1.2, by omega⟩]
theorem zBL {k : ByteArray} {a : Int} {bs : List BudD} (h : ¬ (¬ yW k ∨ a < 0)) (h2 : ¬ ((yO k bs = 0 ∧ 0 < a) ∧ 64 ≤ ((bs.length : Nat) : Int))) : zAA k a bs = 0 := by
  unfold zAA; rw [if_neg h, if_neg fun q => h2 ⟨⟨q.1, q.2.1⟩, by omega⟩]
theorem zDF {k : ByteArray} {a e : Int} {bs : List BudD} (h : zAA k a bs = e) (he : e ≠ 0) : bs = zAs k a bs := by
  unfold zAs; rw [if_neg (by rw [h]; exact he)]
theorem zDJ {k : ByteArray} {a : Int} {bs os : List BudD} {p : Bool} {i : Nat} (h : zAA k a bs = 0) (hI : (p, os) = (bs.take i).foldl (y0 k a) (decide (a = 0), [])) (hi : bs.length ≤ i) : os ++ (if p = false then [⟨k, a⟩] else []) = zAs k a bs := by
  rw [List.take_of_length_le hi] at hI
  unfold zAs zDO
  rw [if_pos h, ← hI]
theorem zL1 {k : ByteArray} {a : Int} {p : Bool} {os : List BudD} {b : BudD} (h1 : p = false ∧ sLe k b.key) (h2 : b.key ≠ k) : (true, os ++ [⟨k, a⟩] ++ [b]) = y0 k a (p, os) b := by
  unfold y0; simp only [if_pos h1, if_pos h2, decide_eq_true h1.2, Bool.or_true]
theorem zL7 {k : ByteArray} {a : Int} {p : Bool} {os : List BudD} {b : BudD} (h1 : p = false ∧ sLe k b.key) (h2 : ¬ b.key ≠ k) : (true, os ++ [⟨k, a⟩]) = y0 k a (p, os) b := by
  unfold y0; simp only [if_pos h1, if_neg h2, decide_eq_true h1.2, Bool.or_true, List.append_nil]
theorem zJ5 {p : Bool} (h : (!p) = true) : p = false := by cases p <;> simp_all
theorem zJX {p : Bool} (h : p = false) : (!p) = true := by rw [h]; rfl
theorem zKp {p : Bool} {q : Prop} [Decidable q] (h1 : ¬ (p = false ∧ q)) : p = (p || decide q) := by
  cases p with
  | true => rfl
  | false => rw [decide_eq_false fun h => h1 ⟨rfl, h⟩]; rfl
theorem zL3 {k : ByteArray} {a : Int} {p : Bool} {os : List BudD} {b : BudD} (h1 : ¬ (p = false ∧ sLe k b.key)) (h2 : b.key ≠ k) : (p, os ++ [b]) = y0 k a (p, os) b := by
  unfold y0; simp only [if_neg h1, if_pos h2, List.append_nil, ← zKp h1]
theorem zMC {k : ByteArray} {a : Int} {p : Bool} {os : List BudD} {b : BudD} (h1 : ¬ (p = false ∧ sLe k b.key)) (h2 : ¬ b.key ≠ k) : (p, os) = y0 k a (p, os) b := by
  unfold y0; simp only [if_neg h1, if_neg h2, List.append_nil, ← zKp h1]
theorem zJR {s : Nat} {k : ByteArray} {a sp : Int} : ((((((s : Nat) : Int) = ((0 : Nat) : Int)) ∨ ¬ yW k) ∨ a < 1) ∨ sp < 1) ∨ 1099511627776 < sp ↔ yb s k a sp := by
  rw [← larg, or_assoc]
  refine or_congr Iff.rfl ?_
  unfold yM; omega
section
variable {s : Nat} {k : ByteArray} {a sp : Int} {bs : List BudD} {ls : List LeaD}
theorem zKf (h : yb s k a sp) : xG s k a sp bs ls = 1 := if_pos h
theorem zKl (h : ¬ yb s k a sp) (h2 : yO k bs = 0) : xG s k a sp bs ls = 8 := by
  unfold xG; rw [if_neg h, if_pos h2]
theorem zJl (h : ¬ yb s k a sp) (h2 : ¬ yO k bs = 0) (h3 : 9223372036854775807 < yF k ls + a) : xG s k a sp bs ls = 3 := by
  unfold xG; rw [if_neg h, if_neg h2, if_pos h3]
theorem zIf (h : ¬ yb s k a sp) (h2 : ¬ yO k bs = 0) (h3 : ¬ 9223372036854775807 < yF k ls + a) (h4 : yO k bs < yF k ls + a) : xG s k a sp bs ls = 16 := by
  unfold xG; rw [if_neg h, if_neg h2, if_neg h3, if_pos h4]
theorem zJ3 (h : ¬ yb s k a sp) (h2 : ¬ yO k bs = 0) (h3 : ¬ 9223372036854775807 < yF k ls + a) (h4 : ¬ yO k bs < yF k ls + a) (h5 : 128 ≤ ((ls.length : Nat) : Int)) : xG s k a sp bs ls = 7 := by
  unfold xG; rw [if_neg h, if_neg h2, if_neg h3, if_neg h4, if_pos (by omega)]
theorem zHo (h : ¬ yb s k a sp) (h2 : ¬ yO k bs = 0) (h3 : ¬ 9223372036854775807 < yF k ls + a) (h4 : ¬ yO k bs < yF k ls + a) (h5 : ¬ 128 ≤ ((ls.length : Nat) : Int)) : xG s k a sp bs ls = 0 := by
  unfold xG; rw [if_neg h, if_neg h2, if_neg h3, if_neg h4, if_neg (by omega)]
theorem zFr {n m e : Int} (h : (9223372036854775807 < n + a ∧ e = 3 ∧ m = 0) ∨ (n + a ≤ 9223372036854775807 ∧ e = 0 ∧ m = n + a)) :
    (9223372036854775807 < n + a ∧ e = 3) ∨ (¬ 9223372036854775807 < n + a ∧ e = 0 ∧ m = n + a) := by omega
theorem k5 {n m e : Int} (h : (9223372036854775807 < n + a ∧ e = 3) ∨ (¬ 9223372036854775807 < n + a ∧ e = 0 ∧ m = n + a)) (he : e ≠ 0) : 9223372036854775807 < n + a ∧ e = 3 := by
  rcases h with h | h
  · exact h
  · exact absurd h.2.1 he
theorem xX {n m e : Int} (h : (9223372036854775807 < n + a ∧ e = 3) ∨ (¬ 9223372036854775807 < n + a ∧ e = 0 ∧ m = n + a)) (he : ¬ e ≠ 0) : ¬ 9223372036854775807 < n + a ∧ m = n + a := by omega
end
theorem zDp (k : ByteArray) (w : World) : Rets Tryz.prog 38 #[.string k] w fun u_ w' => u_ = .bool (decide (yW k)) ∧ Own w [] [] w' := by
  refine ze Tryz.func38 rfl Tryz.ntmps38 (Own.start w) ?_
  refine zB (zH rfl (zA (zB (zC rfl (zAC (by kernel_rfl) rfl rfl (yU rfl rfl rfl (zC rfl (yD (q := 1 ≤ ((k.size : Nat) : Int)) 3 3 [9, 8, 7] (((k.size : Nat) : Int) ≤ 64) rfl rfl rfl rfl rfl rfl trivial rfl (fun h1_3 => ?_) (fun g1_7 => ?_)))))))))
  ·
   refine zR rfl (gT h1_3) (zC rfl (zR rfl (gT h1_3) (zAC (by kernel_rfl) rfl rfl (zR rfl (gT h1_3) (x5 rfl rfl rfl ?_)))))
   exact yH rfl (fun _ hw => hw)
  refine zH rfl (zA ?_)
  exact zN (z4 (v := .bool (decide ((1 ≤ ((k.size : Nat) : Int)) ∧ (((k.size : Nat) : Int) ≤ 64)))) rfl rfl (fun w' hw => ⟨(by congr 1; exact decide_eq_decide.2 (by unfold yW; omega)), hw.drop⟩))
theorem zJu (a c : Int) (w : World) (ha : 0 ≤ a ∧ a ≤ 9223372036854775807) (hc : 0 ≤ c ∧ c ≤ 9223372036854775807) : Rets Tryz.prog 39 #[Vi a, Vi c] w fun u_ w' => ∃ (n e : Int), u_ = .tuple #[Vi n, Vi e] ∧ ((9223372036854775807 < a + c ∧ e = 3 ∧ n = 0) ∨ (a + c ≤ 9223372036854775807 ∧ e = 0 ∧ n = a + c)) ∧ Own w [] [] w' := by
  refine ze Tryz.func39 rfl Tryz.ntmps39 (Own.start w) ?_
  refine zB (zH rfl (zH rfl (zA (zL (zB (zC rfl (yU rfl rfl rfl (zC rfl (yD (q := 0 ≤ c) 4 2 [12, 11, 10, 9] ((9223372036854775807 - c) < a) rfl rfl rfl rfl rfl rfl trivial rfl (fun h1_2 => ?_) (fun g1_7 => ?_))))))))))
  ·
   refine zR rfl (gT h1_2) (zC rfl (zR rfl (gT h1_2) (zC rfl (zR rfl (gT h1_2) (yJ rfl rfl (zh (by omega)) rfl (zR rfl (gT h1_2) (xF rfl rfl rfl ?_)))))))
   exact yH rfl (fun _ hw => hw)
  refine zC rfl (yk (q := (0 ≤ c) ∧ ((9223372036854775807 - c) < a)) 8 8 [22, 21, 20, 19, 18, 17, 16, 15] ((c < 0) ∧ (a < ((-9223372036854775808) - c))) rfl rfl rfl rfl rfl rfl trivial rfl (fun h1_8 => ?_) (fun g1_17 => ?_))
  ·
   refine zR rfl (gF h1_8) (zC rfl (zR rfl (gF h1_8) (z9 rfl rfl rfl (zR rfl (gF h1_8) (zC rfl (yD (q := c < 0) 4 11 [21, 20, 19, 18] (a < ((-9223372036854775808) - c)) rfl rfl rfl rfl rfl rfl ⟨_, rfl, rfl, gF h1_8⟩ rfl (fun h1_11 => ?_) (fun g1_16 => ?_)))))))
   ·
    refine zR rfl (gT h1_11) (zC rfl (zR rfl (gT h1_11) (zC rfl (zR rfl (gT h1_11) (yJ rfl rfl (zh (by omega)) rfl (zR rfl (gT h1_11) (z9 rfl rfl rfl ?_)))))))
    exact yH rfl (fun _ hw => hw)
   exact yH rfl (fun _ hw => hw)
  refine zA (zV rfl (fun c1 => ?_) (fun c1 => ?_))
  ·
   refine zB (zH rfl (zH rfl (zA ?_)))
   exact zN (yo (v := Vi 0) (v' := Vi 3) rfl rfl rfl (fun w' hw => ⟨0, 3, rfl, .inl ⟨by omega, rfl, rfl⟩, hw.drop⟩))
  ·
   refine zJ (zB (zC rfl (zC rfl (zn rfl rfl (zh (by omega)) rfl (zH rfl (zH rfl (zA ?_)))))))
   exact zN (yo (v := Vi (a + c)) (v' := Vi 0) rfl rfl rfl (fun w' hw => ⟨a + c, 0, rfl, .inr ⟨by omega, rfl, rfl⟩, hw.drop⟩))
theorem zCl {S : List Nat} (wb te : Nat) (xs : List Value) (now : Int) (cnt : Nat) (bv lv : Value) (bs : List BudD) (ls : List LeaD) (k : ByteArray) (w : World) (ho : QOk now cnt bs ls) (hin : Own w S [Res.row wb te (Vi now :: Vn cnt :: bv :: lv :: xs), Res.vec 105 2 bv bs.length (bs.flatMap BudD.cells), Res.vec 77 5 lv ls.length (ls.flatMap LeaD.cells)] w) : Rets Tryz.prog 37 #[.pointer (some ⟨wb, 0, none⟩), .string k] w fun u_ w' => u_ = .tuple #[Vi (yO k bs), Vi (yF k ls)] ∧ Own w S [Res.row wb te (Vi now :: Vn cnt :: bv :: lv :: xs), Res.vec 105 2 bv bs.length (bs.flatMap BudD.cells), Res.vec 77 5 lv ls.length (ls.flatMap LeaD.cells)] w' := by
  have hbl := ho.blen
  have hll := ho.llen
  refine ze Tryz.func37 rfl Tryz.ntmps37 hin ?_
  refine zB (zH rfl (zH rfl (zA (zB (zH rfl (zA (zL (zB (zH rfl (zA (zW ?_)))))))))))
  refine xB (fun (i : Nat) (n : Int) => [(0, .pointer (some ⟨wb, 0, none⟩)), (1, .string k), (6, Vi n), (7, Vj i)]) (fun (i : Nat) (n : Int) => i ≤ bs.length ∧ n = yO k (bs.take i)) (fun (i : Nat) (n : Int) => [Res.row wb te (Vi now :: Vn cnt :: bv :: lv :: xs), Res.vec 105 2 bv bs.length (bs.flatMap BudD.cells), Res.vec 77 5 lv ls.length (ls.flatMap LeaD.cells)]) (fun (i : Nat) (n : Int) => bs.length - i) (fun w' hw => ⟨0, 0, ⟨rfl, rfl, rfl, rfl, trivial⟩, ⟨Nat.zero_le _, rfl⟩, hw⟩) (fun i n g hΦ => ?_)
  have hi := hΦ.1
  have hn := hΦ.2
  refine zL (zB (zC rfl (zC rfl (zt rfl rfl (zO (o := 2) rfl rfl (zU 0 (v := bv) rfl rfl rfl rfl (yY (pV 1 rfl) rfl rfl (z9 rfl rfl rfl (zA (zV rfl (fun c1 => ?_) (fun c1 => ?_)))))))))))
  ·
   refine zJ (zL (zW (zB (zC rfl (zt rfl rfl (zO (o := 2) rfl rfl (zU 0 (v := bv) rfl rfl rfl rfl (zC rfl (zF (pV 1 rfl) 2 i rfl rfl rfl (by omega) rfl (zO (o := 0) rfl rfl (zP (pV 1 rfl) 2 i 0 (off := yK bv + i * 2 + 0) (fun _ => rfl) rfl (by omega) (by omega) rfl rfl (zC rfl ?_))))))))))))
   refine zE9 rfl rfl rfl (zA (zV rfl (fun c2 => ?_) (fun c2 => ?_)))
   ·
    refine zY (zC rfl (zt rfl rfl (zO (o := 2) rfl rfl (zU 0 (v := bv) rfl rfl rfl rfl (zC rfl (zF (pV 1 rfl) 2 i rfl rfl rfl (by omega) rfl (zO (o := 1) rfl rfl (zP (pV 1 rfl) 2 i 1 (off := yK bv + i * 2 + 1) (fun _ => rfl) rfl (by omega) (by omega) rfl rfl (zH rfl (zA (zY (zC rfl ?_))))))))))))
    refine zn rfl rfl (zh (by omega)) rfl (zH rfl ?_)
    exact zd (fun w' hw => ⟨i + 1, (zG bs i).amount, ⟨rfl, rfl, rfl, rfl, trivial⟩, ⟨by omega, by rw [zBg ho.bnd (by omega), if_pos c2]⟩, hw, (by omega)⟩)
   ·
    refine zJ (zY (zC rfl (zn rfl rfl (zh (by omega)) rfl (zH rfl ?_))))
    exact zd (fun w' hw => ⟨i + 1, n, ⟨rfl, rfl, rfl, rfl, trivial⟩, ⟨by omega, by rw [zBg ho.bnd (by omega), if_neg c2]; exact hn⟩, hw, (by omega)⟩)
  ·
   refine yB rfl (zB (zH rfl (zA (zL (zB (zH rfl (zA (zW ?_))))))))
   refine xB (fun (j : Nat) (m : Int) => [(0, .pointer (some ⟨wb, 0, none⟩)), (1, .string k), (6, Vi n), (8, Vi m), (9, Vj j)]) (fun (j : Nat) (m : Int) => j ≤ ls.length ∧ m = yF k (ls.take j)) (fun (j : Nat) (m : Int) => [Res.row wb te (Vi now :: Vn cnt :: bv :: lv :: xs), Res.vec 105 2 bv bs.length (bs.flatMap BudD.cells), Res.vec 77 5 lv ls.length (ls.flatMap LeaD.cells)]) (fun (j : Nat) (m : Int) => ls.length - j) (fun w' hw => ⟨0, 0, ⟨rfl, rfl, rfl, rfl, rfl, trivial⟩, ⟨Nat.zero_le _, rfl⟩, hw⟩) (fun j m g hΦ => ?_)
   have hj := hΦ.1
   have hm := hΦ.2
   refine zL (zB (zC rfl (zC rfl (zt rfl rfl (zO (o := 3) rfl rfl (zU 0 (v := lv) rfl rfl rfl rfl (yY (pV 2 rfl) rfl rfl (z9 rfl rfl rfl (zA (zV rfl (fun c3 => ?_) (fun c3 => ?_)))))))))))
   ·
    refine zJ (zL (zW (zB (zC rfl (zt rfl rfl (zO (o := 3) rfl rfl (zU 0 (v := lv) rfl rfl rfl rfl (zC rfl (zF (pV 2 rfl) 5 j rfl rfl rfl (by omega) rfl (zO (o := 2) rfl rfl (zP (pV 2 rfl) 5 j 2 (off := yK lv + j * 5 + 2) (fun _ => rfl) rfl (by omega) (by omega) rfl rfl (zC rfl ?_))))))))))))
    refine zE9 rfl rfl rfl (zA (zV rfl (fun c4 => ?_) (fun c4 => ?_)))
    ·
     refine zY (zC rfl (zC rfl (zt rfl rfl (zO (o := 3) rfl rfl (zU 0 (v := lv) rfl rfl rfl rfl (zC rfl (zF (pV 2 rfl) 5 j rfl rfl rfl (by omega) rfl (zO (o := 3) rfl rfl (zP (pV 2 rfl) 5 j 3 (off := yK lv + j * 5 + 3) (fun _ => rfl) rfl (by omega) (by omega) rfl rfl (zn (c := IntKind.i64.wrap (m + (zG ls j).amount)) rfl rfl rfl rfl (zH rfl (zA ?_))))))))))))
     refine zY (zC rfl (zn rfl rfl (zh (by omega)) rfl (zH rfl ?_)))
     exact zd (fun w' hw => ⟨j + 1, IntKind.i64.wrap (m + (zG ls j).amount), ⟨rfl, rfl, rfl, rfl, rfl, trivial⟩, ⟨by omega, zF2 hm (by omega) c4⟩, hw, (by omega)⟩)
    ·
     refine zJ (zY (zC rfl (zn rfl rfl (zh (by omega)) rfl (zH rfl ?_))))
     exact zd (fun w' hw => ⟨j + 1, m, ⟨rfl, rfl, rfl, rfl, rfl, trivial⟩, ⟨by omega, zHH hm (by omega) c4⟩, hw, (by omega)⟩)
   ·
    refine yB rfl (zB (zC rfl (zC rfl (zH rfl (zH rfl (zA ?_))))))
    exact zN (yo (v := Vi n) (v' := Vi m) rfl rfl rfl (fun w' hw => ⟨(by rw [hn, hm, List.take_of_length_le (by omega), List.take_of_length_le (by omega)]), hw⟩))
theorem zKb {S : List Nat} (wb te : Nat) (xs : List Value) (now : Int) (cnt : Nat) (bv lv : Value) (bs : List BudD) (ls : List LeaD) (k : ByteArray) (a : Int) (w : World) (ho : QOk now cnt bs ls) (hin : Own w S [Res.row wb te (Vi now :: Vn cnt :: bv :: lv :: xs), Res.vec 105 2 bv bs.length (bs.flatMap BudD.cells), Res.vec 77 5 lv ls.length (ls.flatMap LeaD.cells)] w) : Rets Tryz.prog 24 #[.pointer (some ⟨wb, 0, none⟩), .string k, Vi a] w fun u_ w' => ∃ (n e : Int) (bv' : Value) (bs' : List BudD), u_ = .tuple #[Vi n, Vi e] ∧ e = zAA k a bs ∧ bs' = zAs k a bs ∧ (n = if e = 0 then yF k ls else 0) ∧ Own w S [Res.row wb te (Vi now :: Vn cnt :: bv' :: lv :: xs), Res.vec 105 2 bv' bs'.length (bs'.flatMap BudD.cells), Res.vec 77 5 lv ls.length (ls.flatMap LeaD.cells)] w' := by
  have hbl := ho.blen
  refine ze Tryz.func24 rfl Tryz.ntmps24 hin ?_
  refine zB (zH rfl (zH rfl (zA (zL (zB (zC rfl (zQ rfl rfl (fun w' hw => (zDp k w').mono ?_))))))))
  rintro _ w1 ⟨rfl, hO⟩
  refine (?_ : CL _ _ _ _ _ _ (Own w S [Res.row wb te (Vi now :: Vn cnt :: bv :: lv :: xs), Res.vec 105 2 bv bs.length (bs.flatMap BudD.cells), Res.vec 77 5 lv ls.length (ls.flatMap LeaD.cells)])) w1 (hw.frame0 hO)
  refine xn (q := yW k) rfl rfl (zC rfl (yk (q := ¬ (yW k)) 2 3 [19, 18] (a < 0) rfl rfl rfl rfl rfl rfl trivial rfl (fun h1_3 => ?_) (fun g1_6 => ?_)))
  ·
   refine zR rfl (gF h1_3) (zC rfl (zR rfl (gF h1_3) (z9 rfl rfl rfl ?_)))
   exact yH rfl (fun _ hw => hw)
  refine zA (zV rfl (fun c1 => ?_) (fun c1 => ?_))
  ·
   refine zB (zH rfl (zH rfl (zA ?_)))
   exact zN (yo (v := Vi 0) (v' := Vi 1) rfl rfl rfl (fun w' hw => ⟨0, 1, bv, bs, rfl, (zDx c1).symm, zDF (zDx c1) (by decide), rfl, hw⟩))
  ·
   refine zJ (zB (zC rfl (zC rfl (zQ rfl rfl (fun w' hw => (zCl wb te (xs) now cnt bv lv bs ls k w' ‹_› (hw.give [0, 1, 2] rfl (by decide))).mono ?_)))))
   rintro _ w1 ⟨rfl, hO⟩
   refine (?_ : CL _ _ _ _ _ _ (Own w S [Res.row wb te (Vi now :: Vn cnt :: bv :: lv :: xs), Res.vec 105 2 bv bs.length (bs.flatMap BudD.cells), Res.vec 77 5 lv ls.length (ls.flatMap LeaD.cells)])) w1 (hw.frameL [0, 1, 2] rfl hO)
   refine zC rfl (zr (vs := [Vi (yO k bs), Vi (yF k ls)]) rfl rfl rfl (zr (vs := [Vi (yO k bs), Vi (yF k ls)]) rfl rfl rfl (zH rfl (zH rfl (zA (zL (zB (zC rfl (yV rfl rfl rfl (zC rfl (yD (q := (yO k bs) = 0) 2 2 [31, 30] (0 < a) rfl rfl rfl rfl rfl rfl trivial rfl (fun h4_2 => ?_) (fun g4_5 => ?_))))))))))))
   ·
    refine zR rfl (gT h4_2) (zC rfl (zR rfl (gT h4_2) (xF rfl rfl rfl ?_)))
    exact yH rfl (fun _ hw => hw)
   refine zC rfl (yD (q := ((yO k bs) = 0) ∧ (0 < a)) 6 6 [39, 38, 37, 36, 35, 34] (64 ≤ ((bs.length : Nat) : Int)) rfl rfl rfl rfl rfl rfl trivial rfl (fun h4_6 => ?_) (fun g4_13 => ?_))
   ·
    refine zR rfl (gT h4_6) (zC rfl (zR rfl (gT h4_6) (zt rfl rfl (zR rfl (gT h4_6) (zO (o := 2) rfl rfl (zR rfl (gT h4_6) (zU 0 (v := bv) rfl rfl rfl rfl (zR rfl (gT h4_6) (yY (pV 1 rfl) rfl rfl (zR rfl (gT h4_6) (yU rfl rfl rfl ?_)))))))))))
    exact yH rfl (fun _ hw => hw)
   refine zA (zV rfl (fun c2 => ?_) (fun c2 => ?_))
   ·
    refine zB (zH rfl (zH rfl (zA ?_)))
    exact zN (yo (v := Vi 0) (v' := Vi 7) rfl rfl rfl (fun w' hw => ⟨0, 7, bv, bs, rfl, (zCD c1 c2).symm, zDF (zCD c1 c2) (by decide), rfl, hw⟩))
   ·
    refine zJ (zB (zH rfl (zA (zB (zC rfl (yV rfl rfl rfl (zH rfl (zA (zL (zB (zH rfl (zA ?_))))))))))))
    refine zW ?_
    refine zCn (fun (i : Nat) (p : Bool) (ov : Value) (os : List BudD) => [(0, .pointer (some ⟨wb, 0, none⟩)), (1, .string k), (2, Vi a), (9, Vi (yF k ls)), (10, ov), (11, .bool p), (12, Vj i)]) (fun (i : Nat) (p : Bool) (ov : Value) (os : List BudD) => i ≤ bs.length ∧ (p, os) = (bs.take i).foldl (y0 k a) (decide (a = 0), []) ∧ os.length ≤ 2 * i) (fun (i : Nat) (p : Bool) (ov : Value) (os : List BudD) => [Res.row wb te (Vi now :: Vn cnt :: bv :: lv :: xs), Res.vec 105 2 bv bs.length (bs.flatMap BudD.cells), Res.vec 77 5 lv ls.length (ls.flatMap LeaD.cells), Res.vec 105 2 ov os.length (os.flatMap BudD.cells)]) (fun (i : Nat) (p : Bool) (ov : Value) (os : List BudD) => bs.length - i) (fun w' hw => ⟨0, decide (a = 0), .slice none 0 0, [], ⟨rfl, rfl, rfl, rfl, rfl, rfl, rfl, trivial⟩, ⟨Nat.zero_le _, rfl, Nat.le_refl _⟩, (yZ hw 105 2)⟩) (fun i p ov os g hΦ => ?_)
    have hi := hΦ.1
    have hI := hΦ.2.1
    have hol := hΦ.2.2
    refine zL (zB (zC rfl (zC rfl (zt rfl rfl (zO (o := 2) rfl rfl (zU 0 (v := bv) rfl rfl rfl rfl (yY (pV 1 rfl) rfl rfl (z9 rfl rfl rfl (zA (zV rfl (fun c3 => ?_) (fun c3 => ?_)))))))))))
    ·
     refine zJ (zL (zW (zB (zC rfl (zt rfl rfl (zO (o := 2) rfl rfl (zU 0 (v := bv) rfl rfl rfl rfl (zC rfl (zF (pV 1 rfl) 2 i rfl rfl rfl (by omega) rfl (x2 (pV 1 rfl) 2 i (off := yK bv + i * 2) (fun _ => rfl) rfl rfl (by omega) rfl (yG (v := .agg #[.string (⟨#[]⟩ : ByteArray), Vi 0]) (by kernel_rfl) rfl (fun b13 => zm 4 rfl rfl rfl (zw rfl) rfl ?_))))))))))))
     refine zA (zL (zB (zC rfl (kz (b := p) rfl rfl (zC rfl (yD (q := (!p) = true) 4 2 [65, 64, 63, 62] (sLe k ((zG bs i).key)) rfl rfl (y3 _) rfl rfl rfl trivial rfl (fun h12_2 => ?_) (fun g12_7 => ?_)))))))
     ·
      refine zR rfl (bT h12_2) (zO (o := 0) rfl rfl (zR rfl (bT h12_2) (zU 4 (v := .string ((zG bs i).key)) rfl rfl rfl rfl (zR rfl (bT h12_2) (zC rfl (zR rfl (bT h12_2) (zLO rfl rfl rfl ?_)))))))
      exact yH rfl (fun _ hw => hw)
     refine zA (zV rfl (fun c4 => ?_) (fun c4 => ?_))
     ·
      refine zB (zC rfl (zC rfl (zC rfl (z8 (cs := [.string k, Vi a]) (z := [.string (⟨#[]⟩ : ByteArray), Vi 0]) (pl := [(0, 1), (1, 1)]) (by kernel_rfl) (by kernel_rfl) rfl (yh (e := 105) (sz := 2) (vs := [.agg #[.string k, Vi a]]) (by kernel_rfl) rfl rfl (by simp [Value.cells, BudD.cells]) (by decide) rfl (fun b71 => yq (g := BudD.cells) (sz := 2) (by' := 24) (fun _ => rfl) (l := os) (l' := [({ key := k, amount := a } : BudD)]) (by simp [cell1, BudD.cells, vu]) 3 (by kernel_rfl) rfl rfl rfl (fun w' hw' => Vec.sl (Own.holds hw' 5 _ rfl)) (by first | omega | (simp; omega)) (by decide) rfl (fun v72 => zH rfl (zA (zY (zH rfl (zA (zB ?_))))))))))))
      refine zO (o := 0) rfl rfl (zU 4 (v := .string ((zG bs i).key)) rfl rfl rfl rfl (zC rfl (zEr rfl rfl rfl (zA (zV rfl (fun c5 => ?_) (fun c5 => ?_))))))
      ·
       refine zY (zC rfl (yN (cs := (BudD.cells (zG bs i))) 4 rfl rfl rfl (yh (e := 105) (sz := 2) (vs := [.agg (BudD.cells (zG bs i)).toArray]) (by kernel_rfl) rfl rfl (by simp [Value.cells, BudD.cells]) (by decide) rfl (fun b79 => yq (g := BudD.cells) (sz := 2) (by' := 24) (fun _ => rfl) (l := os ++ [({ key := k, amount := a } : BudD)]) (l' := [(zG bs i)]) (by simp [cell1, BudD.cells, vu]) 3 (by kernel_rfl) rfl rfl rfl (fun w' hw' => Vec.sl (Own.holds hw' 6 _ rfl)) (by first | omega | (simp; omega)) (by decide) rfl (fun v80 => zH rfl (zA (zY (zC rfl (zn rfl rfl (zh (by omega)) rfl (zH rfl ?_))))))))))
       exact zd (fun w' hw => ⟨i + 1, true, v80, os ++ [⟨k, a⟩] ++ [zG bs i], ⟨rfl, rfl, rfl, rfl, rfl, rfl, rfl, trivial⟩, ⟨by omega, (zL1 ⟨zJ5 c4.1, c4.2⟩ c5).trans (jh hI (by omega)), by simp; omega⟩, hw.sel [0, 1, 2, 3] rfl (by decide), (by omega)⟩)
      ·
       refine zJ (zY (zC rfl (zn rfl rfl (zh (by omega)) rfl (zH rfl ?_))))
       exact zd (fun w' hw => ⟨i + 1, true, v72, os ++ [⟨k, a⟩], ⟨rfl, rfl, rfl, rfl, rfl, rfl, rfl, trivial⟩, ⟨by omega, (zL7 ⟨zJ5 c4.1, c4.2⟩ c5).trans (jh hI (by omega)), by simp; omega⟩, hw.sel [0, 1, 2, 3] rfl (by decide), (by omega)⟩)
     ·
      refine zJ (zB (zO (o := 0) rfl rfl (zU 4 (v := .string ((zG bs i).key)) rfl rfl rfl rfl (zC rfl (zEr rfl rfl rfl (zA (zV rfl (fun c6 => ?_) (fun c6 => ?_))))))))
      ·
       refine zY (zC rfl (yN (cs := (BudD.cells (zG bs i))) 4 rfl rfl rfl (yh (e := 105) (sz := 2) (vs := [.agg (BudD.cells (zG bs i)).toArray]) (by kernel_rfl) rfl rfl (by simp [Value.cells, BudD.cells]) (by decide) rfl (fun b79 => yq (g := BudD.cells) (sz := 2) (by' := 24) (fun _ => rfl) (l := os) (l' := [(zG bs i)]) (by simp [cell1, BudD.cells, vu]) 3 (by kernel_rfl) rfl rfl rfl (fun w' hw' => Vec.sl (Own.holds hw' 5 _ rfl)) (by first | omega | (simp; omega)) (by decide) rfl (fun v80 => zH rfl (zA (zY (zC rfl (zn rfl rfl (zh (by omega)) rfl (zH rfl ?_))))))))))
       exact zd (fun w' hw => ⟨i + 1, p, v80, os ++ [zG bs i], ⟨rfl, rfl, rfl, rfl, rfl, rfl, rfl, trivial⟩, ⟨by omega, (zL3 (fun q => c4 ⟨zJX q.1, q.2⟩) c6).trans (jh hI (by omega)), by simp; omega⟩, hw.sel [0, 1, 2, 3] rfl (by decide), (by omega)⟩)
      ·
       refine zJ (zY (zC rfl (zn rfl rfl (zh (by omega)) rfl (zH rfl ?_))))
       exact zd (fun w' hw => ⟨i + 1, p, ov, os, ⟨rfl, rfl, rfl, rfl, rfl, rfl, rfl, trivial⟩, ⟨by omega, (zMC (fun q => c4 ⟨zJX q.1, q.2⟩) c6).trans (jh hI (by omega)), by omega⟩, hw.sel [0, 1, 2, 3] rfl (by decide), (by omega)⟩)
    ·
     refine yB rfl (zL (zB (zC rfl (kz (b := p) rfl rfl (zA (jm rfl (fun c7 => ?_) (fun c7 => ?_)))))))
     ·
      refine zY (zC rfl (zC rfl (zC rfl (z8 (cs := [.string k, Vi a]) (z := [.string (⟨#[]⟩ : ByteArray), Vi 0]) (pl := [(0, 1), (1, 1)]) (by kernel_rfl) (by kernel_rfl) rfl (yh (e := 105) (sz := 2) (vs := [.agg #[.string k, Vi a]]) (by kernel_rfl) rfl rfl (by simp [Value.cells, BudD.cells]) (by decide) rfl (fun b87 => yq (g := BudD.cells) (sz := 2) (by' := 24) (fun _ => rfl) (l := os) (l' := [({ key := k, amount := a } : BudD)]) (by simp [cell1, BudD.cells, vu]) 3 (by kernel_rfl) rfl rfl rfl (fun w' hw' => Vec.sl (Own.holds hw' 4 _ rfl)) (by first | omega | (simp; omega)) (by decide) rfl (fun v88 => zH rfl (zA (zB (zC rfl (zC rfl (zt rfl rfl ?_))))))))))))
      refine zO (o := 2) rfl rfl ?_
      refine xc (fun w' hw => Own.cell1Vec (i := 3) rfl hw) (fun hc1_ => ?_)
      refine yn (cs := (Vi now :: Vn cnt :: bv :: lv :: xs)) 0 rfl rfl rfl hc1_ rfl (zA (zB (zC rfl (zH rfl (zH rfl (zA ?_))))))
      exact zN (yo (v := Vi (yF k ls)) (v' := Vi 0) rfl rfl rfl (fun w' hw => ⟨yF k ls, 0, v88, os ++ [⟨k, a⟩], rfl, (zBL c1 c2).symm, (by rw [← zDJ (zBL c1 c2) hI (by omega), if_pos (zJ5 c7)]), rfl, hw.sel [0, 3, 2] rfl (by decide)⟩))
     ·
      refine zJ (zB (zC rfl (zC rfl (zt rfl rfl (zO (o := 2) rfl rfl ?_)))))
      refine xc (fun w' hw => Own.cell1Vec (i := 3) rfl hw) (fun hc2_ => ?_)
      refine yn (cs := (Vi now :: Vn cnt :: bv :: lv :: xs)) 0 rfl rfl rfl hc2_ rfl (zA (zB (zC rfl (zH rfl (zH rfl (zA ?_))))))
      exact zN (yo (v := Vi (yF k ls)) (v' := Vi 0) rfl rfl rfl (fun w' hw => ⟨yF k ls, 0, ov, os, rfl, (zBL c1 c2).symm, (by rw [← zDJ (zBL c1 c2) hI (by omega), if_neg (by cases p <;> simp_all), List.append_nil]), rfl, hw.sel [0, 3, 2] rfl (by decide)⟩))
theorem zIY {S : List Nat} (wb te : Nat) (xs : List Value) (now : Int) (cnt : Nat) (bv lv : Value) (bs : List BudD) (ls : List LeaD) (s : Nat) (k : ByteArray) (a sp : Int) (w : World) (ho : QOk now cnt bs ls) (ha : yx a) (hc : cnt ≤ 1000000000) (hin : Own w S [Res.row wb te (Vi now :: Vn cnt :: bv :: lv :: xs), Res.vec 105 2 bv bs.length (bs.flatMap BudD.cells), Res.vec 77 5 lv ls.length (ls.flatMap LeaD.cells)] w) : Rets Tryz.prog 25 #[.pointer (some ⟨wb, 0, none⟩), Vn s, .string k, Vi a, Vi sp] w fun u_ w' => ∃ (x : LeaD) (e : Int) (cnt' : Nat) (lv' : Value) (ls' : List LeaD), u_ = .tuple #[.agg (LeaD.cells x).toArray, Vi e] ∧ e = xG s k a sp bs ls ∧ x = kL e cnt s k a (now + sp) ∧ cnt' = zAU e cnt ∧ ls' = zBD e x ls ∧ Own w S [Res.row wb te (Vi now :: Vn cnt' :: bv :: lv' :: xs), Res.vec 105 2 bv bs.length (bs.flatMap BudD.cells), Res.vec 77 5 lv' ls'.length (ls'.flatMap LeaD.cells)] w' := by
  have hll := ho.llen
  have ht := ho.time
  have hlen := ho.lent0 k
  refine ze Tryz.func25 rfl Tryz.ntmps25 hin ?_
  refine zB (yG (v := .agg #[Vn 0, Vn 0, .string (⟨#[]⟩ : ByteArray), Vi 0, Vi 0]) (by kernel_rfl) rfl (fun b10 => zH rfl (zA (zL (zB (zC rfl (yV rfl rfl rfl (zC rfl (yk (q := ((s : Nat) : Int) = ((0 : Nat) : Int)) 3 2 [22, 21, 20] (¬ (yW k)) rfl rfl rfl rfl rfl rfl trivial rfl (fun h1_2 => ?_) (fun g1_6 => ?_))))))))))
  ·
   refine zR rfl (gF h1_2) (zC rfl (zR rfl (gF h1_2) (zQ rfl rfl (fun w' hw => (zDp k w').mono ?_))))
   rintro _ w1 ⟨rfl, hO⟩
   refine (?_ : CL _ _ _ _ _ _ (Own w S [Res.row wb te (Vi now :: Vn cnt :: bv :: lv :: xs), Res.vec 105 2 bv bs.length (bs.flatMap BudD.cells), Res.vec 77 5 lv ls.length (ls.flatMap LeaD.cells), Res.row b10 77 [Vn 0, Vn 0, .string (⟨#[]⟩ : ByteArray), Vi 0, Vi 0]])) w1 (hw.frame0 hO)
   refine zR rfl (gF h1_2) (xn (q := yW k) rfl rfl ?_)
   exact yH rfl (fun _ hw => hw)
  refine zC rfl (yk (q := (((s : Nat) : Int) = ((0 : Nat) : Int)) ∨ (¬ (yW k))) 2 7 [26, 25] (a < 1) rfl rfl rfl rfl rfl rfl trivial rfl (fun h1_7 => ?_) (fun g1_10 => ?_))
  ·
   refine zR rfl (gF h1_7) (zC rfl (zR rfl (gF h1_7) (z9 rfl rfl rfl ?_)))
   exact yH rfl (fun _ hw => hw)
  refine zC rfl (yk (q := ((((s : Nat) : Int) = ((0 : Nat) : Int)) ∨ (¬ (yW k))) ∨ (a < 1)) 2 11 [30, 29] (sp < 1) rfl rfl rfl rfl rfl rfl trivial rfl (fun h1_11 => ?_) (fun g1_14 => ?_))
  ·
   refine zR rfl (gF h1_11) (zC rfl (zR rfl (gF h1_11) (z9 rfl rfl rfl ?_)))
   exact yH rfl (fun _ hw => hw)
  refine zC rfl (yk (q := (((((s : Nat) : Int) = ((0 : Nat) : Int)) ∨ (¬ (yW k))) ∨ (a < 1)) ∨ (sp < 1)) 2 15 [34, 33] (1099511627776 < sp) rfl rfl rfl rfl rfl rfl trivial rfl (fun h1_15 => ?_) (fun g1_18 => ?_))
  ·
   refine zR rfl (gF h1_15) (zC rfl (zR rfl (gF h1_15) (xF rfl rfl rfl ?_)))
   exact yH rfl (fun _ hw => hw)
  refine zA (zV rfl (fun c1 => ?_) (fun c1 => ?_))
  ·
   refine zB (z8 (cs := [Vn 0, Vn 0, .string (⟨#[]⟩ : ByteArray), Vi 0, Vi 0]) (z := [Vn 0, Vn 0, .string (⟨#[]⟩ : ByteArray), Vi 0, Vi 0]) (pl := [(0, 1), (1, 1), (2, 1), (3, 1), (4, 1)]) (by kernel_rfl) (by kernel_rfl) rfl (zm 3 rfl rfl rfl (zw rfl) rfl (zH rfl (zA ?_))))
   exact zN (zy (cs := [Vn 0, Vn 0, .string (⟨#[]⟩ : ByteArray), Vi 0, Vi 0]) (v := Vi 1) rfl rfl rfl (by kernel_rfl) (Own.rowCells (i := 3) rfl) (fun w' hw => ⟨LeaD.zero, 1, cnt, lv, ls, rfl, (zKf (zJR.1 c1)).symm, rfl, rfl, rfl, hw.sel [0, 1, 2] rfl (by decide)⟩))
  ·
   have hla : ¬ yb s k a sp := fun q => c1 (zJR.2 q)
   have hsp : 1 ≤ sp ∧ sp ≤ 1099511627776 := ⟨Int.not_lt.1 fun q => c1 (.inl (.inr q)), Int.not_lt.1 fun q => c1 (.inr q)⟩
   have ha1 : 1 ≤ a := Int.not_lt.1 fun q => c1 (.inl (.inl (.inr q)))
   refine zJ (zB (zC rfl (zC rfl (zQ rfl rfl (fun w' hw => (zCl wb te (xs) now cnt bv lv bs ls k w' ‹_› (hw.give [0, 1, 2] rfl (by decide))).mono ?_)))))
   rintro _ w1 ⟨rfl, hO⟩
   refine (?_ : CL _ _ _ _ _ _ (Own w S [Res.row b10 77 [Vn 0, Vn 0, .string (⟨#[]⟩ : ByteArray), Vi 0, Vi 0], Res.row wb te (Vi now :: Vn cnt :: bv :: lv :: xs), Res.vec 105 2 bv bs.length (bs.flatMap BudD.cells), Res.vec 77 5 lv ls.length (ls.flatMap LeaD.cells)])) w1 (hw.frameL [0, 1, 2] rfl hO)
   refine zC rfl (zr (vs := [Vi (yO k bs), Vi (yF k ls)]) rfl rfl rfl (zr (vs := [Vi (yO k bs), Vi (yF k ls)]) rfl rfl rfl (zH rfl (zH rfl (zA (zL (zB (zC rfl (yV rfl rfl rfl (zA (zV rfl (fun c2 => ?_) (fun c2 => ?_))))))))))))
   ·
    refine zB (z8 (cs := [Vn 0, Vn 0, .string (⟨#[]⟩ : ByteArray), Vi 0, Vi 0]) (z := [Vn 0, Vn 0, .string (⟨#[]⟩ : ByteArray), Vi 0, Vi 0]) (pl := [(0, 1), (1, 1), (2, 1), (3, 1), (4, 1)]) (by kernel_rfl) (by kernel_rfl) rfl (zm 0 rfl rfl rfl (zw rfl) rfl (zH rfl (zA ?_))))
    exact zN (zy (cs := [Vn 0, Vn 0, .string (⟨#[]⟩ : ByteArray), Vi 0, Vi 0]) (v := Vi 8) rfl rfl rfl (by kernel_rfl) (Own.rowCells (i := 0) rfl) (fun w' hw => ⟨LeaD.zero, 8, cnt, lv, ls, rfl, (zKl hla c2).symm, rfl, rfl, rfl, hw.sel [1, 2, 3] rfl (by decide)⟩))
   ·
    refine zJ (zB (zC rfl (zC rfl (zQ rfl rfl (fun w' hw => (zJu (yF k ls) a w' hlen ⟨by omega, ha.2⟩).mono ?_)))))
    rintro _ w1 ⟨n1_, e2_, rfl, hf6_2, hO⟩
    have hsum := zFr hf6_2
    refine (?_ : CL _ _ _ _ _ _ (Own w S [Res.row b10 77 [Vn 0, Vn 0, .string (⟨#[]⟩ : ByteArray), Vi 0, Vi 0], Res.row wb te (Vi now :: Vn cnt :: bv :: lv :: xs), Res.vec 105 2 bv bs.length (bs.flatMap BudD.cells), Res.vec 77 5 lv ls.length (ls.flatMap LeaD.cells)])) w1 (hw.frame0 hO)
    refine zC rfl (zr (vs := [Vi n1_, Vi e2_]) rfl rfl rfl (zr (vs := [Vi n1_, Vi e2_]) rfl rfl rfl (zH rfl (zH rfl (zA (zL (zB (zC rfl (jK rfl rfl rfl (zA (zV rfl (fun c3 => ?_) (fun c3 => ?_))))))))))))
    ·
     refine zB (z8 (cs := [Vn 0, Vn 0, .string (⟨#[]⟩ : ByteArray), Vi 0, Vi 0]) (z := [Vn 0, Vn 0, .string (⟨#[]⟩ : ByteArray), Vi 0, Vi 0]) (pl := [(0, 1), (1, 1), (2, 1), (3, 1), (4, 1)]) (by kernel_rfl) (by kernel_rfl) rfl (zC rfl (zm 0 rfl rfl rfl (zw rfl) rfl (zH rfl (zA ?_)))))
     exact zN (zy (cs := [Vn 0, Vn 0, .string (⟨#[]⟩ : ByteArray), Vi 0, Vi 0]) (v := Vi e2_) rfl rfl rfl (by kernel_rfl) (Own.rowCells (i := 0) rfl) (fun w' hw => ⟨LeaD.zero, e2_, cnt, lv, ls, rfl, (by rw [(k5 hsum c3).2]; exact (zJl hla c2 (k5 hsum c3).1).symm), (by rw [(k5 hsum c3).2]; rfl), (by rw [(k5 hsum c3).2]; rfl), (by rw [(k5 hsum c3).2]; rfl), hw.sel [1, 2, 3] rfl (by decide)⟩))
    ·
     refine zJ (zL (zB (zC rfl (zC rfl (xF rfl rfl rfl (zA (zV rfl (fun c4 => ?_) (fun c4 => ?_))))))))
     ·
      refine zB (z8 (cs := [Vn 0, Vn 0, .string (⟨#[]⟩ : ByteArray), Vi 0, Vi 0]) (z := [Vn 0, Vn 0, .string (⟨#[]⟩ : ByteArray), Vi 0, Vi 0]) (pl := [(0, 1), (1, 1), (2, 1), (3, 1), (4, 1)]) (by kernel_rfl) (by kernel_rfl) rfl (zm 0 rfl rfl rfl (zw rfl) rfl (zH rfl (zA ?_))))
      exact zN (zy (cs := [Vn 0, Vn 0, .string (⟨#[]⟩ : ByteArray), Vi 0, Vi 0]) (v := Vi 16) rfl rfl rfl (by kernel_rfl) (Own.rowCells (i := 0) rfl) (fun w' hw => ⟨LeaD.zero, 16, cnt, lv, ls, rfl, (zIf hla c2 (xX hsum c3).1 (by rw [← (xX hsum c3).2]; exact c4)).symm, rfl, rfl, rfl, hw.sel [1, 2, 3] rfl (by decide)⟩))
     ·
      refine zJ (zL (zB (zC rfl (zt rfl rfl (zO (o := 3) rfl rfl (zU 1 (v := lv) rfl rfl rfl rfl (yY (pV 3 rfl) rfl rfl (yU rfl rfl rfl (zA (zV rfl (fun c5 => ?_) (fun c5 => ?_)))))))))))
      ·
       refine zB (z8 (cs := [Vn 0, Vn 0, .string (⟨#[]⟩ : ByteArray), Vi 0, Vi 0]) (z := [Vn 0, Vn 0, .string (⟨#[]⟩ : ByteArray), Vi 0, Vi 0]) (pl := [(0, 1), (1, 1), (2, 1), (3, 1), (4, 1)]) (by kernel_rfl) (by kernel_rfl) rfl (zm 0 rfl rfl rfl (zw rfl) rfl (zH rfl (zA ?_))))
       exact zN (zy (cs := [Vn 0, Vn 0, .string (⟨#[]⟩ : ByteArray), Vi 0, Vi 0]) (v := Vi 7) rfl rfl rfl (by kernel_rfl) (Own.rowCells (i := 0) rfl) (fun w' hw => ⟨LeaD.zero, 7, cnt, lv, ls, rfl, (zJ3 hla c2 (xX hsum c3).1 (by rw [← (xX hsum c3).2]; exact c4) c5).symm, rfl, rfl, rfl, hw.sel [1, 2, 3] rfl (by decide)⟩))
      ·
       refine zJ (zB (zC rfl (zt rfl rfl (zO (o := 1) rfl rfl (zU 1 (v := Vn cnt) rfl rfl rfl rfl (zn rfl rfl (zAt (by omega)) rfl (zt rfl rfl (zO (o := 1) rfl rfl (yn (cs := (Vi now :: Vn cnt :: bv :: lv :: xs)) 1 rfl rfl rfl rfl rfl (zA (zL (zZ [0, 1, 2, 3] rfl (by decide) (by kernel_rfl) (fun w' hw hS => ?_)))))))))))))
       refine zD 0 rfl (zK) hS (zD 1 rfl (zq rfl) hS (zD 2 rfl (zc (o := 1) rfl) hS (zD 3 rfl (zl 1 (v := Vn (cnt + 1)) rfl rfl rfl) hS (zD 4 rfl (zK) hS (zD 5 rfl (zK) hS (zD 6 rfl (zK) hS (zD 7 rfl (zK) hS (zD 8 rfl (zq rfl) hS (zD 9 rfl (zc (o := 0) rfl) hS (zD 10 rfl (zl 1 (v := Vi now) rfl rfl rfl) hS (zD 11 rfl (zK) hS (zD 12 rfl (yz rfl rfl (zh (by omega))) hS ?_))))))))))))
       refine zD 13 rfl (kw (cs := [Vn (cnt + 1), Vn s, .string k, Vi a, Vi (now + sp)]) (z := [Vn 0, Vn 0, .string (⟨#[]⟩ : ByteArray), Vi 0, Vi 0]) (pl := [(0, 1), (1, 1), (2, 1), (3, 1), (4, 1)]) (by kernel_rfl) (by kernel_rfl)) hS (zX 14 rfl hw (yG (v := .agg #[Vn 0, Vn 0, .string (⟨#[]⟩ : ByteArray), Vi 0, Vi 0]) (by kernel_rfl) rfl (fun b16 => zE [0, 1, 2, 3] rfl (by decide) (fun w' hw hS => zX 15 rfl hw (zm 4 rfl rfl rfl (zw rfl) rfl (zE [0, 1, 2, 3] rfl (by decide) (fun w' hw hS => zM ?_)))))))
       refine (?_ : C _ _ _ _ _ _ _ (Own w S [Res.row b10 77 [Vn 0, Vn 0, .string (⟨#[]⟩ : ByteArray), Vi 0, Vi 0], Res.row wb te (Vi now :: Vn (cnt + 1) :: bv :: lv :: xs), Res.vec 105 2 bv bs.length (bs.flatMap BudD.cells), Res.vec 77 5 lv ls.length (ls.flatMap LeaD.cells), Res.row b16 77 [Vn (cnt + 1), Vn s, .string k, Vi a, Vi (now + sp)]])) _ hw
       refine zL (zZ [0, 2, 4] rfl (by decide) (by kernel_rfl) (fun w' hw hS => zD 0 rfl (zK) hS (zD 1 rfl (zK) hS (zD 2 rfl (zq rfl) hS (zD 3 rfl (zc (o := 3) rfl) hS (zD 5 rfl (xh (cs := [Vn (cnt + 1), Vn s, .string k, Vi a, Vi (now + sp)]) 2 rfl rfl) hS (za 4 6 ?_ ?_)))))))
       ·
        refine zT 4 rfl hw (zU 1 (v := lv) rfl rfl rfl rfl (zE [0, 2, 4] rfl (by decide) (fun w' hw hS => zX 6 rfl hw (yh (e := 77) (sz := 5) (vs := [.agg #[Vn (cnt + 1), Vn s, .string k, Vi a, Vi (now + sp)]]) (by kernel_rfl) rfl rfl (by simp [Value.cells, LeaD.cells]) (by decide) rfl (fun b94 => zE [0, 2, 4] rfl (by decide) (fun w' hw hS => zX 7 rfl hw (yq (g := LeaD.cells) (sz := 5) (by' := 48) (fun _ => rfl) (l := ls) (l' := [({ id := cnt + 1, session := s, key := k, amount := a, until_ := now + sp } : LeaD)]) (by simp [cell1, LeaD.cells, vu]) 3 (by kernel_rfl) rfl rfl rfl (fun w' hw' => Vec.sl (Own.holds hw' 5 _ rfl)) (by first | omega | (simp; omega)) (by decide) rfl (fun v95 => zE [0, 2, 4] rfl (by decide) (fun w' hw hS => zD 8 rfl (zq rfl) hS (zD 9 rfl (zc (o := 3) rfl) hS (zX 10 rfl hw ?_)))))))))))
        refine xc (fun w' hw => Own.cell1Vec (i := 3) rfl hw) (fun hc2_ => ?_)
        refine yn (cs := (Vi now :: Vn (cnt + 1) :: bv :: lv :: xs)) 1 rfl rfl rfl hc2_ rfl (zE [0, 2, 4] rfl (by decide) (fun w' hw hS => zM ?_))
        refine (?_ : C _ _ _ _ _ _ _ (Own w S [Res.row b10 77 [Vn 0, Vn 0, .string (⟨#[]⟩ : ByteArray), Vi 0, Vi 0], Res.row wb te (Vi now :: Vn (cnt + 1) :: bv :: v95 :: xs), Res.vec 105 2 bv bs.length (bs.flatMap BudD.cells), Res.vec 77 5 v95 (ls ++ [({ id := cnt + 1, session := s, key := k, amount := a, until_ := now + sp } : LeaD)]).length ((ls ++ [({ id := cnt + 1, session := s, key := k, amount := a, until_ := now + sp } : LeaD)]).flatMap LeaD.cells), Res.row b16 77 [Vn (cnt + 1), Vn s, .string k, Vi a, Vi (now + sp)], Res.vec 77 5 (.slice (some ⟨b94, 0, none⟩) 1 1) [({ id := cnt + 1, session := s, key := k, amount := a, until_ := now + sp } : LeaD)].length ([({ id := cnt + 1, session := s, key := k, amount := a, until_ := now + sp } : LeaD)].flatMap LeaD.cells)])) _ hw
        refine zB (yN (cs := [Vn (cnt + 1), Vn s, .string k, Vi a, Vi (now + sp)]) 4 rfl rfl rfl (zm 0 rfl rfl rfl (zw rfl) rfl (zH rfl (zA ?_))))
        exact zN (zy (cs := [Vn (cnt + 1), Vn s, .string k, Vi a, Vi (now + sp)]) (v := Vi 0) rfl rfl rfl (by kernel_rfl) (Own.rowCells (i := 0) rfl) (fun w' hw => ⟨⟨cnt + 1, s, k, a, now + sp⟩, 0, cnt + 1, v95, ls ++ [⟨cnt + 1, s, k, a, now + sp⟩], rfl, (zHo hla c2 (xX hsum c3).1 (by rw [← (xX hsum c3).2]; exact c4) c5).symm, rfl, rfl, rfl, hw.sel [1, 2, 3] rfl (by decide)⟩))
       ·
        refine zT 6 rfl hw (yh (e := 77) (sz := 5) (vs := [.agg #[Vn (cnt + 1), Vn s, .string k, Vi a, Vi (now + sp)]]) (by kernel_rfl) rfl rfl (by simp [Value.cells, LeaD.cells]) (by decide) rfl (fun b94 => zE [0, 2, 4] rfl (by decide) (fun w' hw hS => zX 4 rfl hw (zU 1 (v := lv) rfl rfl rfl rfl (zE [0, 2, 4] rfl (by decide) (fun w' hw hS => zX 7 rfl hw (yq (g := LeaD.cells) (sz := 5) (by' := 48) (fun _ => rfl) (l := ls) (l' := [({ id := cnt + 1, session := s, key := k, amount := a, until_ := now + sp } : LeaD)]) (by simp [cell1, LeaD.cells, vu]) 3 (by kernel_rfl) rfl rfl rfl (fun w' hw' => Vec.sl (Own.holds hw' 5 _ rfl)) (by first | omega | (simp; omega)) (by decide) rfl (fun v95 => zE [0, 2, 4] rfl (by decide) (fun w' hw hS => zD 8 rfl (zq rfl) hS (zD 9 rfl (zc (o := 3) rfl) hS (zX 10 rfl hw ?_)))))))))))
        refine xc (fun w' hw => Own.cell1Vec (i := 3) rfl hw) (fun hc3_ => ?_)
        refine yn (cs := (Vi now :: Vn (cnt + 1) :: bv :: lv :: xs)) 1 rfl rfl rfl hc3_ rfl (zE [0, 2, 4] rfl (by decide) (fun w' hw hS => zM ?_))
        refine (?_ : C _ _ _ _ _ _ _ (Own w S [Res.row b10 77 [Vn 0, Vn 0, .string (⟨#[]⟩ : ByteArray), Vi 0, Vi 0], Res.row wb te (Vi now :: Vn (cnt + 1) :: bv :: v95 :: xs), Res.vec 105 2 bv bs.length (bs.flatMap BudD.cells), Res.vec 77 5 v95 (ls ++ [({ id := cnt + 1, session := s, key := k, amount := a, until_ := now + sp } : LeaD)]).length ((ls ++ [({ id := cnt + 1, session := s, key := k, amount := a, until_ := now + sp } : LeaD)]).flatMap LeaD.cells), Res.row b16 77 [Vn (cnt + 1), Vn s, .string k, Vi a, Vi (now + sp)], Res.vec 77 5 (.slice (some ⟨b94, 0, none⟩) 1 1) [({ id := cnt + 1, session := s, key := k, amount := a, until_ := now + sp } : LeaD)].length ([({ id := cnt + 1, session := s, key := k, amount := a, until_ := now + sp } : LeaD)].flatMap LeaD.cells)])) _ hw
        refine zB (yN (cs := [Vn (cnt + 1), Vn s, .string k, Vi a, Vi (now + sp)]) 4 rfl rfl rfl (zm 0 rfl rfl rfl (zw rfl) rfl (zH rfl (zA ?_))))
        exact zN (zy (cs := [Vn (cnt + 1), Vn s, .string k, Vi a, Vi (now + sp)]) (v := Vi 0) rfl rfl rfl (by kernel_rfl) (Own.rowCells (i := 0) rfl) (fun w' hw => ⟨⟨cnt + 1, s, k, a, now + sp⟩, 0, cnt + 1, v95, ls ++ [⟨cnt + 1, s, k, a, now + sp⟩], rfl, (zHo hla c2 (xX hsum c3).1 (by rw [← (xX hsum c3).2]; exact c4) c5).symm, rfl, rfl, rfl, hw.sel [1, 2, 3] rfl (by decide)⟩))
def zGX (ls : List LeaD) (s i : Nat) (r : Int) : Prop := (r = -1 ∧ ∀ l ∈ ls, ¬ (l.id = i ∧ l.session = s)) ∨ (∃ k : Nat, r = (k : Int) ∧ k < ls.length ∧ (zG ls k).id = i ∧ (zG ls k).session = s)
theorem zDu {ls : List LeaD} {s i : Nat} {r : Int} (h : zGX ls s i r) (hr : r < 0) : ∀ l ∈ ls, ¬ (l.id = i ∧ l.session = s) := by
  rcases h with h | ⟨k, h, _⟩
  · exact h.2
  · omega
theorem zD6 {ls : List LeaD} {s i : Nat} {r : Int} (h : zGX ls s i r) (hr : ¬ r < 0) : r.toNat < ls.length ∧ (zG ls r.toNat).id = i ∧ (zG ls r.toNat).session = s := by
  rcases h with h | ⟨k, rfl, h⟩
  · omega
  · simpa using h
theorem zL5 {ls : List LeaD} {r : Int} (hr : ¬ r < 0) : (ls.take r.toNat).drop 0 ++ ls.drop (r + 1).toNat = ls.take r.toNat ++ ls.drop (r.toNat + 1) := by
  rw [show (r + 1).toNat = r.toNat + 1 by omega]; rfl
theorem zB7 {l : LeaD} {t : Int} (h : l.until_ < t) : yy l t = ⟨l.id, l.session, l.key, l.amount, t⟩ := by
  unfold yy; rw [Int.max_eq_right (by omega)]
theorem zCb {l : LeaD} {t : Int} (h : ¬ l.until_ < t) : yy l t = l := by
  unfold yy; rw [Int.max_eq_left (by omega)]
theorem zIU {α : Type} [Inhabited α] {l : List α} {k : Nat} {b : α} (h : k < l.length) : zG (l.set k b) k = b := by simp [zG, h]
theorem zHA {α : Type} [Inhabited α] {l : List α} {k : Nat} (h : k < l.length) : l = l.set k (zG l k) := by
  apply List.ext_getElem?
  intro j
  rw [List.getElem?_set]
  split
  · rename_i e; subst e; exact xM h
  · rfl
theorem zFG {S : List Nat} (wb te : Nat) (xs : List Value) (now : Int) (cnt : Nat) (bv lv : Value) (bs : List BudD) (ls : List LeaD) (s i : Nat) (w : World) (hll : ls.length ≤ 128) (hin : Own w S [Res.row wb te (Vi now :: Vn cnt :: bv :: lv :: xs), Res.vec 77 5 lv ls.length (ls.flatMap LeaD.cells)] w) : Rets Tryz.prog 40 #[.pointer (some ⟨wb, 0, none⟩), Vn s, Vn i] w fun u_ w' => ∃ (r : Int), u_ = Vi r ∧ zGX ls s i r ∧ Own w S [Res.row wb te (Vi now :: Vn cnt :: bv :: lv :: xs), Res.vec 77 5 lv ls.length (ls.flatMap LeaD.cells)] w' := by
  refine ze Tryz.func40 rfl Tryz.ntmps40 hin ?_
  refine zB (zH rfl (zA (zL (zB (zH rfl (zA (zW ?_)))))))
  refine xC (fun (k : Nat) => [(0, .pointer (some ⟨wb, 0, none⟩)), (1, Vn s), (2, Vn i), (7, Vj k)]) (fun (k : Nat) => k ≤ ls.length ∧ ∀ l ∈ ls.take k, ¬ (l.id = i ∧ l.session = s)) (fun (k : Nat) => [Res.row wb te (Vi now :: Vn cnt :: bv :: lv :: xs), Res.vec 77 5 lv ls.length (ls.flatMap LeaD.cells)]) (fun (k : Nat) => ls.length - k) (fun w' hw => ⟨0, ⟨rfl, rfl, rfl, rfl, trivial⟩, ⟨Nat.zero_le _, by simp⟩, hw⟩) (fun k g hΦ => ?_)
  have hk1 := hΦ.1
  have hkI := hΦ.2
  refine zL (zB (zC rfl (zC rfl (zt rfl rfl (zO (o := 3) rfl rfl (zU 0 (v := lv) rfl rfl rfl rfl (yY (pV 1 rfl) rfl rfl (z9 rfl rfl rfl (zA (zV rfl (fun c1 => ?_) (fun c1 => ?_)))))))))))
  ·
   refine zJ (zL (zW (zB (zC rfl (zt rfl rfl (zO (o := 3) rfl rfl (zU 0 (v := lv) rfl rfl rfl rfl (zC rfl (zF (pV 1 rfl) 5 k rfl rfl rfl (by omega) rfl (zO (o := 0) rfl rfl (zP (pV 1 rfl) 5 k 0 (off := yK lv + k * 5 + 0) (fun _ => rfl) rfl (by omega) (by omega) rfl rfl (zC rfl ?_))))))))))))
   refine yV rfl rfl rfl (zC rfl (yD (q := (((zG ls k).id : Nat) : Int) = ((i : Nat) : Int)) 10 10 [37, 36, 35, 34, 33, 32, 31, 30, 29, 28] ((((zG ls k).session : Nat) : Int) = ((s : Nat) : Int)) rfl rfl rfl rfl rfl rfl trivial rfl (fun h4_10 => ?_) (fun g4_21 => ?_)))
   ·
    refine zR rfl (gT h4_10) (zC rfl (zR rfl (gT h4_10) (zt rfl rfl (zR rfl (gT h4_10) (zO (o := 3) rfl rfl (zR rfl (gT h4_10) (zU 0 (v := lv) rfl rfl rfl rfl (zR rfl (gT h4_10) (zC rfl (zR rfl (gT h4_10) (zF (pV 1 rfl) 5 k rfl rfl rfl (by omega) rfl (zR rfl (gT h4_10) ?_))))))))))))
    refine zO (o := 1) rfl rfl (zR rfl (gT h4_10) (zP (pV 1 rfl) 5 k 1 (off := yK lv + k * 5 + 1) (fun _ => rfl) rfl (by omega) (by omega) rfl rfl (zR rfl (gT h4_10) (zC rfl (zR rfl (gT h4_10) (yV rfl rfl rfl ?_))))))
    exact yH rfl (fun _ hw => hw)
   refine zA (zV rfl (fun c2 => ?_) (fun c2 => ?_))
   ·
    refine zB (zC rfl (zH rfl (zA ?_)))
    exact zN (z4 (v := Vj k) rfl rfl (fun w' hw => ⟨((k : Nat) : Int), rfl, .inr ⟨k, rfl, by omega, by omega, by omega⟩, hw⟩))
   ·
    refine zJ (zY (zC rfl (zn rfl rfl (zh (by omega)) rfl (zH rfl ?_))))
    exact zd (fun w' hw => ⟨k + 1, ⟨rfl, rfl, rfl, rfl, trivial⟩, ⟨by omega, by rw [yP (by omega)]; intro l hl; rcases List.mem_append.1 hl with q | q; exact hkI l q; rw [List.mem_singleton.1 q]; omega⟩, hw, (by omega)⟩)
  ·
   refine yB rfl (zB (zH rfl (zA ?_)))
   exact zN (z4 (v := Vi (-1)) rfl rfl (fun w' hw => ⟨-1, rfl, .inl ⟨rfl, by have := hkI; rwa [List.take_of_length_le (by omega)] at this⟩, hw⟩))
theorem zGd {S : List Nat} (wb te : Nat) (xs : List Value) (now : Int) (cnt : Nat) (bv lv : Value) (bs : List BudD) (ls : List LeaD) (s i : Nat) (sp : Int) (w : World) (ho : QOk now cnt bs ls) (hin : Own w S [Res.row wb te (Vi now :: Vn cnt :: bv :: lv :: xs), Res.vec 105 2 bv bs.length (bs.flatMap BudD.cells), Res.vec 77 5 lv ls.length (ls.flatMap LeaD.cells)] w) : Rets Tryz.prog 26 #[.pointer (some ⟨wb, 0, none⟩), Vn s, Vn i, Vi sp] w fun u_ w' => ∃ (x : LeaD) (e : Int) (ls' : List LeaD), u_ = .tuple #[.agg (LeaD.cells x).toArray, Vi e] ∧ zA0 now bs ls s i sp x e ls' ∧ Own w S [Res.row wb te (Vi now :: Vn cnt :: bv :: lv :: xs), Res.vec 105 2 bv bs.length (bs.flatMap BudD.cells), Res.vec 77 5 lv ls'.length (ls'.flatMap LeaD.cells)] w' := by
  have hll := ho.llen
  have ht := ho.time
  refine ze Tryz.func26 rfl Tryz.ntmps26 hin ?_
  refine zB (yG (v := .agg #[Vn 0, Vn 0, .string (⟨#[]⟩ : ByteArray), Vi 0, Vi 0]) (by kernel_rfl) rfl (fun b8 => zH rfl (zA (zL (zB (zC rfl (z9 rfl rfl rfl (zC rfl (yk (q := sp < 1) 2 2 [17, 16] (1099511627776 < sp) rfl rfl rfl rfl rfl rfl trivial rfl (fun h1_2 => ?_) (fun g1_5 => ?_))))))))))
  ·
   refine zR rfl (gF h1_2) (zC rfl (zR rfl (gF h1_2) (xF rfl rfl rfl ?_)))
   exact yH rfl (fun _ hw => hw)
  refine zA (zV rfl (fun c1 => ?_) (fun c1 => ?_))
  ·
   refine zB (z8 (cs := [Vn 0, Vn 0, .string (⟨#[]⟩ : ByteArray), Vi 0, Vi 0]) (z := [Vn 0, Vn 0, .string (⟨#[]⟩ : ByteArray), Vi 0, Vi 0]) (pl := [(0, 1), (1, 1), (2, 1), (3, 1), (4, 1)]) (by kernel_rfl) (by kernel_rfl) rfl (zm 3 rfl rfl rfl (zw rfl) rfl (zH rfl (zA ?_))))
   exact zN (zy (cs := [Vn 0, Vn 0, .string (⟨#[]⟩ : ByteArray), Vi 0, Vi 0]) (v := Vi 1) rfl rfl rfl (by kernel_rfl) (Own.rowCells (i := 3) rfl) (fun w' hw => ⟨LeaD.zero, 1, ls, rfl, .inl ⟨fun q => by unfold yM at q; omega, rfl, rfl, rfl⟩, hw.sel [0, 1, 2] rfl (by decide)⟩))
  ·
   have hsp : 1 ≤ sp ∧ sp ≤ 1099511627776 := ⟨Int.not_lt.1 fun q => c1 (.inl q), Int.not_lt.1 fun q => c1 (.inr q)⟩
   refine zJ (zB (zC rfl (zC rfl (zC rfl (zQ rfl rfl (fun w' hw => (zFG wb te (xs) now cnt bv lv bs ls s i w' (by first | omega | (simp <;> omega)) (hw.give [0, 2] rfl (by decide))).mono ?_))))))
   rintro _ w1 ⟨r1_, rfl, hf3_3, hO⟩
   refine (?_ : CL _ _ _ _ _ _ (Own w S [Res.vec 105 2 bv bs.length (bs.flatMap BudD.cells), Res.row b8 77 [Vn 0, Vn 0, .string (⟨#[]⟩ : ByteArray), Vi 0, Vi 0], Res.row wb te (Vi now :: Vn cnt :: bv :: lv :: xs), Res.vec 77 5 lv ls.length (ls.flatMap LeaD.cells)])) w1 (hw.frameL [0, 2] rfl hO)
   refine zH rfl (zA (zL (zB (zC rfl (z9 rfl rfl rfl (zA (zV rfl (fun c2 => ?_) (fun c2 => ?_))))))))
   ·
    refine zB (z8 (cs := [Vn 0, Vn 0, .string (⟨#[]⟩ : ByteArray), Vi 0, Vi 0]) (z := [Vn 0, Vn 0, .string (⟨#[]⟩ : ByteArray), Vi 0, Vi 0]) (pl := [(0, 1), (1, 1), (2, 1), (3, 1), (4, 1)]) (by kernel_rfl) (by kernel_rfl) rfl (zm 1 rfl rfl rfl (zw rfl) rfl (zH rfl (zA ?_))))
    exact zN (zy (cs := [Vn 0, Vn 0, .string (⟨#[]⟩ : ByteArray), Vi 0, Vi 0]) (v := Vi 17) rfl rfl rfl (by kernel_rfl) (Own.rowCells (i := 1) rfl) (fun w' hw => ⟨LeaD.zero, 17, ls, rfl, .inr (.inl ⟨hsp, zDu hf3_3 c2, rfl, rfl, rfl⟩), hw.sel [2, 0, 3] rfl (by decide)⟩))
   ·
    have hat := zD6 hf3_3 c2
    have hat1 := hat.1
    refine zJ (zB (zC rfl (zC rfl (zt rfl rfl (zO (o := 3) rfl rfl (zU 2 (v := lv) rfl rfl rfl rfl (zC rfl (zF (pV 3 rfl) 5 ((r1_).toNat) rfl rfl (by omega) (by omega) rfl (zO (o := 2) rfl rfl (zP (pV 3 rfl) 5 ((r1_).toNat) 2 (off := yK lv + ((r1_).toNat) * 5 + 2) (fun _ => rfl) rfl (by omega) (by omega) rfl rfl (zQ rfl rfl (fun w' hw => (zCl wb te (xs) now cnt bv lv bs ls ((zG ls ((r1_).toNat)).key) w' ‹_› (hw.give [2, 0, 3] rfl (by decide))).mono ?_))))))))))))
    rintro _ w1 ⟨rfl, hO⟩
    refine (?_ : CL _ _ _ _ _ _ (Own w S [Res.row b8 77 [Vn 0, Vn 0, .string (⟨#[]⟩ : ByteArray), Vi 0, Vi 0], Res.row wb te (Vi now :: Vn cnt :: bv :: lv :: xs), Res.vec 105 2 bv bs.length (bs.flatMap BudD.cells), Res.vec 77 5 lv ls.length (ls.flatMap LeaD.cells)])) w1 (hw.frameL [2, 0, 3] rfl hO)
    refine zC rfl (zr (vs := [Vi (yO ((zG ls ((r1_).toNat)).key) bs), Vi (yF ((zG ls ((r1_).toNat)).key) ls)]) rfl rfl rfl (zr (vs := [Vi (yO ((zG ls ((r1_).toNat)).key) bs), Vi (yF ((zG ls ((r1_).toNat)).key) ls)]) rfl rfl rfl (zH rfl (zH rfl (zA (zL (zB (zC rfl (zC rfl (xF rfl rfl rfl (zA (zV rfl (fun c3 => ?_) (fun c3 => ?_)))))))))))))
    ·
     refine zB (z8 (cs := [Vn 0, Vn 0, .string (⟨#[]⟩ : ByteArray), Vi 0, Vi 0]) (z := [Vn 0, Vn 0, .string (⟨#[]⟩ : ByteArray), Vi 0, Vi 0]) (pl := [(0, 1), (1, 1), (2, 1), (3, 1), (4, 1)]) (by kernel_rfl) (by kernel_rfl) rfl (zm 0 rfl rfl rfl (zw rfl) rfl (zH rfl (zA ?_))))
     exact zN (zy (cs := [Vn 0, Vn 0, .string (⟨#[]⟩ : ByteArray), Vi 0, Vi 0]) (v := Vi 16) rfl rfl rfl (by kernel_rfl) (Own.rowCells (i := 0) rfl) (fun w' hw => ⟨LeaD.zero, 16, ls, rfl, .inr (.inr ⟨hsp, _, hat.1, hat.2.1, hat.2.2, .inl ⟨c3, rfl, rfl, rfl⟩⟩), hw.sel [1, 2, 3] rfl (by decide)⟩))
    ·
     refine zJ (zL (xN (by kernel_rfl) (by kernel_rfl) (zb rfl (zK) (zb rfl (zq rfl) (zb rfl (zc (o := 3) rfl) (zb rfl (zl 1 (v := lv) rfl rfl rfl) (zb rfl (zK) (zb rfl (z7 (pV 3 rfl) 5 ((r1_).toNat) rfl rfl (by omega) (by omega)) (zb rfl (zc (o := 4) rfl) (zb rfl (yT (pV 3 rfl) 5 ((r1_).toNat) 4 (off := yK lv + ((r1_).toNat) * 5 + 4) (fun _ => rfl) rfl (by omega) (by omega) rfl) (zb rfl (zK) (zb rfl (zq rfl) ?_))))))))))))
     refine zb rfl (zc (o := 0) rfl) (zb rfl (zl 1 (v := Vi now) rfl rfl rfl) (zb rfl (zK) (zb rfl (yz rfl rfl (zh (by omega))) (zb rfl (zCR rfl rfl) (js (zV rfl (fun c4 => ?_) (fun c4 => ?_)))))))
     ·
      refine zZ [0, 1, 2] rfl (by decide) (by kernel_rfl) (fun w' hw hS => zD 0 rfl (zK) hS (zD 1 rfl (zq rfl) hS (zD 2 rfl (zc (o := 3) rfl) hS (zD 3 rfl (zl 1 (v := lv) rfl rfl rfl) hS (zD 4 rfl (zK) hS (zD 5 rfl (zK) hS (zD 6 rfl (zq rfl) hS (zD 7 rfl (zc (o := 0) rfl) hS (zD 8 rfl (zl 1 (v := Vi now) rfl rfl rfl) hS (zD 9 rfl (zK) hS (zD 10 rfl (yz rfl rfl (zh (by omega))) hS (zX 11 rfl hw ?_))))))))))))
      refine zF (pV 3 rfl) 5 ((r1_).toNat) rfl rfl (by omega) (by omega) rfl (zE [0, 1, 2] rfl (by decide) (fun w' hw hS => zD 12 rfl (zc (o := 4) rfl) hS (zX 13 rfl hw (zHP 3 5 ((r1_).toNat) 4 ({ (zG ls ((r1_).toNat)) with until_ := now + sp } : LeaD) (off := yK lv + ((r1_).toNat) * 5 + 4) rfl (fun _ => rfl) rfl (by omega) rfl rfl rfl (by omega) (by decide) (by kernel_rfl) (zE [0, 1, 2] rfl (by decide) (fun w' hw hS => zM ?_))))))
      refine (?_ : C _ _ _ _ _ _ _ (Own w S [Res.row b8 77 [Vn 0, Vn 0, .string (⟨#[]⟩ : ByteArray), Vi 0, Vi 0], Res.row wb te (Vi now :: Vn cnt :: bv :: lv :: xs), Res.vec 105 2 bv bs.length (bs.flatMap BudD.cells), Res.vec 77 5 lv (ls.set ((r1_).toNat) ({ (zG ls ((r1_).toNat)) with until_ := now + sp } : LeaD)).length ((ls.set ((r1_).toNat) ({ (zG ls ((r1_).toNat)) with until_ := now + sp } : LeaD)).flatMap LeaD.cells)])) _ hw
      refine zB (zC rfl (zt rfl rfl (zO (o := 3) rfl rfl (zU 1 (v := lv) rfl rfl rfl rfl (zC rfl (zF (pV 3 rfl) 5 ((r1_).toNat) rfl rfl (by omega) (by simp only [List.length_set]; omega) rfl (x2 (pV 3 rfl) 5 ((r1_).toNat) (off := yK lv + ((r1_).toNat) * 5) (fun _ => rfl) rfl rfl (by simp only [List.length_set]; omega) rfl (zm 0 rfl rfl rfl (zw rfl) rfl (zH rfl (zA ?_))))))))))
      exact zN (zy (cs := (LeaD.cells (zG (ls.set ((r1_).toNat) ({ (zG ls ((r1_).toNat)) with until_ := now + sp } : LeaD)) ((r1_).toNat)))) (v := Vi 0) rfl rfl rfl (by kernel_rfl) (Own.rowCells (i := 0) rfl) (fun w' hw => ⟨yy (zG ls (r1_).toNat) (now + sp), 0, ls.set (r1_).toNat (yy (zG ls (r1_).toNat) (now + sp)), (by rw [zIU hat1, zB7 c4]), .inr (.inr ⟨hsp, _, hat.1, hat.2.1, hat.2.2, .inr ⟨by omega, rfl, rfl, rfl⟩⟩), by rw [zB7 c4]; exact hw.sel [1, 2, 3] rfl (by decide)⟩))
     ·
      refine zJ (zB (zC rfl (zt rfl rfl (zO (o := 3) rfl rfl (zU 1 (v := lv) rfl rfl rfl rfl (zC rfl (zF (pV 3 rfl) 5 ((r1_).toNat) rfl rfl (by omega) (by omega) rfl (x2 (pV 3 rfl) 5 ((r1_).toNat) (off := yK lv + ((r1_).toNat) * 5) (fun _ => rfl) rfl rfl (by omega) rfl (zm 0 rfl rfl rfl (zw rfl) rfl (zH rfl (zA ?_)))))))))))
      exact zN (zy (cs := (LeaD.cells (zG ls ((r1_).toNat)))) (v := Vi 0) rfl rfl rfl (by kernel_rfl) (Own.rowCells (i := 0) rfl) (fun w' hw => ⟨yy (zG ls (r1_).toNat) (now + sp), 0, ls, (by rw [zCb c4]), .inr (.inr ⟨hsp, _, hat.1, hat.2.1, hat.2.2, .inr ⟨by omega, rfl, rfl, by rw [zCb c4]; exact zHA hat1⟩⟩), hw.sel [1, 2, 3] rfl (by decide)⟩))
theorem zIL {S : List Nat} (wb te : Nat) (xs : List Value) (now : Int) (cnt : Nat) (bv lv : Value) (bs : List BudD) (ls : List LeaD) (s i : Nat) (w : World) (hll : ls.length ≤ 128) (hin : Own w S [Res.row wb te (Vi now :: Vn cnt :: bv :: lv :: xs), Res.vec 77 5 lv ls.length (ls.flatMap LeaD.cells)] w) : Rets Tryz.prog 27 #[.pointer (some ⟨wb, 0, none⟩), Vn s, Vn i] w fun u_ w' => ∃ (x : LeaD) (e : Int) (lv' : Value) (ls' : List LeaD), u_ = .tuple #[.agg (LeaD.cells x).toArray, Vi e] ∧ zCf ls s i x e ls' ∧ Own w S [Res.row wb te (Vi now :: Vn cnt :: bv :: lv' :: xs), Res.vec 77 5 lv' ls'.length (ls'.flatMap LeaD.cells)] w' := by
  refine ze Tryz.func27 rfl Tryz.ntmps27 hin ?_
  refine zB (yG (v := .agg #[Vn 0, Vn 0, .string (⟨#[]⟩ : ByteArray), Vi 0, Vi 0]) (by kernel_rfl) rfl (fun b6 => zH rfl (zA (zB (zC rfl (zC rfl (zC rfl (zQ rfl rfl (fun w' hw => (zFG wb te (xs) now cnt bv lv bs ls s i w' (by first | omega | (simp <;> omega)) (hw.give [0, 1] rfl (by decide))).mono ?_)))))))))
  rintro _ w1 ⟨r1_, rfl, hf1_3, hO⟩
  refine (?_ : CL _ _ _ _ _ _ (Own w S [Res.row b6 77 [Vn 0, Vn 0, .string (⟨#[]⟩ : ByteArray), Vi 0, Vi 0], Res.row wb te (Vi now :: Vn cnt :: bv :: lv :: xs), Res.vec 77 5 lv ls.length (ls.flatMap LeaD.cells)])) w1 (hw.frameL [0, 1] rfl hO)
  refine zH rfl (zA (zL (zB (zC rfl (z9 rfl rfl rfl (zA (zV rfl (fun c1 => ?_) (fun c1 => ?_))))))))
  ·
   refine zB (z8 (cs := [Vn 0, Vn 0, .string (⟨#[]⟩ : ByteArray), Vi 0, Vi 0]) (z := [Vn 0, Vn 0, .string (⟨#[]⟩ : ByteArray), Vi 0, Vi 0]) (pl := [(0, 1), (1, 1), (2, 1), (3, 1), (4, 1)]) (by kernel_rfl) (by kernel_rfl) rfl (zm 0 rfl rfl rfl (zw rfl) rfl (zH rfl (zA ?_))))
   exact zN (zy (cs := [Vn 0, Vn 0, .string (⟨#[]⟩ : ByteArray), Vi 0, Vi 0]) (v := Vi 17) rfl rfl rfl (by kernel_rfl) (Own.rowCells (i := 0) rfl) (fun w' hw => ⟨LeaD.zero, 17, lv, ls, rfl, .inl ⟨zDu hf1_3 c1, rfl, rfl, rfl⟩, hw.sel [1, 2] rfl (by decide)⟩))
  ·
   have hat := zD6 hf1_3 c1
   have hat1 := hat.1
   refine zJ (zB (zC rfl (zt rfl rfl (zO (o := 3) rfl rfl (zU 1 (v := lv) rfl rfl rfl rfl (zC rfl (zF (pV 2 rfl) 5 ((r1_).toNat) rfl rfl (by omega) (by omega) rfl (x2 (pV 2 rfl) 5 ((r1_).toNat) (off := yK lv + ((r1_).toNat) * 5) (fun _ => rfl) rfl rfl (by omega) rfl (yG (v := .agg #[Vn 0, Vn 0, .string (⟨#[]⟩ : ByteArray), Vi 0, Vi 0]) (by kernel_rfl) rfl (fun b9 => zm 3 rfl rfl rfl (zw rfl) rfl (zA (zB ?_))))))))))))
   refine yh (e := 77) (sz := 5) (vs := []) (by kernel_rfl) rfl rfl (by simp [Value.cells, LeaD.cells]) (by decide) rfl (fun b25 => zC rfl (zt rfl rfl (zO (o := 3) rfl rfl (zU 1 (v := lv) rfl rfl rfl rfl (zC rfl (zHV (pV 2 rfl) 5 0 ((r1_).toNat) (by kernel_rfl) rfl rfl ⟨_, (show Value.int .i64 _ = Value.int .i64 _ by congr 1; omega)⟩ (by omega) (by omega) rfl (yq (g := LeaD.cells) (sz := 5) (by' := 48) (fun _ => rfl) (l := []) (l' := ((ls.take ((r1_).toNat)).drop 0)) (by simp [cell1, LeaD.cells, vu]) 4 (by kernel_rfl) rfl rfl rfl (fun w' hw' => Sl.subL_f (g := LeaD.cells) (xs := ls) (sz := 5) (fun _ => rfl) ((fun w' hw' => Vec.sl (Own.holds hw' 2 _ rfl)) w' hw') (l := 0) (h := (r1_).toNat) (by omega) (by omega)) (by first | omega | (simp; omega)) (by decide) rfl (fun v32 => zH rfl (zA (zB (zC rfl (zC rfl ?_))))))))))))
   refine zC rfl (zt rfl rfl (zO (o := 3) rfl rfl (zU 1 (v := lv) rfl rfl rfl rfl (zC rfl (zn rfl rfl (zh (by omega)) rfl (zHV (pV 2 rfl) 5 ((r1_ + 1).toNat) ls.length (by kernel_rfl) rfl ⟨_, (show Value.int .i64 _ = Value.int .i64 _ by congr 1; omega)⟩ rfl (by omega) (by omega) rfl (yq (g := LeaD.cells) (sz := 5) (by' := 48) (fun _ => rfl) (l := ((ls.take ((r1_).toNat)).drop 0)) (l' := (ls.drop ((r1_ + 1).toNat))) (by simp [cell1, LeaD.cells, vu]) 4 (by kernel_rfl) rfl rfl rfl (fun w' hw' => Sl.dropL_f (g := LeaD.cells) (xs := ls) (sz := 5) (fun _ => rfl) ((fun w' hw' => Vec.sl (Own.holds hw' 2 _ rfl)) w' hw') (l := (r1_ + 1).toNat) (by omega)) (by first | omega | (simp; omega)) (by decide) rfl (fun v42 => zt rfl rfl (zO (o := 3) rfl rfl ?_)))))))))
   refine xc (fun w' hw => Own.cell1Vec (i := 4) rfl hw) (fun hc1_ => ?_)
   refine yn (cs := (Vi now :: Vn cnt :: bv :: lv :: xs)) 1 rfl rfl rfl hc1_ rfl (zA (zB (yN (cs := (LeaD.cells (zG ls ((r1_).toNat)))) 3 rfl rfl rfl (zm 0 rfl rfl rfl (zw rfl) rfl (zH rfl (zA ?_))))))
   exact zN (zy (cs := (LeaD.cells (zG ls ((r1_).toNat)))) (v := Vi 0) rfl rfl rfl (by kernel_rfl) (Own.rowCells (i := 0) rfl) (fun w' hw => ⟨zG ls (r1_).toNat, 0, v42, ls.take (r1_).toNat ++ ls.drop ((r1_).toNat + 1), rfl, .inr ⟨_, hat.1, hat.2.1, hat.2.2, rfl, rfl, rfl⟩, by rw [← zL5 (ls := ls) c1]; exact hw.sel [1, 4] rfl (by decide)⟩))
end Go.Proofs.YtcdiehplbmkmeaaGreat
