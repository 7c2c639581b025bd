import Derived.Test.YthincafbmpialaaGreatQuotaW
set_option linter.unusedSectionVars false
set_option linter.unusedSimpArgs false
set_option linter.unusedVariables false
set_option maxRecDepth 10000
namespace Go.Proofs.YthincafbmpialaaGreat
open Go Go.Sc Go.Proofs
theorem zCI {key : ByteArray} {bs : List BudD} {k : Nat} (hn : (bs.map (·.key)).Nodup) (hk : k < bs.length) : yr key (bs.take (k + 1)) = if (zI bs k).key = key then (zI bs k).amount else yr key (bs.take k) := by
  have hn' : KNd (KB (bs.take (k + 1))) := zHY (hn.sublist ((List.take_sublist _ _).map _))
  unfold yr
  rw [yB hk] at hn' ⊢
  have e : KB (bs.take k ++ [zI bs k]) = KB (bs.take k) ++ [((zI bs k).key, (zI bs k).amount)] := by unfold KB; rw [List.map_append]; rfl
  rw [e] at hn' ⊢
  have hp := (List.perm_append_comm : (KB (bs.take k) ++ [((zI bs k).key, (zI bs k).amount)]).Perm _)
  rw [kU hn' hp]
  show (zu key (((zI bs k).key, (zI bs k).amount) :: KB (bs.take k))).getD 0 = _
  show (if key = (zI bs k).key then some (zI bs k).amount else zu key (KB (bs.take k))).getD 0 = _
  by_cases c : key = (zI bs k).key
  · rw [if_pos c, if_pos c.symm]; rfl
  · rw [if_neg c, if_neg fun q => c q.symm]
theorem zHL {key : ByteArray} {ls : List LeaD} {k : Nat} {n : Int} (h : n = yh key (ls.take k)) (hk : k < ls.length) (hy : (zI ls k).key = key) : IntKind.i64.wrap (n + (zI ls k).amount) = yh key (ls.take (k + 1)) := by
  rw [h, yB hk]; unfold yh; rw [zEu, ku]; simp only [ym, if_pos hy, Int.add_zero]
theorem zIe {key : ByteArray} {ls : List LeaD} {k : Nat} {n : Int} (h : n = yh key (ls.take k)) (hk : k < ls.length) (hy : ¬ (zI ls k).key = key) : n = yh key (ls.take (k + 1)) := by
  rw [h, yB hk]; unfold yh; rw [ku]; simp only [ym, if_neg hy, Int.add_zero]
theorem zAV {key : ByteArray} {a : Int} {bs : List BudD} {k : Nat} {q q0 : Bool × List BudD} (h : q = (bs.take k).foldl (xW key a) q0) (hk : k < bs.length) : xW key a q (zI bs k) = (bs.take (k + 1)).foldl (xW key a) q0 := by
  rw [yB hk, List.foldl_append, h]; rfl
theorem zE3 {k : ByteArray} {a : Int} {bs : List BudD} (h : ¬ yZ k ∨ a < 0) : zBI k a bs = 1 := if_pos h
theorem zDF {k : ByteArray} {a : Int} {bs : List BudD} (h : ¬ (¬ yZ k ∨ a < 0)) (h2 : (yr k bs = 0 ∧ 0 < a) ∧ 64 ≤ ((bs.length : Nat) : Int)) : zBI k a bs = 7 := by
  unfold zBI; rw [if_neg h, if_pos ⟨h2.1.1, h2.1.2, by omega⟩]
theorem zB5 {k : ByteArray} {a : Int} {bs : List BudD} (h : ¬ (¬ yZ k ∨ a < 0)) (h2 : ¬ ((yr k bs = 0 ∧ 0 < a) ∧ 64 ≤ ((bs.length : Nat) : Int))) : zBI k a bs = 0 := by
  unfold zBI; rw [if_neg h, if_neg fun q => h2 ⟨⟨q.1, q.2.1⟩, by omega⟩]
theorem zEy {k : ByteArray} {a e : Int} {bs : List BudD} (h : zBI k a bs = e) (he : e ≠ 0) : bs = zBv k a bs := by
  unfold zBv; rw [if_neg (by rw [h]; exact he)]
theorem zFK {k : ByteArray} {a : Int} {bs os : List BudD} {p : Bool} {i : Nat} (h : zBI k a bs = 0) (hI : (p, os) = (bs.take i).foldl (xW k a) (decide (a = 0), [])) (hi : bs.length ≤ i) : os ++ (if p = false then [⟨k, a⟩] else []) = zBv k a bs := by
  rw [List.take_of_length_le hi] at hI
  unfold zBv zEN
  rw [if_pos h, ← hI]
theorem zNh {k : ByteArray} {a : Int} {p : Bool} {os : List BudD} {b : BudD} (h1 : p = false ∧ sLe k b.key) (h2 : b.key ≠ k) : (true, os ++ [⟨k, a⟩] ++ [b]) = xW k a (p, os) b := by
  unfold xW; simp only [if_pos h1, if_pos h2, decide_eq_true h1.2, Bool.or_true]
theorem zNl {k : ByteArray} {a : Int} {p : Bool} {os : List BudD} {b : BudD} (h1 : p = false ∧ sLe k b.key) (h2 : ¬ b.key ≠ k) : (true, os ++ [⟨k, a⟩]) = xW k a (p, os) b := by
  unfold xW; simp only [if_pos h1, if_neg h2, decide_eq_true h1.2, Bool.or_true, List.append_nil]
theorem zLl {p : Bool} (h : (!p) = true) : p = false := by cases p <;> simp_all
theorem zLG {p : Bool} (h : p = false) : (!p) = true := by rw [h]; rfl
theorem zMy {p : Bool} {q : Prop} [Decidable q] (h1 : ¬ (p = false ∧ q)) : p = (p || decide q) := by
  cases p with
  | true => rfl
  | false => rw [decide_eq_false fun h => h1 ⟨rfl, h⟩]; rfl
theorem zNc {k : ByteArray} {a : Int} {p : Bool} {os : List BudD} {b : BudD} (h1 : ¬ (p = false ∧ sLe k b.key)) (h2 : b.key ≠ k) : (p, os ++ [b]) = xW k a (p, os) b := by
  unfold xW; simp only [if_neg h1, if_pos h2, List.append_nil, ← zMy h1]
theorem zNm {k : ByteArray} {a : Int} {p : Bool} {os : List BudD} {b : BudD} (h1 : ¬ (p = false ∧ sLe k b.key)) (h2 : ¬ b.key ≠ k) : (p, os) = xW k a (p, os) b := by
  unfold xW; simp only [if_neg h1, if_neg h2, List.append_nil, ← zMy h1]
theorem zKx {s : Nat} {k : ByteArray} {a sp : Int} : ((((((s : Nat) : Int) = ((0 : Nat) : Int)) ∨ ¬ yZ k) ∨ a < 1) ∨ sp < 1) ∨ 1099511627776 < sp ↔ y9 s k a sp := by
  rw [← larg, or_assoc]
  refine or_congr Iff.rfl ?_
  unfold y3; omega
section
variable {s : Nat} {k : ByteArray} {a sp : Int} {bs : List BudD} {ls : List LeaD}
theorem zMN (h : y9 s k a sp) : kP s k a sp bs ls = 1 := if_pos h
theorem zLQ (h : ¬ y9 s k a sp) (h2 : yr k bs = 0) : kP s k a sp bs ls = 8 := by
  unfold kP; rw [if_neg h, if_pos h2]
theorem zMI (h : ¬ y9 s k a sp) (h2 : ¬ yr k bs = 0) (h3 : 9223372036854775807 < yh k ls + a) : kP s k a sp bs ls = 3 := by
  unfold kP; rw [if_neg h, if_neg h2, if_pos h3]
theorem zJh (h : ¬ y9 s k a sp) (h2 : ¬ yr k bs = 0) (h3 : ¬ 9223372036854775807 < yh k ls + a) (h4 : yr k bs < yh k ls + a) : kP s k a sp bs ls = 16 := by
  unfold kP; rw [if_neg h, if_neg h2, if_neg h3, if_pos h4]
theorem zL9 (h : ¬ y9 s k a sp) (h2 : ¬ yr k bs = 0) (h3 : ¬ 9223372036854775807 < yh k ls + a) (h4 : ¬ yr k bs < yh k ls + a) (h5 : 128 ≤ ((ls.length : Nat) : Int)) : kP s k a sp bs ls = 7 := by
  unfold kP; rw [if_neg h, if_neg h2, if_neg h3, if_neg h4, if_pos (by omega)]
theorem zJH (h : ¬ y9 s k a sp) (h2 : ¬ yr k bs = 0) (h3 : ¬ 9223372036854775807 < yh k ls + a) (h4 : ¬ yr k bs < yh k ls + a) (h5 : ¬ 128 ≤ ((ls.length : Nat) : Int)) : kP s k a sp bs ls = 0 := by
  unfold kP; rw [if_neg h, if_neg h2, if_neg h3, if_neg h4, if_neg (by omega)]
theorem zHU {n m e : Int} (h : (9223372036854775807 < n + a ∧ e = 3 ∧ m = 0) ∨ (n + a ≤ 9223372036854775807 ∧ e = 0 ∧ m = n + a)) :
    (9223372036854775807 < n + a ∧ e = 3) ∨ (¬ 9223372036854775807 < n + a ∧ e = 0 ∧ m = n + a) := by omega
theorem jU {n m e : Int} (h : (9223372036854775807 < n + a ∧ e = 3) ∨ (¬ 9223372036854775807 < n + a ∧ e = 0 ∧ m = n + a)) (he : e ≠ 0) : 9223372036854775807 < n + a ∧ e = 3 := by
  rcases h with h | h
  · exact h
  · exact absurd h.2.1 he
theorem kH {n m e : Int} (h : (9223372036854775807 < n + a ∧ e = 3) ∨ (¬ 9223372036854775807 < n + a ∧ e = 0 ∧ m = n + a)) (he : ¬ e ≠ 0) : ¬ 9223372036854775807 < n + a ∧ m = n + a := by omega
end
theorem kE {now n e : Int} {ls : List LeaD} (h : xz now n = e) (he : e ≠ 0) : e = xz now n ∧ now = kW now n ∧ ls = jX now n ls ∧ [] = zIF now n ls := by
  have h0 : ¬ xz now n = 0 := by rw [h]; exact he
  exact ⟨h.symm, (if_neg h0).symm, (if_neg h0).symm, (if_neg h0).symm⟩
theorem zE5 {t : Int} {ls : List LeaD} {k : Nat} (hk : k < ls.length) (h : (zI ls k).until_ ≤ t) : ((ls.take k).filter (kj t)).map (·.id) ++ [(zI ls k).id] = ((ls.take (k + 1)).filter (kj t)).map (·.id) ∧ (ls.take k).filter (fun l => !kj t l) = (ls.take (k + 1)).filter (fun l => !kj t l) := by
  rw [yB hk, List.filter_append, List.filter_append, List.filter_cons_of_pos (by simpa [kj] using h), List.filter_cons_of_neg (by simpa [kj] using h)]
  simp
theorem zEf {t : Int} {ls : List LeaD} {k : Nat} (hk : k < ls.length) (h : ¬ (zI ls k).until_ ≤ t) : ((ls.take k).filter (kj t)).map (·.id) = ((ls.take (k + 1)).filter (kj t)).map (·.id) ∧ (ls.take k).filter (fun l => !kj t l) ++ [zI ls k] = (ls.take (k + 1)).filter (fun l => !kj t l) := by
  rw [yB hk, List.filter_append, List.filter_append, List.filter_cons_of_neg (by simpa [kj] using h), List.filter_cons_of_pos (by simpa [kj] using h)]
  simp
theorem zGC (p : LeaD → Bool) (ls : List LeaD) (k : Nat) : ((ls.take k).filter p).length ≤ ls.length := Nat.le_trans (List.length_filter_le _ _) (List.length_take_le' _ _)
theorem zFN (k : ByteArray) (w : World) : Rets Tryz.prog 67 #[.string k] w fun u_ w' => u_ = .bool (decide (yZ k)) ∧ Own w [] [] w' := by
  refine zW Tryz.func67 rfl Tryz.ntmps67 (Own.start w) ?_
  refine zB (zD rfl (zA (zB (zC rfl (zCc (by kernel_rfl) rfl rfl (xC rfl rfl rfl (zC rfl (yP (q := 1 ≤ ((k.size : Nat) : Int)) 3 3 [9, 8, 7] (((k.size : Nat) : Int) ≤ 64) rfl rfl rfl rfl rfl rfl trivial rfl (fun h1_3 => ?_) (fun g1_7 => ?_)))))))))
  ·
   refine zO rfl (gT h1_3) (zC rfl (zO rfl (gT h1_3) (zCc (by kernel_rfl) rfl rfl (zO rfl (gT h1_3) (ka rfl rfl rfl ?_)))))
   exact yL rfl (fun _ hw => hw)
  refine zD rfl (zA ?_)
  exact zM (z6 (v := .bool (decide ((1 ≤ ((k.size : Nat) : Int)) ∧ (((k.size : Nat) : Int) ≤ 64)))) rfl rfl (fun w' hw => ⟨(by congr 1; exact decide_eq_decide.2 (by unfold yZ; omega)), hw.drop⟩))
theorem zMR (a c : Int) (w : World) (ha : 0 ≤ a ∧ a ≤ 9223372036854775807) (hc : 0 ≤ c ∧ c ≤ 9223372036854775807) : Rets Tryz.prog 68 #[Vi a, Vi c] w fun u_ w' => ∃ (n e : Int), u_ = .tuple #[Vi n, Vi e] ∧ ((9223372036854775807 < a + c ∧ e = 3 ∧ n = 0) ∨ (a + c ≤ 9223372036854775807 ∧ e = 0 ∧ n = a + c)) ∧ Own w [] [] w' := by
  refine zW Tryz.func68 rfl Tryz.ntmps68 (Own.start w) ?_
  refine zB (zD rfl (zD rfl (zA (zL (zB (zC rfl (xC rfl rfl rfl (zC rfl (yP (q := 0 ≤ c) 4 2 [12, 11, 10, 9] ((9223372036854775807 - c) < a) rfl rfl rfl rfl rfl rfl trivial rfl (fun h1_2 => ?_) (fun g1_7 => ?_))))))))))
  ·
   refine zO rfl (gT h1_2) (zC rfl (zO rfl (gT h1_2) (zC rfl (zO rfl (gT h1_2) (yX rfl rfl (zr (by omega)) rfl (zO rfl (gT h1_2) (yg rfl rfl rfl ?_)))))))
   exact yL rfl (fun _ hw => hw)
  refine zC rfl (yY (q := (0 ≤ c) ∧ ((9223372036854775807 - c) < a)) 8 8 [22, 21, 20, 19, 18, 17, 16, 15] ((c < 0) ∧ (a < ((-9223372036854775808) - c))) rfl rfl rfl rfl rfl rfl trivial rfl (fun h1_8 => ?_) (fun g1_17 => ?_))
  ·
   refine zO rfl (gF h1_8) (zC rfl (zO rfl (gF h1_8) (yI rfl rfl rfl (zO rfl (gF h1_8) (zC rfl (yP (q := c < 0) 4 11 [21, 20, 19, 18] (a < ((-9223372036854775808) - c)) rfl rfl rfl rfl rfl rfl ⟨_, rfl, rfl, gF h1_8⟩ rfl (fun h1_11 => ?_) (fun g1_16 => ?_)))))))
   ·
    refine zO rfl (gT h1_11) (zC rfl (zO rfl (gT h1_11) (zC rfl (zO rfl (gT h1_11) (yX rfl rfl (zr (by omega)) rfl (zO rfl (gT h1_11) (yI rfl rfl rfl ?_)))))))
    exact yL rfl (fun _ hw => hw)
   exact yL rfl (fun _ hw => hw)
  refine zA (zU rfl (fun c1 => ?_) (fun c1 => ?_))
  ·
   refine zB (zD rfl (zD rfl (zA ?_)))
   exact zM (xK (v := Vi 0) (v' := Vi 3) rfl rfl rfl (fun w' hw => ⟨0, 3, rfl, .inl ⟨by omega, rfl, rfl⟩, hw.drop⟩))
  ·
   refine zK (zB (zC rfl (zC rfl (zt rfl rfl (zr (by omega)) rfl (zD rfl (zD rfl (zA ?_)))))))
   exact zM (xK (v := Vi (a + c)) (v' := Vi 0) rfl rfl rfl (fun w' hw => ⟨a + c, 0, rfl, .inr ⟨by omega, rfl, rfl⟩, hw.drop⟩))
theorem zB1 {S : List Nat} (wb te : Nat) (xs : List Value) (now : Int) (cnt : Nat) (bv lv : Value) (bs : List BudD) (ls : List LeaD) (k : ByteArray) (w : World) (ho : QOk now cnt bs ls) (hin : Own w S [Res.row wb te (Vi now :: Vn cnt :: bv :: lv :: xs), Res.vec 93 2 bv bs.length (bs.flatMap BudD.cells), Res.vec 76 5 lv ls.length (ls.flatMap LeaD.cells)] w) : Rets Tryz.prog 37 #[.pointer (some ⟨wb, 0, none⟩), .string k] w fun u_ w' => u_ = .tuple #[Vi (yr k bs), Vi (yh k ls)] ∧ Own w S [Res.row wb te (Vi now :: Vn cnt :: bv :: lv :: xs), Res.vec 93 2 bv bs.length (bs.flatMap BudD.cells), Res.vec 76 5 lv ls.length (ls.flatMap LeaD.cells)] w' := by
  have hbl := ho.blen
  have hll := ho.llen
  refine zW Tryz.func37 rfl Tryz.ntmps37 hin ?_
  refine zB (zD rfl (zD rfl (zA (zB (zD rfl (zA (zL (zB (zD rfl (zA (zT ?_)))))))))))
  refine xT (fun (i : Nat) (n : Int) => [(0, .pointer (some ⟨wb, 0, none⟩)), (1, .string k), (6, Vi n), (7, Vj i)]) (fun (i : Nat) (n : Int) => i ≤ bs.length ∧ n = yr k (bs.take i)) (fun (i : Nat) (n : Int) => [Res.row wb te (Vi now :: Vn cnt :: bv :: lv :: xs), Res.vec 93 2 bv bs.length (bs.flatMap BudD.cells), Res.vec 76 5 lv ls.length (ls.flatMap LeaD.cells)]) (fun (i : Nat) (n : Int) => bs.length - i) (fun w' hw => ⟨0, 0, ⟨rfl, rfl, rfl, rfl, trivial⟩, ⟨Nat.zero_le _, rfl⟩, hw⟩) (fun i n g hΦ => ?_)
  have hi := hΦ.1
  have hn := hΦ.2
  refine zL (zB (zC rfl (zC rfl (zm rfl rfl (zP (o := 2) rfl rfl (zS 0 (v := bv) rfl rfl rfl rfl (yC (pV 1 rfl) rfl rfl (yI rfl rfl rfl (zA (zU rfl (fun c1 => ?_) (fun c1 => ?_)))))))))))
  ·
   refine zK (zL (zT (zB (zC rfl (zm rfl rfl (zP (o := 2) rfl rfl (zS 0 (v := bv) rfl rfl rfl rfl (zC rfl (zH (pV 1 rfl) 2 i rfl rfl rfl (by omega) rfl (zP (o := 0) rfl rfl (zV (pV 1 rfl) 2 i 0 (off := yn bv + i * 2 + 0) (fun _ => rfl) rfl (by omega) (by omega) rfl rfl (zC rfl ?_))))))))))))
   refine zGL rfl rfl rfl (zA (zU rfl (fun c2 => ?_) (fun c2 => ?_)))
   ·
    refine zd (zC rfl (zm rfl rfl (zP (o := 2) rfl rfl (zS 0 (v := bv) rfl rfl rfl rfl (zC rfl (zH (pV 1 rfl) 2 i rfl rfl rfl (by omega) rfl (zP (o := 1) rfl rfl (zV (pV 1 rfl) 2 i 1 (off := yn bv + i * 2 + 1) (fun _ => rfl) rfl (by omega) (by omega) rfl rfl (zD rfl (zA (zd (zC rfl ?_))))))))))))
    refine zt rfl rfl (zr (by omega)) rfl (zD rfl ?_)
    exact zj (fun w' hw => ⟨i + 1, (zI bs i).amount, ⟨rfl, rfl, rfl, rfl, trivial⟩, ⟨by omega, by rw [zCI ho.bnd (by omega), if_pos c2]⟩, hw, (by omega)⟩)
   ·
    refine zK (zd (zC rfl (zt rfl rfl (zr (by omega)) rfl (zD rfl ?_))))
    exact zj (fun w' hw => ⟨i + 1, n, ⟨rfl, rfl, rfl, rfl, trivial⟩, ⟨by omega, by rw [zCI ho.bnd (by omega), if_neg c2]; exact hn⟩, hw, (by omega)⟩)
  ·
   refine yG rfl (zB (zD rfl (zA (zL (zB (zD rfl (zA (zT ?_))))))))
   refine xT (fun (j : Nat) (m : Int) => [(0, .pointer (some ⟨wb, 0, none⟩)), (1, .string k), (6, Vi n), (8, Vi m), (9, Vj j)]) (fun (j : Nat) (m : Int) => j ≤ ls.length ∧ m = yh k (ls.take j)) (fun (j : Nat) (m : Int) => [Res.row wb te (Vi now :: Vn cnt :: bv :: lv :: xs), Res.vec 93 2 bv bs.length (bs.flatMap BudD.cells), Res.vec 76 5 lv ls.length (ls.flatMap LeaD.cells)]) (fun (j : Nat) (m : Int) => ls.length - j) (fun w' hw => ⟨0, 0, ⟨rfl, rfl, rfl, rfl, rfl, trivial⟩, ⟨Nat.zero_le _, rfl⟩, hw⟩) (fun j m g hΦ => ?_)
   have hj := hΦ.1
   have hm := hΦ.2
   refine zL (zB (zC rfl (zC rfl (zm rfl rfl (zP (o := 3) rfl rfl (zS 0 (v := lv) rfl rfl rfl rfl (yC (pV 2 rfl) rfl rfl (yI rfl rfl rfl (zA (zU rfl (fun c3 => ?_) (fun c3 => ?_)))))))))))
   ·
    refine zK (zL (zT (zB (zC rfl (zm rfl rfl (zP (o := 3) rfl rfl (zS 0 (v := lv) rfl rfl rfl rfl (zC rfl (zH (pV 2 rfl) 5 j rfl rfl rfl (by omega) rfl (zP (o := 2) rfl rfl (zV (pV 2 rfl) 5 j 2 (off := yn lv + j * 5 + 2) (fun _ => rfl) rfl (by omega) (by omega) rfl rfl (zC rfl ?_))))))))))))
    refine zGL rfl rfl rfl (zA (zU rfl (fun c4 => ?_) (fun c4 => ?_)))
    ·
     refine zd (zC rfl (zC rfl (zm rfl rfl (zP (o := 3) rfl rfl (zS 0 (v := lv) rfl rfl rfl rfl (zC rfl (zH (pV 2 rfl) 5 j rfl rfl rfl (by omega) rfl (zP (o := 3) rfl rfl (zV (pV 2 rfl) 5 j 3 (off := yn lv + j * 5 + 3) (fun _ => rfl) rfl (by omega) (by omega) rfl rfl (zt (c := IntKind.i64.wrap (m + (zI ls j).amount)) rfl rfl rfl rfl (zD rfl (zA ?_))))))))))))
     refine zd (zC rfl (zt rfl rfl (zr (by omega)) rfl (zD rfl ?_)))
     exact zj (fun w' hw => ⟨j + 1, IntKind.i64.wrap (m + (zI ls j).amount), ⟨rfl, rfl, rfl, rfl, rfl, trivial⟩, ⟨by omega, zHL hm (by omega) c4⟩, hw, (by omega)⟩)
    ·
     refine zK (zd (zC rfl (zt rfl rfl (zr (by omega)) rfl (zD rfl ?_))))
     exact zj (fun w' hw => ⟨j + 1, m, ⟨rfl, rfl, rfl, rfl, rfl, trivial⟩, ⟨by omega, zIe hm (by omega) c4⟩, hw, (by omega)⟩)
   ·
    refine yG rfl (zB (zC rfl (zC rfl (zD rfl (zD rfl (zA ?_))))))
    exact zM (xK (v := Vi n) (v' := Vi m) rfl rfl rfl (fun w' hw => ⟨(by rw [hn, hm, List.take_of_length_le (by omega), List.take_of_length_le (by omega)]), hw⟩))
theorem zLU {S : List Nat} (wb te : Nat) (xs : List Value) (now : Int) (cnt : Nat) (bv lv : Value) (bs : List BudD) (ls : List LeaD) (k : ByteArray) (a : Int) (w : World) (ho : QOk now cnt bs ls) (hin : Own w S [Res.row wb te (Vi now :: Vn cnt :: bv :: lv :: xs), Res.vec 93 2 bv bs.length (bs.flatMap BudD.cells), Res.vec 76 5 lv ls.length (ls.flatMap LeaD.cells)] w) : Rets Tryz.prog 31 #[.pointer (some ⟨wb, 0, none⟩), .string k, Vi a] w fun u_ w' => ∃ (n e : Int) (bv' : Value) (bs' : List BudD), u_ = .tuple #[Vi n, Vi e] ∧ e = zBI k a bs ∧ bs' = zBv k a bs ∧ (n = if e = 0 then yh k ls else 0) ∧ Own w S [Res.row wb te (Vi now :: Vn cnt :: bv' :: lv :: xs), Res.vec 93 2 bv' bs'.length (bs'.flatMap BudD.cells), Res.vec 76 5 lv ls.length (ls.flatMap LeaD.cells)] w' := by
  have hbl := ho.blen
  refine zW Tryz.func31 rfl Tryz.ntmps31 hin ?_
  refine zB (zD rfl (zD rfl (zA (zL (zB (zC rfl (zJ rfl rfl (fun w' hw => (zFN k w').mono ?_))))))))
  rintro _ w1 ⟨rfl, hO⟩
  refine (?_ : CL _ _ _ _ _ _ (Own w S [Res.row wb te (Vi now :: Vn cnt :: bv :: lv :: xs), Res.vec 93 2 bv bs.length (bs.flatMap BudD.cells), Res.vec 76 5 lv ls.length (ls.flatMap LeaD.cells)])) w1 (hw.frame0 hO)
  refine xo (q := yZ k) rfl rfl (zC rfl (yY (q := ¬ (yZ k)) 2 3 [19, 18] (a < 0) rfl rfl rfl rfl rfl rfl trivial rfl (fun h1_3 => ?_) (fun g1_6 => ?_)))
  ·
   refine zO rfl (gF h1_3) (zC rfl (zO rfl (gF h1_3) (yI rfl rfl rfl ?_)))
   exact yL rfl (fun _ hw => hw)
  refine zA (zU rfl (fun c1 => ?_) (fun c1 => ?_))
  ·
   refine zB (zD rfl (zD rfl (zA ?_)))
   exact zM (xK (v := Vi 0) (v' := Vi 1) rfl rfl rfl (fun w' hw => ⟨0, 1, bv, bs, rfl, (zE3 c1).symm, zEy (zE3 c1) (by decide), rfl, hw⟩))
  ·
   refine zK (zB (zC rfl (zC rfl (zJ rfl rfl (fun w' hw => (zB1 wb te (xs) now cnt bv lv bs ls k w' ‹_› (hw.give [0, 1, 2] rfl (by decide))).mono ?_)))))
   rintro _ w1 ⟨rfl, hO⟩
   refine (?_ : CL _ _ _ _ _ _ (Own w S [Res.row wb te (Vi now :: Vn cnt :: bv :: lv :: xs), Res.vec 93 2 bv bs.length (bs.flatMap BudD.cells), Res.vec 76 5 lv ls.length (ls.flatMap LeaD.cells)])) w1 (hw.frameL [0, 1, 2] rfl hO)
   refine zC rfl (zp (vs := [Vi (yr k bs), Vi (yh k ls)]) rfl rfl rfl (zp (vs := [Vi (yr k bs), Vi (yh k ls)]) rfl rfl rfl (zD rfl (zD rfl (zA (zL (zB (zC rfl (yo rfl rfl rfl (zC rfl (yP (q := (yr k bs) = 0) 2 2 [31, 30] (0 < a) rfl rfl rfl rfl rfl rfl trivial rfl (fun h4_2 => ?_) (fun g4_5 => ?_))))))))))))
   ·
    refine zO rfl (gT h4_2) (zC rfl (zO rfl (gT h4_2) (yg rfl rfl rfl ?_)))
    exact yL rfl (fun _ hw => hw)
   refine zC rfl (yP (q := ((yr k bs) = 0) ∧ (0 < a)) 6 6 [39, 38, 37, 36, 35, 34] (64 ≤ ((bs.length : Nat) : Int)) rfl rfl rfl rfl rfl rfl trivial rfl (fun h4_6 => ?_) (fun g4_13 => ?_))
   ·
    refine zO rfl (gT h4_6) (zC rfl (zO rfl (gT h4_6) (zm rfl rfl (zO rfl (gT h4_6) (zP (o := 2) rfl rfl (zO rfl (gT h4_6) (zS 0 (v := bv) rfl rfl rfl rfl (zO rfl (gT h4_6) (yC (pV 1 rfl) rfl rfl (zO rfl (gT h4_6) (xC rfl rfl rfl ?_)))))))))))
    exact yL rfl (fun _ hw => hw)
   refine zA (zU rfl (fun c2 => ?_) (fun c2 => ?_))
   ·
    refine zB (zD rfl (zD rfl (zA ?_)))
    exact zM (xK (v := Vi 0) (v' := Vi 7) rfl rfl rfl (fun w' hw => ⟨0, 7, bv, bs, rfl, (zDF c1 c2).symm, zEy (zDF c1 c2) (by decide), rfl, hw⟩))
   ·
    refine zK (zB (zD rfl (zA (zB (zC rfl (yo rfl rfl rfl (zD rfl (zA (zL (zB (zD rfl (zA ?_))))))))))))
    refine zT ?_
    refine zB6 (fun (i : Nat) (p : Bool) (ov : Value) (os : List BudD) => [(0, .pointer (some ⟨wb, 0, none⟩)), (1, .string k), (2, Vi a), (9, Vi (yh k ls)), (10, ov), (11, .bool p), (12, Vj i)]) (fun (i : Nat) (p : Bool) (ov : Value) (os : List BudD) => i ≤ bs.length ∧ (p, os) = (bs.take i).foldl (xW k a) (decide (a = 0), []) ∧ os.length ≤ 2 * i) (fun (i : Nat) (p : Bool) (ov : Value) (os : List BudD) => [Res.row wb te (Vi now :: Vn cnt :: bv :: lv :: xs), Res.vec 93 2 bv bs.length (bs.flatMap BudD.cells), Res.vec 76 5 lv ls.length (ls.flatMap LeaD.cells), Res.vec 93 2 ov os.length (os.flatMap BudD.cells)]) (fun (i : Nat) (p : Bool) (ov : Value) (os : List BudD) => bs.length - i) (fun w' hw => ⟨0, decide (a = 0), .slice none 0 0, [], ⟨rfl, rfl, rfl, rfl, rfl, rfl, rfl, trivial⟩, ⟨Nat.zero_le _, rfl, Nat.le_refl _⟩, (yK hw 93 2)⟩) (fun i p ov os g hΦ => ?_)
    have hi := hΦ.1
    have hI := hΦ.2.1
    have hol := hΦ.2.2
    refine zL (zB (zC rfl (zC rfl (zm rfl rfl (zP (o := 2) rfl rfl (zS 0 (v := bv) rfl rfl rfl rfl (yC (pV 1 rfl) rfl rfl (yI rfl rfl rfl (zA (zU rfl (fun c3 => ?_) (fun c3 => ?_)))))))))))
    ·
     refine zK (zL (zT (zB (zC rfl (zm rfl rfl (zP (o := 2) rfl rfl (zS 0 (v := bv) rfl rfl rfl rfl (zC rfl (zH (pV 1 rfl) 2 i rfl rfl rfl (by omega) rfl (xh (pV 1 rfl) 2 i (off := yn bv + i * 2) (fun _ => rfl) rfl rfl (by omega) rfl (yF (v := .agg #[.string (⟨#[]⟩ : ByteArray), Vi 0]) (by kernel_rfl) rfl (fun b13 => zh 4 rfl rfl rfl (z8 rfl) rfl ?_))))))))))))
     refine zA (zL (zB (zC rfl (kY (b := p) rfl rfl (zC rfl (yP (q := (!p) = true) 4 2 [65, 64, 63, 62] (sLe k ((zI bs i).key)) rfl rfl (yb _) rfl rfl rfl trivial rfl (fun h12_2 => ?_) (fun g12_7 => ?_)))))))
     ·
      refine zO rfl (bT h12_2) (zP (o := 0) rfl rfl (zO rfl (bT h12_2) (zS 4 (v := .string ((zI bs i).key)) rfl rfl rfl rfl (zO rfl (bT h12_2) (zC rfl (zO rfl (bT h12_2) (zM5 rfl rfl rfl ?_)))))))
      exact yL rfl (fun _ hw => hw)
     refine zA (zU rfl (fun c4 => ?_) (fun c4 => ?_))
     ·
      refine zB (zC rfl (zC rfl (zC rfl (yQ (cs := [.string k, Vi a]) (z := [.string (⟨#[]⟩ : ByteArray), Vi 0]) (pl := [(0, 1), (1, 1)]) (by kernel_rfl) (by kernel_rfl) rfl (yj (e := 93) (sz := 2) (vs := [.agg #[.string k, Vi a]]) (by kernel_rfl) rfl rfl (by simp [Value.cells, BudD.cells]) (by decide) rfl (fun b71 => yu (g := BudD.cells) (sz := 2) (by' := 24) (fun _ => rfl) (l := os) (l' := [({ key := k, amount := a } : BudD)]) (by simp [cell1, BudD.cells, vu]) 3 (by kernel_rfl) rfl rfl rfl (fun w' hw' => Vec.sl (Own.holds hw' 5 _ rfl)) (by first | omega | (simp; omega)) (by decide) rfl (fun v72 => zD rfl (zA (zd (zD rfl (zA (zB ?_))))))))))))
      refine zP (o := 0) rfl rfl (zS 4 (v := .string ((zI bs i).key)) rfl rfl rfl rfl (zC rfl (zJK rfl rfl rfl (zA (zU rfl (fun c5 => ?_) (fun c5 => ?_))))))
      ·
       refine zd (zC rfl (yN (cs := (BudD.cells (zI bs i))) 4 rfl rfl rfl (yj (e := 93) (sz := 2) (vs := [.agg (BudD.cells (zI bs i)).toArray]) (by kernel_rfl) rfl rfl (by simp [Value.cells, BudD.cells]) (by decide) rfl (fun b79 => yu (g := BudD.cells) (sz := 2) (by' := 24) (fun _ => rfl) (l := os ++ [({ key := k, amount := a } : BudD)]) (l' := [(zI bs i)]) (by simp [cell1, BudD.cells, vu]) 3 (by kernel_rfl) rfl rfl rfl (fun w' hw' => Vec.sl (Own.holds hw' 6 _ rfl)) (by first | omega | (simp; omega)) (by decide) rfl (fun v80 => zD rfl (zA (zd (zC rfl (zt rfl rfl (zr (by omega)) rfl (zD rfl ?_))))))))))
       exact zj (fun w' hw => ⟨i + 1, true, v80, os ++ [⟨k, a⟩] ++ [zI bs i], ⟨rfl, rfl, rfl, rfl, rfl, rfl, rfl, trivial⟩, ⟨by omega, (zNh ⟨zLl c4.1, c4.2⟩ c5).trans (zAV hI (by omega)), by simp; omega⟩, hw.sel [0, 1, 2, 3] rfl (by decide), (by omega)⟩)
      ·
       refine zK (zd (zC rfl (zt rfl rfl (zr (by omega)) rfl (zD rfl ?_))))
       exact zj (fun w' hw => ⟨i + 1, true, v72, os ++ [⟨k, a⟩], ⟨rfl, rfl, rfl, rfl, rfl, rfl, rfl, trivial⟩, ⟨by omega, (zNl ⟨zLl c4.1, c4.2⟩ c5).trans (zAV hI (by omega)), by simp; omega⟩, hw.sel [0, 1, 2, 3] rfl (by decide), (by omega)⟩)
     ·
      refine zK (zB (zP (o := 0) rfl rfl (zS 4 (v := .string ((zI bs i).key)) rfl rfl rfl rfl (zC rfl (zJK rfl rfl rfl (zA (zU rfl (fun c6 => ?_) (fun c6 => ?_))))))))
      ·
       refine zd (zC rfl (yN (cs := (BudD.cells (zI bs i))) 4 rfl rfl rfl (yj (e := 93) (sz := 2) (vs := [.agg (BudD.cells (zI bs i)).toArray]) (by kernel_rfl) rfl rfl (by simp [Value.cells, BudD.cells]) (by decide) rfl (fun b79 => yu (g := BudD.cells) (sz := 2) (by' := 24) (fun _ => rfl) (l := os) (l' := [(zI bs i)]) (by simp [cell1, BudD.cells, vu]) 3 (by kernel_rfl) rfl rfl rfl (fun w' hw' => Vec.sl (Own.holds hw' 5 _ rfl)) (by first | omega | (simp; omega)) (by decide) rfl (fun v80 => zD rfl (zA (zd (zC rfl (zt rfl rfl (zr (by omega)) rfl (zD rfl ?_))))))))))
       exact zj (fun w' hw => ⟨i + 1, p, v80, os ++ [zI bs i], ⟨rfl, rfl, rfl, rfl, rfl, rfl, rfl, trivial⟩, ⟨by omega, (zNc (fun q => c4 ⟨zLG q.1, q.2⟩) c6).trans (zAV hI (by omega)), by simp; omega⟩, hw.sel [0, 1, 2, 3] rfl (by decide), (by omega)⟩)
      ·
       refine zK (zd (zC rfl (zt rfl rfl (zr (by omega)) rfl (zD rfl ?_))))
       exact zj (fun w' hw => ⟨i + 1, p, ov, os, ⟨rfl, rfl, rfl, rfl, rfl, rfl, rfl, trivial⟩, ⟨by omega, (zNm (fun q => c4 ⟨zLG q.1, q.2⟩) c6).trans (zAV hI (by omega)), by omega⟩, hw.sel [0, 1, 2, 3] rfl (by decide), (by omega)⟩)
    ·
     refine yG rfl (zL (zB (zC rfl (kY (b := p) rfl rfl (zA (zCx rfl (fun c7 => ?_) (fun c7 => ?_)))))))
     ·
      refine zd (zC rfl (zC rfl (zC rfl (yQ (cs := [.string k, Vi a]) (z := [.string (⟨#[]⟩ : ByteArray), Vi 0]) (pl := [(0, 1), (1, 1)]) (by kernel_rfl) (by kernel_rfl) rfl (yj (e := 93) (sz := 2) (vs := [.agg #[.string k, Vi a]]) (by kernel_rfl) rfl rfl (by simp [Value.cells, BudD.cells]) (by decide) rfl (fun b87 => yu (g := BudD.cells) (sz := 2) (by' := 24) (fun _ => rfl) (l := os) (l' := [({ key := k, amount := a } : BudD)]) (by simp [cell1, BudD.cells, vu]) 3 (by kernel_rfl) rfl rfl rfl (fun w' hw' => Vec.sl (Own.holds hw' 4 _ rfl)) (by first | omega | (simp; omega)) (by decide) rfl (fun v88 => zD rfl (zA (zB (zC rfl (zC rfl (zm rfl rfl ?_))))))))))))
      refine zP (o := 2) rfl rfl ?_
      refine yS (fun w' hw => Own.cell1Vec (i := 3) rfl hw) (fun hc1_ => ?_)
      refine yi (cs := (Vi now :: Vn cnt :: bv :: lv :: xs)) 0 rfl rfl rfl hc1_ rfl (zA (zB (zC rfl (zD rfl (zD rfl (zA ?_))))))
      exact zM (xK (v := Vi (yh k ls)) (v' := Vi 0) rfl rfl rfl (fun w' hw => ⟨yh k ls, 0, v88, os ++ [⟨k, a⟩], rfl, (zB5 c1 c2).symm, (by rw [← zFK (zB5 c1 c2) hI (by omega), if_pos (zLl c7)]), rfl, hw.sel [0, 3, 2] rfl (by decide)⟩))
     ·
      refine zK (zB (zC rfl (zC rfl (zm rfl rfl (zP (o := 2) rfl rfl ?_)))))
      refine yS (fun w' hw => Own.cell1Vec (i := 3) rfl hw) (fun hc2_ => ?_)
      refine yi (cs := (Vi now :: Vn cnt :: bv :: lv :: xs)) 0 rfl rfl rfl hc2_ rfl (zA (zB (zC rfl (zD rfl (zD rfl (zA ?_))))))
      exact zM (xK (v := Vi (yh k ls)) (v' := Vi 0) rfl rfl rfl (fun w' hw => ⟨yh k ls, 0, ov, os, rfl, (zB5 c1 c2).symm, (by rw [← zFK (zB5 c1 c2) hI (by omega), if_neg (by cases p <;> simp_all), List.append_nil]), rfl, hw.sel [0, 3, 2] rfl (by decide)⟩))
theorem zKn {S : List Nat} (wb te : Nat) (xs : List Value) (now : Int) (cnt : Nat) (bv lv : Value) (bs : List BudD) (ls : List LeaD) (s : Nat) (k : ByteArray) (a sp : Int) (w : World) (ho : QOk now cnt bs ls) (ha : xY a) (hc : cnt ≤ 1000000000) (hin : Own w S [Res.row wb te (Vi now :: Vn cnt :: bv :: lv :: xs), Res.vec 93 2 bv bs.length (bs.flatMap BudD.cells), Res.vec 76 5 lv ls.length (ls.flatMap LeaD.cells)] w) : Rets Tryz.prog 32 #[.pointer (some ⟨wb, 0, none⟩), Vn s, .string k, Vi a, Vi sp] w fun u_ w' => ∃ (x : LeaD) (e : Int) (cnt' : Nat) (lv' : Value) (ls' : List LeaD), u_ = .tuple #[.agg (LeaD.cells x).toArray, Vi e] ∧ e = kP s k a sp bs ls ∧ x = jV e cnt s k a (now + sp) ∧ cnt' = zCb e cnt ∧ ls' = zCw e x ls ∧ Own w S [Res.row wb te (Vi now :: Vn cnt' :: bv :: lv' :: xs), Res.vec 93 2 bv bs.length (bs.flatMap BudD.cells), Res.vec 76 5 lv' ls'.length (ls'.flatMap LeaD.cells)] w' := by
  have hll := ho.llen
  have ht := ho.time
  have hlen := ho.lent0 k
  refine zW Tryz.func32 rfl Tryz.ntmps32 hin ?_
  refine zB (yF (v := .agg #[Vn 0, Vn 0, .string (⟨#[]⟩ : ByteArray), Vi 0, Vi 0]) (by kernel_rfl) rfl (fun b10 => zD rfl (zA (zL (zB (zC rfl (yo rfl rfl rfl (zC rfl (yY (q := ((s : Nat) : Int) = ((0 : Nat) : Int)) 3 2 [22, 21, 20] (¬ (yZ k)) rfl rfl rfl rfl rfl rfl trivial rfl (fun h1_2 => ?_) (fun g1_6 => ?_))))))))))
  ·
   refine zO rfl (gF h1_2) (zC rfl (zO rfl (gF h1_2) (zJ rfl rfl (fun w' hw => (zFN k w').mono ?_))))
   rintro _ w1 ⟨rfl, hO⟩
   refine (?_ : CL _ _ _ _ _ _ (Own w S [Res.row wb te (Vi now :: Vn cnt :: bv :: lv :: xs), Res.vec 93 2 bv bs.length (bs.flatMap BudD.cells), Res.vec 76 5 lv ls.length (ls.flatMap LeaD.cells), Res.row b10 76 [Vn 0, Vn 0, .string (⟨#[]⟩ : ByteArray), Vi 0, Vi 0]])) w1 (hw.frame0 hO)
   refine zO rfl (gF h1_2) (xo (q := yZ k) rfl rfl ?_)
   exact yL rfl (fun _ hw => hw)
  refine zC rfl (yY (q := (((s : Nat) : Int) = ((0 : Nat) : Int)) ∨ (¬ (yZ k))) 2 7 [26, 25] (a < 1) rfl rfl rfl rfl rfl rfl trivial rfl (fun h1_7 => ?_) (fun g1_10 => ?_))
  ·
   refine zO rfl (gF h1_7) (zC rfl (zO rfl (gF h1_7) (yI rfl rfl rfl ?_)))
   exact yL rfl (fun _ hw => hw)
  refine zC rfl (yY (q := ((((s : Nat) : Int) = ((0 : Nat) : Int)) ∨ (¬ (yZ k))) ∨ (a < 1)) 2 11 [30, 29] (sp < 1) rfl rfl rfl rfl rfl rfl trivial rfl (fun h1_11 => ?_) (fun g1_14 => ?_))
  ·
   refine zO rfl (gF h1_11) (zC rfl (zO rfl (gF h1_11) (yI rfl rfl rfl ?_)))
   exact yL rfl (fun _ hw => hw)
  refine zC rfl (yY (q := (((((s : Nat) : Int) = ((0 : Nat) : Int)) ∨ (¬ (yZ k))) ∨ (a < 1)) ∨ (sp < 1)) 2 15 [34, 33] (1099511627776 < sp) rfl rfl rfl rfl rfl rfl trivial rfl (fun h1_15 => ?_) (fun g1_18 => ?_))
  ·
   refine zO rfl (gF h1_15) (zC rfl (zO rfl (gF h1_15) (yg rfl rfl rfl ?_)))
   exact yL rfl (fun _ hw => hw)
  refine zA (zU rfl (fun c1 => ?_) (fun c1 => ?_))
  ·
   refine zB (yQ (cs := [Vn 0, Vn 0, .string (⟨#[]⟩ : ByteArray), Vi 0, Vi 0]) (z := [Vn 0, Vn 0, .string (⟨#[]⟩ : ByteArray), Vi 0, Vi 0]) (pl := [(0, 1), (1, 1), (2, 1), (3, 1), (4, 1)]) (by kernel_rfl) (by kernel_rfl) rfl (zh 3 rfl rfl rfl (z8 rfl) rfl (zD rfl (zA ?_))))
   exact zM (yH (cs := [Vn 0, Vn 0, .string (⟨#[]⟩ : ByteArray), Vi 0, Vi 0]) (v := Vi 1) rfl rfl rfl (by kernel_rfl) (Own.rowCells (i := 3) rfl) (fun w' hw => ⟨LeaD.zero, 1, cnt, lv, ls, rfl, (zMN (zKx.1 c1)).symm, rfl, rfl, rfl, hw.sel [0, 1, 2] rfl (by decide)⟩))
  ·
   have hla : ¬ y9 s k a sp := fun q => c1 (zKx.2 q)
   have hsp : 1 ≤ sp ∧ sp ≤ 1099511627776 := ⟨Int.not_lt.1 fun q => c1 (.inl (.inr q)), Int.not_lt.1 fun q => c1 (.inr q)⟩
   have ha1 : 1 ≤ a := Int.not_lt.1 fun q => c1 (.inl (.inl (.inr q)))
   refine zK (zB (zC rfl (zC rfl (zJ rfl rfl (fun w' hw => (zB1 wb te (xs) now cnt bv lv bs ls k w' ‹_› (hw.give [0, 1, 2] rfl (by decide))).mono ?_)))))
   rintro _ w1 ⟨rfl, hO⟩
   refine (?_ : CL _ _ _ _ _ _ (Own w S [Res.row b10 76 [Vn 0, Vn 0, .string (⟨#[]⟩ : ByteArray), Vi 0, Vi 0], Res.row wb te (Vi now :: Vn cnt :: bv :: lv :: xs), Res.vec 93 2 bv bs.length (bs.flatMap BudD.cells), Res.vec 76 5 lv ls.length (ls.flatMap LeaD.cells)])) w1 (hw.frameL [0, 1, 2] rfl hO)
   refine zC rfl (zp (vs := [Vi (yr k bs), Vi (yh k ls)]) rfl rfl rfl (zp (vs := [Vi (yr k bs), Vi (yh k ls)]) rfl rfl rfl (zD rfl (zD rfl (zA (zL (zB (zC rfl (yo rfl rfl rfl (zA (zU rfl (fun c2 => ?_) (fun c2 => ?_))))))))))))
   ·
    refine zB (yQ (cs := [Vn 0, Vn 0, .string (⟨#[]⟩ : ByteArray), Vi 0, Vi 0]) (z := [Vn 0, Vn 0, .string (⟨#[]⟩ : ByteArray), Vi 0, Vi 0]) (pl := [(0, 1), (1, 1), (2, 1), (3, 1), (4, 1)]) (by kernel_rfl) (by kernel_rfl) rfl (zh 0 rfl rfl rfl (z8 rfl) rfl (zD rfl (zA ?_))))
    exact zM (yH (cs := [Vn 0, Vn 0, .string (⟨#[]⟩ : ByteArray), Vi 0, Vi 0]) (v := Vi 8) rfl rfl rfl (by kernel_rfl) (Own.rowCells (i := 0) rfl) (fun w' hw => ⟨LeaD.zero, 8, cnt, lv, ls, rfl, (zLQ hla c2).symm, rfl, rfl, rfl, hw.sel [1, 2, 3] rfl (by decide)⟩))
   ·
    refine zK (zB (zC rfl (zC rfl (zJ rfl rfl (fun w' hw => (zMR (yh k ls) a w' hlen ⟨by omega, ha.2⟩).mono ?_)))))
    rintro _ w1 ⟨n1_, e2_, rfl, hf6_2, hO⟩
    have hsum := zHU hf6_2
    refine (?_ : CL _ _ _ _ _ _ (Own w S [Res.row b10 76 [Vn 0, Vn 0, .string (⟨#[]⟩ : ByteArray), Vi 0, Vi 0], Res.row wb te (Vi now :: Vn cnt :: bv :: lv :: xs), Res.vec 93 2 bv bs.length (bs.flatMap BudD.cells), Res.vec 76 5 lv ls.length (ls.flatMap LeaD.cells)])) w1 (hw.frame0 hO)
    refine zC rfl (zp (vs := [Vi n1_, Vi e2_]) rfl rfl rfl (zp (vs := [Vi n1_, Vi e2_]) rfl rfl rfl (zD rfl (zD rfl (zA (zL (zB (zC rfl (xn rfl rfl rfl (zA (zU rfl (fun c3 => ?_) (fun c3 => ?_))))))))))))
    ·
     refine zB (yQ (cs := [Vn 0, Vn 0, .string (⟨#[]⟩ : ByteArray), Vi 0, Vi 0]) (z := [Vn 0, Vn 0, .string (⟨#[]⟩ : ByteArray), Vi 0, Vi 0]) (pl := [(0, 1), (1, 1), (2, 1), (3, 1), (4, 1)]) (by kernel_rfl) (by kernel_rfl) rfl (zC rfl (zh 0 rfl rfl rfl (z8 rfl) rfl (zD rfl (zA ?_)))))
     exact zM (yH (cs := [Vn 0, Vn 0, .string (⟨#[]⟩ : ByteArray), Vi 0, Vi 0]) (v := Vi e2_) rfl rfl rfl (by kernel_rfl) (Own.rowCells (i := 0) rfl) (fun w' hw => ⟨LeaD.zero, e2_, cnt, lv, ls, rfl, (by rw [(jU hsum c3).2]; exact (zMI hla c2 (jU hsum c3).1).symm), (by rw [(jU hsum c3).2]; rfl), (by rw [(jU hsum c3).2]; rfl), (by rw [(jU hsum c3).2]; rfl), hw.sel [1, 2, 3] rfl (by decide)⟩))
    ·
     refine zK (zL (zB (zC rfl (zC rfl (yg rfl rfl rfl (zA (zU rfl (fun c4 => ?_) (fun c4 => ?_))))))))
     ·
      refine zB (yQ (cs := [Vn 0, Vn 0, .string (⟨#[]⟩ : ByteArray), Vi 0, Vi 0]) (z := [Vn 0, Vn 0, .string (⟨#[]⟩ : ByteArray), Vi 0, Vi 0]) (pl := [(0, 1), (1, 1), (2, 1), (3, 1), (4, 1)]) (by kernel_rfl) (by kernel_rfl) rfl (zh 0 rfl rfl rfl (z8 rfl) rfl (zD rfl (zA ?_))))
      exact zM (yH (cs := [Vn 0, Vn 0, .string (⟨#[]⟩ : ByteArray), Vi 0, Vi 0]) (v := Vi 16) rfl rfl rfl (by kernel_rfl) (Own.rowCells (i := 0) rfl) (fun w' hw => ⟨LeaD.zero, 16, cnt, lv, ls, rfl, (zJh hla c2 (kH hsum c3).1 (by rw [← (kH hsum c3).2]; exact c4)).symm, rfl, rfl, rfl, hw.sel [1, 2, 3] rfl (by decide)⟩))
     ·
      refine zK (zL (zB (zC rfl (zm rfl rfl (zP (o := 3) rfl rfl (zS 1 (v := lv) rfl rfl rfl rfl (yC (pV 3 rfl) rfl rfl (xC rfl rfl rfl (zA (zU rfl (fun c5 => ?_) (fun c5 => ?_)))))))))))
      ·
       refine zB (yQ (cs := [Vn 0, Vn 0, .string (⟨#[]⟩ : ByteArray), Vi 0, Vi 0]) (z := [Vn 0, Vn 0, .string (⟨#[]⟩ : ByteArray), Vi 0, Vi 0]) (pl := [(0, 1), (1, 1), (2, 1), (3, 1), (4, 1)]) (by kernel_rfl) (by kernel_rfl) rfl (zh 0 rfl rfl rfl (z8 rfl) rfl (zD rfl (zA ?_))))
       exact zM (yH (cs := [Vn 0, Vn 0, .string (⟨#[]⟩ : ByteArray), Vi 0, Vi 0]) (v := Vi 7) rfl rfl rfl (by kernel_rfl) (Own.rowCells (i := 0) rfl) (fun w' hw => ⟨LeaD.zero, 7, cnt, lv, ls, rfl, (zL9 hla c2 (kH hsum c3).1 (by rw [← (kH hsum c3).2]; exact c4) c5).symm, rfl, rfl, rfl, hw.sel [1, 2, 3] rfl (by decide)⟩))
      ·
       refine zK (zB (zC rfl (zm rfl rfl (zP (o := 1) rfl rfl (zS 1 (v := Vn cnt) rfl rfl rfl rfl (zt rfl rfl (kS (by omega)) rfl (zm rfl rfl (zP (o := 1) rfl rfl (yi (cs := (Vi now :: Vn cnt :: bv :: lv :: xs)) 1 rfl rfl rfl rfl rfl (zA (zL (zg [0, 1, 2, 3] rfl (by decide) (by kernel_rfl) (fun w' hw hS => ?_)))))))))))))
       refine zF 0 rfl (zQ) hS (zF 1 rfl (z7 rfl) hS (zF 2 rfl (zi (o := 1) rfl) hS (zF 3 rfl (zo 1 (v := Vn (cnt + 1)) rfl rfl rfl) hS (zF 4 rfl (zQ) hS (zF 5 rfl (zQ) hS (zF 6 rfl (zQ) hS (zF 7 rfl (zQ) hS (zF 8 rfl (z7 rfl) hS (zF 9 rfl (zi (o := 0) rfl) hS (zF 10 rfl (zo 1 (v := Vi now) rfl rfl rfl) hS (zF 11 rfl (zQ) hS (zF 12 rfl (xy rfl rfl (zr (by omega))) hS ?_))))))))))))
       refine zF 13 rfl (j0 (cs := [Vn (cnt + 1), Vn s, .string k, Vi a, Vi (now + sp)]) (z := [Vn 0, Vn 0, .string (⟨#[]⟩ : ByteArray), Vi 0, Vi 0]) (pl := [(0, 1), (1, 1), (2, 1), (3, 1), (4, 1)]) (by kernel_rfl) (by kernel_rfl)) hS (zY 14 rfl hw (yF (v := .agg #[Vn 0, Vn 0, .string (⟨#[]⟩ : ByteArray), Vi 0, Vi 0]) (by kernel_rfl) rfl (fun b16 => zG [0, 1, 2, 3] rfl (by decide) (fun w' hw hS => zY 15 rfl hw (zh 4 rfl rfl rfl (z8 rfl) rfl (zG [0, 1, 2, 3] rfl (by decide) (fun w' hw hS => zR ?_)))))))
       refine (?_ : C _ _ _ _ _ _ _ (Own w S [Res.row b10 76 [Vn 0, Vn 0, .string (⟨#[]⟩ : ByteArray), Vi 0, Vi 0], Res.row wb te (Vi now :: Vn (cnt + 1) :: bv :: lv :: xs), Res.vec 93 2 bv bs.length (bs.flatMap BudD.cells), Res.vec 76 5 lv ls.length (ls.flatMap LeaD.cells), Res.row b16 76 [Vn (cnt + 1), Vn s, .string k, Vi a, Vi (now + sp)]])) _ hw
       refine zL (zg [0, 2, 4] rfl (by decide) (by kernel_rfl) (fun w' hw hS => zF 0 rfl (zQ) hS (zF 1 rfl (zQ) hS (zF 2 rfl (z7 rfl) hS (zF 3 rfl (zi (o := 3) rfl) hS (zF 5 rfl (kI (cs := [Vn (cnt + 1), Vn s, .string k, Vi a, Vi (now + sp)]) 2 rfl rfl) hS (zk 4 6 ?_ ?_)))))))
       ·
        refine zX 4 rfl hw (zS 1 (v := lv) rfl rfl rfl rfl (zG [0, 2, 4] rfl (by decide) (fun w' hw hS => zY 6 rfl hw (yj (e := 76) (sz := 5) (vs := [.agg #[Vn (cnt + 1), Vn s, .string k, Vi a, Vi (now + sp)]]) (by kernel_rfl) rfl rfl (by simp [Value.cells, LeaD.cells]) (by decide) rfl (fun b94 => zG [0, 2, 4] rfl (by decide) (fun w' hw hS => zY 7 rfl hw (yu (g := LeaD.cells) (sz := 5) (by' := 48) (fun _ => rfl) (l := ls) (l' := [({ id := cnt + 1, session := s, key := k, amount := a, until_ := now + sp } : LeaD)]) (by simp [cell1, LeaD.cells, vu]) 3 (by kernel_rfl) rfl rfl rfl (fun w' hw' => Vec.sl (Own.holds hw' 5 _ rfl)) (by first | omega | (simp; omega)) (by decide) rfl (fun v95 => zG [0, 2, 4] rfl (by decide) (fun w' hw hS => zF 8 rfl (z7 rfl) hS (zF 9 rfl (zi (o := 3) rfl) hS (zY 10 rfl hw ?_)))))))))))
        refine yS (fun w' hw => Own.cell1Vec (i := 3) rfl hw) (fun hc2_ => ?_)
        refine yi (cs := (Vi now :: Vn (cnt + 1) :: bv :: lv :: xs)) 1 rfl rfl rfl hc2_ rfl (zG [0, 2, 4] rfl (by decide) (fun w' hw hS => zR ?_))
        refine (?_ : C _ _ _ _ _ _ _ (Own w S [Res.row b10 76 [Vn 0, Vn 0, .string (⟨#[]⟩ : ByteArray), Vi 0, Vi 0], Res.row wb te (Vi now :: Vn (cnt + 1) :: bv :: v95 :: xs), Res.vec 93 2 bv bs.length (bs.flatMap BudD.cells), Res.vec 76 5 v95 (ls ++ [({ id := cnt + 1, session := s, key := k, amount := a, until_ := now + sp } : LeaD)]).length ((ls ++ [({ id := cnt + 1, session := s, key := k, amount := a, until_ := now + sp } : LeaD)]).flatMap LeaD.cells), Res.row b16 76 [Vn (cnt + 1), Vn s, .string k, Vi a, Vi (now + sp)], Res.vec 76 5 (.slice (some ⟨b94, 0, none⟩) 1 1) [({ id := cnt + 1, session := s, key := k, amount := a, until_ := now + sp } : LeaD)].length ([({ id := cnt + 1, session := s, key := k, amount := a, until_ := now + sp } : LeaD)].flatMap LeaD.cells)])) _ hw
        refine zB (yN (cs := [Vn (cnt + 1), Vn s, .string k, Vi a, Vi (now + sp)]) 4 rfl rfl rfl (zh 0 rfl rfl rfl (z8 rfl) rfl (zD rfl (zA ?_))))
        exact zM (yH (cs := [Vn (cnt + 1), Vn s, .string k, Vi a, Vi (now + sp)]) (v := Vi 0) rfl rfl rfl (by kernel_rfl) (Own.rowCells (i := 0) rfl) (fun w' hw => ⟨⟨cnt + 1, s, k, a, now + sp⟩, 0, cnt + 1, v95, ls ++ [⟨cnt + 1, s, k, a, now + sp⟩], rfl, (zJH hla c2 (kH hsum c3).1 (by rw [← (kH hsum c3).2]; exact c4) c5).symm, rfl, rfl, rfl, hw.sel [1, 2, 3] rfl (by decide)⟩))
       ·
        refine zX 6 rfl hw (yj (e := 76) (sz := 5) (vs := [.agg #[Vn (cnt + 1), Vn s, .string k, Vi a, Vi (now + sp)]]) (by kernel_rfl) rfl rfl (by simp [Value.cells, LeaD.cells]) (by decide) rfl (fun b94 => zG [0, 2, 4] rfl (by decide) (fun w' hw hS => zY 4 rfl hw (zS 1 (v := lv) rfl rfl rfl rfl (zG [0, 2, 4] rfl (by decide) (fun w' hw hS => zY 7 rfl hw (yu (g := LeaD.cells) (sz := 5) (by' := 48) (fun _ => rfl) (l := ls) (l' := [({ id := cnt + 1, session := s, key := k, amount := a, until_ := now + sp } : LeaD)]) (by simp [cell1, LeaD.cells, vu]) 3 (by kernel_rfl) rfl rfl rfl (fun w' hw' => Vec.sl (Own.holds hw' 5 _ rfl)) (by first | omega | (simp; omega)) (by decide) rfl (fun v95 => zG [0, 2, 4] rfl (by decide) (fun w' hw hS => zF 8 rfl (z7 rfl) hS (zF 9 rfl (zi (o := 3) rfl) hS (zY 10 rfl hw ?_)))))))))))
        refine yS (fun w' hw => Own.cell1Vec (i := 3) rfl hw) (fun hc3_ => ?_)
        refine yi (cs := (Vi now :: Vn (cnt + 1) :: bv :: lv :: xs)) 1 rfl rfl rfl hc3_ rfl (zG [0, 2, 4] rfl (by decide) (fun w' hw hS => zR ?_))
        refine (?_ : C _ _ _ _ _ _ _ (Own w S [Res.row b10 76 [Vn 0, Vn 0, .string (⟨#[]⟩ : ByteArray), Vi 0, Vi 0], Res.row wb te (Vi now :: Vn (cnt + 1) :: bv :: v95 :: xs), Res.vec 93 2 bv bs.length (bs.flatMap BudD.cells), Res.vec 76 5 v95 (ls ++ [({ id := cnt + 1, session := s, key := k, amount := a, until_ := now + sp } : LeaD)]).length ((ls ++ [({ id := cnt + 1, session := s, key := k, amount := a, until_ := now + sp } : LeaD)]).flatMap LeaD.cells), Res.row b16 76 [Vn (cnt + 1), Vn s, .string k, Vi a, Vi (now + sp)], Res.vec 76 5 (.slice (some ⟨b94, 0, none⟩) 1 1) [({ id := cnt + 1, session := s, key := k, amount := a, until_ := now + sp } : LeaD)].length ([({ id := cnt + 1, session := s, key := k, amount := a, until_ := now + sp } : LeaD)].flatMap LeaD.cells)])) _ hw
        refine zB (yN (cs := [Vn (cnt + 1), Vn s, .string k, Vi a, Vi (now + sp)]) 4 rfl rfl rfl (zh 0 rfl rfl rfl (z8 rfl) rfl (zD rfl (zA ?_))))
        exact zM (yH (cs := [Vn (cnt + 1), Vn s, .string k, Vi a, Vi (now + sp)]) (v := Vi 0) rfl rfl rfl (by kernel_rfl) (Own.rowCells (i := 0) rfl) (fun w' hw => ⟨⟨cnt + 1, s, k, a, now + sp⟩, 0, cnt + 1, v95, ls ++ [⟨cnt + 1, s, k, a, now + sp⟩], rfl, (zJH hla c2 (kH hsum c3).1 (by rw [← (kH hsum c3).2]; exact c4) c5).symm, rfl, rfl, rfl, hw.sel [1, 2, 3] rfl (by decide)⟩))
def zIJ (ls : List LeaD) (s i : Nat) (r : Int) : Prop := (r = -1 ∧ ∀ l ∈ ls, ¬ (l.id = i ∧ l.session = s)) ∨ (∃ k : Nat, r = (k : Int) ∧ k < ls.length ∧ (zI ls k).id = i ∧ (zI ls k).session = s)
theorem zFE {ls : List LeaD} {s i : Nat} {r : Int} (h : zIJ ls s i r) (hr : r < 0) : ∀ l ∈ ls, ¬ (l.id = i ∧ l.session = s) := by
  rcases h with h | ⟨k, h, _⟩
  · exact h.2
  · omega
theorem zE6 {ls : List LeaD} {s i : Nat} {r : Int} (h : zIJ ls s i r) (hr : ¬ r < 0) : r.toNat < ls.length ∧ (zI ls r.toNat).id = i ∧ (zI ls r.toNat).session = s := by
  rcases h with h | ⟨k, rfl, h⟩
  · omega
  · simpa using h
theorem zNe {ls : List LeaD} {r : Int} (hr : ¬ r < 0) : (ls.take r.toNat).drop 0 ++ ls.drop (r + 1).toNat = ls.take r.toNat ++ ls.drop (r.toNat + 1) := by
  rw [show (r + 1).toNat = r.toNat + 1 by omega]; rfl
theorem zDI {l : LeaD} {t : Int} (h : l.until_ < t) : xa l t = ⟨l.id, l.session, l.key, l.amount, t⟩ := by
  unfold xa; rw [Int.max_eq_right (by omega)]
theorem zDd {l : LeaD} {t : Int} (h : ¬ l.until_ < t) : xa l t = l := by
  unfold xa; rw [Int.max_eq_left (by omega)]
theorem zKk {α : Type} [Inhabited α] {l : List α} {k : Nat} {b : α} (h : k < l.length) : zI (l.set k b) k = b := by simp [zI, h]
theorem zIv {α : Type} [Inhabited α] {l : List α} {k : Nat} (h : k < l.length) : l = l.set k (zI l k) := by
  apply List.ext_getElem?
  intro j
  rw [List.getElem?_set]
  split
  · rename_i e; subst e; exact x5 h
  · rfl
theorem zGd {S : List Nat} (wb te : Nat) (xs : List Value) (now : Int) (cnt : Nat) (bv lv : Value) (bs : List BudD) (ls : List LeaD) (s i : Nat) (w : World) (hll : ls.length ≤ 128) (hin : Own w S [Res.row wb te (Vi now :: Vn cnt :: bv :: lv :: xs), Res.vec 76 5 lv ls.length (ls.flatMap LeaD.cells)] w) : Rets Tryz.prog 69 #[.pointer (some ⟨wb, 0, none⟩), Vn s, Vn i] w fun u_ w' => ∃ (r : Int), u_ = Vi r ∧ zIJ ls s i r ∧ Own w S [Res.row wb te (Vi now :: Vn cnt :: bv :: lv :: xs), Res.vec 76 5 lv ls.length (ls.flatMap LeaD.cells)] w' := by
  refine zW Tryz.func69 rfl Tryz.ntmps69 hin ?_
  refine zB (zD rfl (zA (zL (zB (zD rfl (zA (zT ?_)))))))
  refine xG (fun (k : Nat) => [(0, .pointer (some ⟨wb, 0, none⟩)), (1, Vn s), (2, Vn i), (7, Vj k)]) (fun (k : Nat) => k ≤ ls.length ∧ ∀ l ∈ ls.take k, ¬ (l.id = i ∧ l.session = s)) (fun (k : Nat) => [Res.row wb te (Vi now :: Vn cnt :: bv :: lv :: xs), Res.vec 76 5 lv ls.length (ls.flatMap LeaD.cells)]) (fun (k : Nat) => ls.length - k) (fun w' hw => ⟨0, ⟨rfl, rfl, rfl, rfl, trivial⟩, ⟨Nat.zero_le _, by simp⟩, hw⟩) (fun k g hΦ => ?_)
  have hk1 := hΦ.1
  have hkI := hΦ.2
  refine zL (zB (zC rfl (zC rfl (zm rfl rfl (zP (o := 3) rfl rfl (zS 0 (v := lv) rfl rfl rfl rfl (yC (pV 1 rfl) rfl rfl (yI rfl rfl rfl (zA (zU rfl (fun c1 => ?_) (fun c1 => ?_)))))))))))
  ·
   refine zK (zL (zT (zB (zC rfl (zm rfl rfl (zP (o := 3) rfl rfl (zS 0 (v := lv) rfl rfl rfl rfl (zC rfl (zH (pV 1 rfl) 5 k rfl rfl rfl (by omega) rfl (zP (o := 0) rfl rfl (zV (pV 1 rfl) 5 k 0 (off := yn lv + k * 5 + 0) (fun _ => rfl) rfl (by omega) (by omega) rfl rfl (zC rfl ?_))))))))))))
   refine yo rfl rfl rfl (zC rfl (yP (q := (((zI ls k).id : Nat) : Int) = ((i : Nat) : Int)) 10 10 [37, 36, 35, 34, 33, 32, 31, 30, 29, 28] ((((zI ls k).session : Nat) : Int) = ((s : Nat) : Int)) rfl rfl rfl rfl rfl rfl trivial rfl (fun h4_10 => ?_) (fun g4_21 => ?_)))
   ·
    refine zO rfl (gT h4_10) (zC rfl (zO rfl (gT h4_10) (zm rfl rfl (zO rfl (gT h4_10) (zP (o := 3) rfl rfl (zO rfl (gT h4_10) (zS 0 (v := lv) rfl rfl rfl rfl (zO rfl (gT h4_10) (zC rfl (zO rfl (gT h4_10) (zH (pV 1 rfl) 5 k rfl rfl rfl (by omega) rfl (zO rfl (gT h4_10) ?_))))))))))))
    refine zP (o := 1) rfl rfl (zO rfl (gT h4_10) (zV (pV 1 rfl) 5 k 1 (off := yn lv + k * 5 + 1) (fun _ => rfl) rfl (by omega) (by omega) rfl rfl (zO rfl (gT h4_10) (zC rfl (zO rfl (gT h4_10) (yo rfl rfl rfl ?_))))))
    exact yL rfl (fun _ hw => hw)
   refine zA (zU rfl (fun c2 => ?_) (fun c2 => ?_))
   ·
    refine zB (zC rfl (zD rfl (zA ?_)))
    exact zM (z6 (v := Vj k) rfl rfl (fun w' hw => ⟨((k : Nat) : Int), rfl, .inr ⟨k, rfl, by omega, by omega, by omega⟩, hw⟩))
   ·
    refine zK (zd (zC rfl (zt rfl rfl (zr (by omega)) rfl (zD rfl ?_))))
    exact zj (fun w' hw => ⟨k + 1, ⟨rfl, rfl, rfl, rfl, trivial⟩, ⟨by omega, by rw [yB (by omega)]; intro l hl; rcases List.mem_append.1 hl with q | q; exact hkI l q; rw [List.mem_singleton.1 q]; omega⟩, hw, (by omega)⟩)
  ·
   refine yG rfl (zB (zD rfl (zA ?_)))
   exact zM (z6 (v := Vi (-1)) rfl rfl (fun w' hw => ⟨-1, rfl, .inl ⟨rfl, by have := hkI; rwa [List.take_of_length_le (by omega)] at this⟩, hw⟩))
theorem zJo {S : List Nat} (wb te : Nat) (xs : List Value) (now : Int) (cnt : Nat) (bv lv : Value) (bs : List BudD) (ls : List LeaD) (n : Int) (w : World) (ht : 0 ≤ now ∧ now ≤ 2305843009213693952) (hn : xY n) (hll : ls.length ≤ 128) (hin : Own w S [Res.row wb te (Vi now :: Vn cnt :: bv :: lv :: xs), Res.vec 76 5 lv ls.length (ls.flatMap LeaD.cells)] w) : Rets Tryz.prog 58 #[.pointer (some ⟨wb, 0, none⟩), Vi n] w fun u_ w' => ∃ (gv : Value) (gs : List Nat) (e now' : Int) (lv' : Value) (ls' : List LeaD), u_ = .tuple #[gv, Vi e] ∧ e = xz now n ∧ now' = kW now n ∧ ls' = jX now n ls ∧ gs = zIF now n ls ∧ Own w S [Res.row wb te (Vi now' :: Vn cnt :: bv :: lv' :: xs), Res.vec 76 5 lv' ls'.length (ls'.flatMap LeaD.cells), Res.vec 28 1 gv gs.length (gs.flatMap U1)] w' := by
  refine zW Tryz.func58 rfl Tryz.ntmps58 hin ?_
  refine zB (zD rfl (zD rfl (zA (zL (zB (zC rfl (yI rfl rfl rfl (zC rfl (yY (q := n < 0) 2 2 [13, 12] (1099511627776 < n) rfl rfl rfl rfl rfl rfl trivial rfl (fun h1_2 => ?_) (fun g1_5 => ?_))))))))))
  ·
   refine zO rfl (gF h1_2) (zC rfl (zO rfl (gF h1_2) (yg rfl rfl rfl ?_)))
   exact yL rfl (fun _ hw => hw)
  refine zA (zU rfl (fun c1 => ?_) (fun c1 => ?_))
  ·
   refine zB (zD rfl (zD rfl (zA ?_)))
   exact zM (xK (v := .slice none 0 0) (v' := Vi 1) rfl rfl rfl (fun w' hw => ⟨.slice none 0 0, [], 1, now, lv, ls, rfl, (kE (ls := ls) (zAB c1) (by decide)).1, (kE (ls := ls) (zAB c1) (by decide)).2.1, (kE (zAB c1) (by decide)).2.2.1, (kE (zAB c1) (by decide)).2.2.2, (yK hw 28 1)⟩))
  ·
   refine zK (zL (zB (zC rfl (zm rfl rfl (zP (o := 0) rfl rfl (zS 0 (v := Vi now) rfl rfl rfl rfl (zC rfl (zt rfl rfl (zr (by omega)) rfl (yg rfl rfl rfl (zA (zU rfl (fun c2 => ?_) (fun c2 => ?_))))))))))))
   ·
    refine zB (zD rfl (zD rfl (zA ?_)))
    exact zM (xK (v := .slice none 0 0) (v' := Vi 3) rfl rfl rfl (fun w' hw => ⟨.slice none 0 0, [], 3, now, lv, ls, rfl, (kE (ls := ls) (zAC c1 (by omega)) (by decide)).1, (kE (ls := ls) (zAC c1 (by omega)) (by decide)).2.1, (kE (zAC c1 (by omega)) (by decide)).2.2.1, (kE (zAC c1 (by omega)) (by decide)).2.2.2, (yK hw 28 1)⟩))
   ·
    refine zK (zB (zC rfl (zC rfl (zm rfl rfl (zP (o := 0) rfl rfl (zS 0 (v := Vi now) rfl rfl rfl rfl (zC rfl (zt rfl rfl (zr (by omega)) rfl (zm rfl rfl (zP (o := 0) rfl rfl (yi (cs := (Vi now :: Vn cnt :: bv :: lv :: xs)) 0 rfl rfl rfl rfl rfl (zA ?_))))))))))))
    refine zB (zD rfl (zA (zB (zD rfl (zA (zL (zB (zD rfl (zA (zT ?_))))))))))
    refine zA8 (fun (k : Nat) (gv rv : Value) (gs : List Nat) (rs : List LeaD) => [(0, .pointer (some ⟨wb, 0, none⟩)), (6, gv), (7, rv), (8, Vj k)]) (fun (k : Nat) (gv rv : Value) (gs : List Nat) (rs : List LeaD) => k ≤ ls.length ∧ gs = ((ls.take k).filter (kj (now + n))).map (·.id) ∧ rs = (ls.take k).filter (fun l => !kj (now + n) l)) (fun (k : Nat) (gv rv : Value) (gs : List Nat) (rs : List LeaD) => [Res.row wb te (Vi (now + n) :: Vn cnt :: bv :: lv :: xs), Res.vec 76 5 lv ls.length (ls.flatMap LeaD.cells), Res.vec 28 1 gv gs.length (gs.flatMap U1), Res.vec 76 5 rv rs.length (rs.flatMap LeaD.cells)]) (fun (k : Nat) (gv rv : Value) (gs : List Nat) (rs : List LeaD) => ls.length - k) (fun w' hw => ⟨0, .slice none 0 0, .slice none 0 0, [], [], ⟨rfl, rfl, rfl, rfl, trivial⟩, ⟨Nat.zero_le _, rfl, rfl⟩, (yK (yK hw 28 1) 76 5)⟩) (fun k gv rv gs rs g hΦ => ?_)
    have hk1 := hΦ.1
    have hgl : gs.length ≤ ls.length := by rw [hΦ.2.1, List.length_map]; exact zGC _ _ _
    have hrl : rs.length ≤ ls.length := by rw [hΦ.2.2]; exact zGC _ _ _
    refine zL (zB (zC rfl (zC rfl (zm rfl rfl (zP (o := 3) rfl rfl (zS 0 (v := lv) rfl rfl rfl rfl (yC (pV 1 rfl) rfl rfl (yI rfl rfl rfl (zA (zU rfl (fun c3 => ?_) (fun c3 => ?_)))))))))))
    ·
     refine zK (zL (zT (xb (by kernel_rfl) (by kernel_rfl) (zf rfl (zQ) (zf rfl (z7 rfl) (zf rfl (zi (o := 3) rfl) (zf rfl (zo 0 (v := lv) rfl rfl rfl) (zf rfl (zQ) (zf rfl (yR (pV 1 rfl) 5 k rfl rfl rfl (by omega)) (zf rfl (zi (o := 4) rfl) (zf rfl (yq (pV 1 rfl) 5 k 4 (off := yn lv + k * 5 + 4) (fun _ => rfl) rfl (by omega) (by omega) rfl) (zf rfl (zQ) ?_))))))))))))
     refine zf rfl (z7 rfl) (zf rfl (zi (o := 0) rfl) (zf rfl (zo 0 (v := Vi (now + n)) rfl rfl rfl) (zf rfl (zAj rfl rfl) (j9 (zU rfl (fun c4 => ?_) (fun c4 => ?_))))))
     ·
      refine zd (zC rfl (zC rfl (zm rfl rfl (zP (o := 3) rfl rfl (zS 0 (v := lv) rfl rfl rfl rfl (zC rfl (zH (pV 1 rfl) 5 k rfl rfl rfl (by omega) rfl (zP (o := 0) rfl rfl (zV (pV 1 rfl) 5 k 0 (off := yn lv + k * 5 + 0) (fun _ => rfl) rfl (by omega) (by omega) rfl rfl (yj (e := 28) (sz := 1) (vs := [Vn ((zI ls k).id)]) (by kernel_rfl) rfl rfl (by simp [Value.cells]) (by decide) rfl (fun b62 => yu (g := U1) (sz := 1) (by' := 8) (fun _ => rfl) (l := gs) (l' := [(zI ls k).id]) (by simp [cell1, U1]) 2 (by kernel_rfl) rfl rfl rfl (fun w' hw' => Vec.sl (Own.holds hw' 4 _ rfl)) (by first | omega | (simp; omega)) (by decide) rfl (fun v63 => zD rfl ?_))))))))))))
      refine zA (zd (zC rfl (zt rfl rfl (zr (by omega)) rfl (zD rfl ?_))))
      exact zj (fun w' hw => ⟨k + 1, v63, rv, gs ++ [(zI ls k).id], rs, ⟨rfl, rfl, rfl, rfl, trivial⟩, ⟨by omega, by rw [hΦ.2.1]; exact (zE5 (by omega) c4).1, by rw [hΦ.2.2]; exact (zE5 (by omega) c4).2⟩, hw.sel [0, 1, 2, 3] rfl (by decide), (by omega)⟩)
     ·
      refine zd (zC rfl (zC rfl (zm rfl rfl (zP (o := 3) rfl rfl (zS 0 (v := lv) rfl rfl rfl rfl (zC rfl (zH (pV 1 rfl) 5 k rfl rfl rfl (by omega) rfl (xh (pV 1 rfl) 5 k (off := yn lv + k * 5) (fun _ => rfl) rfl rfl (by omega) rfl (yj (e := 76) (sz := 5) (vs := [.agg (LeaD.cells (zI ls k)).toArray]) (by kernel_rfl) rfl rfl (by simp [Value.cells, LeaD.cells]) (by decide) rfl (fun b72 => yu (g := LeaD.cells) (sz := 5) (by' := 48) (fun _ => rfl) (l := rs) (l' := [(zI ls k)]) (by simp [cell1, LeaD.cells, vu]) 3 (by kernel_rfl) rfl rfl rfl (fun w' hw' => Vec.sl (Own.holds hw' 4 _ rfl)) (by first | omega | (simp; omega)) (by decide) rfl (fun v73 => zD rfl (zA ?_))))))))))))
      refine zd (zC rfl (zt rfl rfl (zr (by omega)) rfl (zD rfl ?_)))
      exact zj (fun w' hw => ⟨k + 1, gv, v73, gs, rs ++ [zI ls k], ⟨rfl, rfl, rfl, rfl, trivial⟩, ⟨by omega, by rw [hΦ.2.1]; exact (zEf (by omega) c4).1, by rw [hΦ.2.2]; exact (zEf (by omega) c4).2⟩, hw.sel [0, 1, 2, 3] rfl (by decide), (by omega)⟩)
    ·
     refine yG rfl (zB (zC rfl (zC rfl (zm rfl rfl (zP (o := 3) rfl rfl ?_)))))
     refine yS (fun w' hw => Own.cell1Vec (i := 3) rfl hw) (fun hc1_ => ?_)
     refine yi (cs := (Vi (now + n) :: Vn cnt :: bv :: lv :: xs)) 0 rfl rfl rfl hc1_ rfl (zA (zB (zC rfl (zD rfl (zD rfl (zA ?_))))))
     exact zM (xK (v := gv) (v' := Vi 0) rfl rfl rfl (fun w' hw => ⟨gv, gs, 0, now + n, rv, rs, rfl, (zAH c1 (by omega)).symm, (if_pos (zAH c1 (by omega))).symm, (by unfold jX; rw [if_pos (zAH c1 (by omega)), hΦ.2.2, List.take_of_length_le (by omega)]), (by unfold zIF; rw [if_pos (zAH c1 (by omega)), hΦ.2.1, List.take_of_length_le (by omega)]), hw.sel [0, 3, 2] rfl (by decide)⟩))
theorem zJP {S : List Nat} (wb te : Nat) (xs : List Value) (now : Int) (cnt : Nat) (bv lv : Value) (bs : List BudD) (ls : List LeaD) (s i : Nat) (sp : Int) (w : World) (ho : QOk now cnt bs ls) (hin : Own w S [Res.row wb te (Vi now :: Vn cnt :: bv :: lv :: xs), Res.vec 93 2 bv bs.length (bs.flatMap BudD.cells), Res.vec 76 5 lv ls.length (ls.flatMap LeaD.cells)] w) : Rets Tryz.prog 33 #[.pointer (some ⟨wb, 0, none⟩), Vn s, Vn i, Vi sp] w fun u_ w' => ∃ (x : LeaD) (e : Int) (ls' : List LeaD), u_ = .tuple #[.agg (LeaD.cells x).toArray, Vi e] ∧ zEH now bs ls s i sp x e ls' ∧ Own w S [Res.row wb te (Vi now :: Vn cnt :: bv :: lv :: xs), Res.vec 93 2 bv bs.length (bs.flatMap BudD.cells), Res.vec 76 5 lv ls'.length (ls'.flatMap LeaD.cells)] w' := by
  have hll := ho.llen
  have ht := ho.time
  refine zW Tryz.func33 rfl Tryz.ntmps33 hin ?_
  refine zB (yF (v := .agg #[Vn 0, Vn 0, .string (⟨#[]⟩ : ByteArray), Vi 0, Vi 0]) (by kernel_rfl) rfl (fun b8 => zD rfl (zA (zL (zB (zC rfl (yI rfl rfl rfl (zC rfl (yY (q := sp < 1) 2 2 [17, 16] (1099511627776 < sp) rfl rfl rfl rfl rfl rfl trivial rfl (fun h1_2 => ?_) (fun g1_5 => ?_))))))))))
  ·
   refine zO rfl (gF h1_2) (zC rfl (zO rfl (gF h1_2) (yg rfl rfl rfl ?_)))
   exact yL rfl (fun _ hw => hw)
  refine zA (zU rfl (fun c1 => ?_) (fun c1 => ?_))
  ·
   refine zB (yQ (cs := [Vn 0, Vn 0, .string (⟨#[]⟩ : ByteArray), Vi 0, Vi 0]) (z := [Vn 0, Vn 0, .string (⟨#[]⟩ : ByteArray), Vi 0, Vi 0]) (pl := [(0, 1), (1, 1), (2, 1), (3, 1), (4, 1)]) (by kernel_rfl) (by kernel_rfl) rfl (zh 3 rfl rfl rfl (z8 rfl) rfl (zD rfl (zA ?_))))
   exact zM (yH (cs := [Vn 0, Vn 0, .string (⟨#[]⟩ : ByteArray), Vi 0, Vi 0]) (v := Vi 1) rfl rfl rfl (by kernel_rfl) (Own.rowCells (i := 3) rfl) (fun w' hw => ⟨LeaD.zero, 1, ls, rfl, .inl ⟨fun q => by unfold y3 at q; omega, rfl, rfl, rfl⟩, hw.sel [0, 1, 2] rfl (by decide)⟩))
  ·
   have hsp : 1 ≤ sp ∧ sp ≤ 1099511627776 := ⟨Int.not_lt.1 fun q => c1 (.inl q), Int.not_lt.1 fun q => c1 (.inr q)⟩
   refine zK (zB (zC rfl (zC rfl (zC rfl (zJ rfl rfl (fun w' hw => (zGd wb te (xs) now cnt bv lv bs ls s i w' (by first | omega | (simp <;> omega)) (hw.give [0, 2] rfl (by decide))).mono ?_))))))
   rintro _ w1 ⟨r1_, rfl, hf3_3, hO⟩
   refine (?_ : CL _ _ _ _ _ _ (Own w S [Res.vec 93 2 bv bs.length (bs.flatMap BudD.cells), Res.row b8 76 [Vn 0, Vn 0, .string (⟨#[]⟩ : ByteArray), Vi 0, Vi 0], Res.row wb te (Vi now :: Vn cnt :: bv :: lv :: xs), Res.vec 76 5 lv ls.length (ls.flatMap LeaD.cells)])) w1 (hw.frameL [0, 2] rfl hO)
   refine zD rfl (zA (zL (zB (zC rfl (yI rfl rfl rfl (zA (zU rfl (fun c2 => ?_) (fun c2 => ?_))))))))
   ·
    refine zB (yQ (cs := [Vn 0, Vn 0, .string (⟨#[]⟩ : ByteArray), Vi 0, Vi 0]) (z := [Vn 0, Vn 0, .string (⟨#[]⟩ : ByteArray), Vi 0, Vi 0]) (pl := [(0, 1), (1, 1), (2, 1), (3, 1), (4, 1)]) (by kernel_rfl) (by kernel_rfl) rfl (zh 1 rfl rfl rfl (z8 rfl) rfl (zD rfl (zA ?_))))
    exact zM (yH (cs := [Vn 0, Vn 0, .string (⟨#[]⟩ : ByteArray), Vi 0, Vi 0]) (v := Vi 17) rfl rfl rfl (by kernel_rfl) (Own.rowCells (i := 1) rfl) (fun w' hw => ⟨LeaD.zero, 17, ls, rfl, .inr (.inl ⟨hsp, zFE hf3_3 c2, rfl, rfl, rfl⟩), hw.sel [2, 0, 3] rfl (by decide)⟩))
   ·
    have hat := zE6 hf3_3 c2
    have hat1 := hat.1
    refine zK (zB (zC rfl (zC rfl (zm rfl rfl (zP (o := 3) rfl rfl (zS 2 (v := lv) rfl rfl rfl rfl (zC rfl (zH (pV 3 rfl) 5 ((r1_).toNat) rfl rfl (by omega) (by omega) rfl (zP (o := 2) rfl rfl (zV (pV 3 rfl) 5 ((r1_).toNat) 2 (off := yn lv + ((r1_).toNat) * 5 + 2) (fun _ => rfl) rfl (by omega) (by omega) rfl rfl (zJ rfl rfl (fun w' hw => (zB1 wb te (xs) now cnt bv lv bs ls ((zI ls ((r1_).toNat)).key) w' ‹_› (hw.give [2, 0, 3] rfl (by decide))).mono ?_))))))))))))
    rintro _ w1 ⟨rfl, hO⟩
    refine (?_ : CL _ _ _ _ _ _ (Own w S [Res.row b8 76 [Vn 0, Vn 0, .string (⟨#[]⟩ : ByteArray), Vi 0, Vi 0], Res.row wb te (Vi now :: Vn cnt :: bv :: lv :: xs), Res.vec 93 2 bv bs.length (bs.flatMap BudD.cells), Res.vec 76 5 lv ls.length (ls.flatMap LeaD.cells)])) w1 (hw.frameL [2, 0, 3] rfl hO)
    refine zC rfl (zp (vs := [Vi (yr ((zI ls ((r1_).toNat)).key) bs), Vi (yh ((zI ls ((r1_).toNat)).key) ls)]) rfl rfl rfl (zp (vs := [Vi (yr ((zI ls ((r1_).toNat)).key) bs), Vi (yh ((zI ls ((r1_).toNat)).key) ls)]) rfl rfl rfl (zD rfl (zD rfl (zA (zL (zB (zC rfl (zC rfl (yg rfl rfl rfl (zA (zU rfl (fun c3 => ?_) (fun c3 => ?_)))))))))))))
    ·
     refine zB (yQ (cs := [Vn 0, Vn 0, .string (⟨#[]⟩ : ByteArray), Vi 0, Vi 0]) (z := [Vn 0, Vn 0, .string (⟨#[]⟩ : ByteArray), Vi 0, Vi 0]) (pl := [(0, 1), (1, 1), (2, 1), (3, 1), (4, 1)]) (by kernel_rfl) (by kernel_rfl) rfl (zh 0 rfl rfl rfl (z8 rfl) rfl (zD rfl (zA ?_))))
     exact zM (yH (cs := [Vn 0, Vn 0, .string (⟨#[]⟩ : ByteArray), Vi 0, Vi 0]) (v := Vi 16) rfl rfl rfl (by kernel_rfl) (Own.rowCells (i := 0) rfl) (fun w' hw => ⟨LeaD.zero, 16, ls, rfl, .inr (.inr ⟨hsp, _, hat.1, hat.2.1, hat.2.2, .inl ⟨c3, rfl, rfl, rfl⟩⟩), hw.sel [1, 2, 3] rfl (by decide)⟩))
    ·
     refine zK (zL (xb (by kernel_rfl) (by kernel_rfl) (zf rfl (zQ) (zf rfl (z7 rfl) (zf rfl (zi (o := 3) rfl) (zf rfl (zo 1 (v := lv) rfl rfl rfl) (zf rfl (zQ) (zf rfl (yR (pV 3 rfl) 5 ((r1_).toNat) rfl rfl (by omega) (by omega)) (zf rfl (zi (o := 4) rfl) (zf rfl (yq (pV 3 rfl) 5 ((r1_).toNat) 4 (off := yn lv + ((r1_).toNat) * 5 + 4) (fun _ => rfl) rfl (by omega) (by omega) rfl) (zf rfl (zQ) (zf rfl (z7 rfl) ?_))))))))))))
     refine zf rfl (zi (o := 0) rfl) (zf rfl (zo 1 (v := Vi now) rfl rfl rfl) (zf rfl (zQ) (zf rfl (xy rfl rfl (zr (by omega))) (zf rfl (zEU rfl rfl) (j9 (zU rfl (fun c4 => ?_) (fun c4 => ?_)))))))
     ·
      refine zg [0, 1, 2] rfl (by decide) (by kernel_rfl) (fun w' hw hS => zF 0 rfl (zQ) hS (zF 1 rfl (z7 rfl) hS (zF 2 rfl (zi (o := 3) rfl) hS (zF 3 rfl (zo 1 (v := lv) rfl rfl rfl) hS (zF 4 rfl (zQ) hS (zF 5 rfl (zQ) hS (zF 6 rfl (z7 rfl) hS (zF 7 rfl (zi (o := 0) rfl) hS (zF 8 rfl (zo 1 (v := Vi now) rfl rfl rfl) hS (zF 9 rfl (zQ) hS (zF 10 rfl (xy rfl rfl (zr (by omega))) hS (zY 11 rfl hw ?_))))))))))))
      refine zH (pV 3 rfl) 5 ((r1_).toNat) rfl rfl (by omega) (by omega) rfl (zG [0, 1, 2] rfl (by decide) (fun w' hw hS => zF 12 rfl (zi (o := 4) rfl) hS (zY 13 rfl hw (zLz 3 5 ((r1_).toNat) 4 ({ (zI ls ((r1_).toNat)) with until_ := now + sp } : LeaD) (off := yn lv + ((r1_).toNat) * 5 + 4) rfl (fun _ => rfl) rfl (by omega) rfl rfl rfl (by omega) (by decide) (by kernel_rfl) (zG [0, 1, 2] rfl (by decide) (fun w' hw hS => zR ?_))))))
      refine (?_ : C _ _ _ _ _ _ _ (Own w S [Res.row b8 76 [Vn 0, Vn 0, .string (⟨#[]⟩ : ByteArray), Vi 0, Vi 0], Res.row wb te (Vi now :: Vn cnt :: bv :: lv :: xs), Res.vec 93 2 bv bs.length (bs.flatMap BudD.cells), Res.vec 76 5 lv (ls.set ((r1_).toNat) ({ (zI ls ((r1_).toNat)) with until_ := now + sp } : LeaD)).length ((ls.set ((r1_).toNat) ({ (zI ls ((r1_).toNat)) with until_ := now + sp } : LeaD)).flatMap LeaD.cells)])) _ hw
      refine zB (zC rfl (zm rfl rfl (zP (o := 3) rfl rfl (zS 1 (v := lv) rfl rfl rfl rfl (zC rfl (zH (pV 3 rfl) 5 ((r1_).toNat) rfl rfl (by omega) (by simp only [List.length_set]; omega) rfl (xh (pV 3 rfl) 5 ((r1_).toNat) (off := yn lv + ((r1_).toNat) * 5) (fun _ => rfl) rfl rfl (by simp only [List.length_set]; omega) rfl (zh 0 rfl rfl rfl (z8 rfl) rfl (zD rfl (zA ?_))))))))))
      exact zM (yH (cs := (LeaD.cells (zI (ls.set ((r1_).toNat) ({ (zI ls ((r1_).toNat)) with until_ := now + sp } : LeaD)) ((r1_).toNat)))) (v := Vi 0) rfl rfl rfl (by kernel_rfl) (Own.rowCells (i := 0) rfl) (fun w' hw => ⟨xa (zI ls (r1_).toNat) (now + sp), 0, ls.set (r1_).toNat (xa (zI ls (r1_).toNat) (now + sp)), (by rw [zKk hat1, zDI c4]), .inr (.inr ⟨hsp, _, hat.1, hat.2.1, hat.2.2, .inr ⟨by omega, rfl, rfl, rfl⟩⟩), by rw [zDI c4]; exact hw.sel [1, 2, 3] rfl (by decide)⟩))
     ·
      refine zK (zB (zC rfl (zm rfl rfl (zP (o := 3) rfl rfl (zS 1 (v := lv) rfl rfl rfl rfl (zC rfl (zH (pV 3 rfl) 5 ((r1_).toNat) rfl rfl (by omega) (by omega) rfl (xh (pV 3 rfl) 5 ((r1_).toNat) (off := yn lv + ((r1_).toNat) * 5) (fun _ => rfl) rfl rfl (by omega) rfl (zh 0 rfl rfl rfl (z8 rfl) rfl (zD rfl (zA ?_)))))))))))
      exact zM (yH (cs := (LeaD.cells (zI ls ((r1_).toNat)))) (v := Vi 0) rfl rfl rfl (by kernel_rfl) (Own.rowCells (i := 0) rfl) (fun w' hw => ⟨xa (zI ls (r1_).toNat) (now + sp), 0, ls, (by rw [zDd c4]), .inr (.inr ⟨hsp, _, hat.1, hat.2.1, hat.2.2, .inr ⟨by omega, rfl, rfl, by rw [zDd c4]; exact zIv hat1⟩⟩), hw.sel [1, 2, 3] rfl (by decide)⟩))
theorem zKO {S : List Nat} (wb te : Nat) (xs : List Value) (now : Int) (cnt : Nat) (bv lv : Value) (bs : List BudD) (ls : List LeaD) (s i : Nat) (w : World) (hll : ls.length ≤ 128) (hin : Own w S [Res.row wb te (Vi now :: Vn cnt :: bv :: lv :: xs), Res.vec 76 5 lv ls.length (ls.flatMap LeaD.cells)] w) : Rets Tryz.prog 34 #[.pointer (some ⟨wb, 0, none⟩), Vn s, Vn i] w fun u_ w' => ∃ (x : LeaD) (e : Int) (lv' : Value) (ls' : List LeaD), u_ = .tuple #[.agg (LeaD.cells x).toArray, Vi e] ∧ zGI ls s i x e ls' ∧ Own w S [Res.row wb te (Vi now :: Vn cnt :: bv :: lv' :: xs), Res.vec 76 5 lv' ls'.length (ls'.flatMap LeaD.cells)] w' := by
  refine zW Tryz.func34 rfl Tryz.ntmps34 hin ?_
  refine zB (yF (v := .agg #[Vn 0, Vn 0, .string (⟨#[]⟩ : ByteArray), Vi 0, Vi 0]) (by kernel_rfl) rfl (fun b6 => zD rfl (zA (zB (zC rfl (zC rfl (zC rfl (zJ rfl rfl (fun w' hw => (zGd wb te (xs) now cnt bv lv bs ls s i w' (by first | omega | (simp <;> omega)) (hw.give [0, 1] rfl (by decide))).mono ?_)))))))))
  rintro _ w1 ⟨r1_, rfl, hf1_3, hO⟩
  refine (?_ : CL _ _ _ _ _ _ (Own w S [Res.row b6 76 [Vn 0, Vn 0, .string (⟨#[]⟩ : ByteArray), Vi 0, Vi 0], Res.row wb te (Vi now :: Vn cnt :: bv :: lv :: xs), Res.vec 76 5 lv ls.length (ls.flatMap LeaD.cells)])) w1 (hw.frameL [0, 1] rfl hO)
  refine zD rfl (zA (zL (zB (zC rfl (yI rfl rfl rfl (zA (zU rfl (fun c1 => ?_) (fun c1 => ?_))))))))
  ·
   refine zB (yQ (cs := [Vn 0, Vn 0, .string (⟨#[]⟩ : ByteArray), Vi 0, Vi 0]) (z := [Vn 0, Vn 0, .string (⟨#[]⟩ : ByteArray), Vi 0, Vi 0]) (pl := [(0, 1), (1, 1), (2, 1), (3, 1), (4, 1)]) (by kernel_rfl) (by kernel_rfl) rfl (zh 0 rfl rfl rfl (z8 rfl) rfl (zD rfl (zA ?_))))
   exact zM (yH (cs := [Vn 0, Vn 0, .string (⟨#[]⟩ : ByteArray), Vi 0, Vi 0]) (v := Vi 17) rfl rfl rfl (by kernel_rfl) (Own.rowCells (i := 0) rfl) (fun w' hw => ⟨LeaD.zero, 17, lv, ls, rfl, .inl ⟨zFE hf1_3 c1, rfl, rfl, rfl⟩, hw.sel [1, 2] rfl (by decide)⟩))
  ·
   have hat := zE6 hf1_3 c1
   have hat1 := hat.1
   refine zK (zB (zC rfl (zm rfl rfl (zP (o := 3) rfl rfl (zS 1 (v := lv) rfl rfl rfl rfl (zC rfl (zH (pV 2 rfl) 5 ((r1_).toNat) rfl rfl (by omega) (by omega) rfl (xh (pV 2 rfl) 5 ((r1_).toNat) (off := yn lv + ((r1_).toNat) * 5) (fun _ => rfl) rfl rfl (by omega) rfl (yF (v := .agg #[Vn 0, Vn 0, .string (⟨#[]⟩ : ByteArray), Vi 0, Vi 0]) (by kernel_rfl) rfl (fun b9 => zh 3 rfl rfl rfl (z8 rfl) rfl (zA (zB ?_))))))))))))
   refine yj (e := 76) (sz := 5) (vs := []) (by kernel_rfl) rfl rfl (by simp [Value.cells, LeaD.cells]) (by decide) rfl (fun b25 => zC rfl (zm rfl rfl (zP (o := 3) rfl rfl (zS 1 (v := lv) rfl rfl rfl rfl (zC rfl (zAG (pV 2 rfl) 5 0 ((r1_).toNat) (by kernel_rfl) rfl rfl ⟨_, (show Value.int .i64 _ = Value.int .i64 _ by congr 1; omega)⟩ (by omega) (by omega) rfl (yu (g := LeaD.cells) (sz := 5) (by' := 48) (fun _ => rfl) (l := []) (l' := ((ls.take ((r1_).toNat)).drop 0)) (by simp [cell1, LeaD.cells, vu]) 4 (by kernel_rfl) rfl rfl rfl (fun w' hw' => Sl.subL_f (g := LeaD.cells) (xs := ls) (sz := 5) (fun _ => rfl) ((fun w' hw' => Vec.sl (Own.holds hw' 2 _ rfl)) w' hw') (l := 0) (h := (r1_).toNat) (by omega) (by omega)) (by first | omega | (simp; omega)) (by decide) rfl (fun v32 => zD rfl (zA (zB (zC rfl (zC rfl ?_))))))))))))
   refine zC rfl (zm rfl rfl (zP (o := 3) rfl rfl (zS 1 (v := lv) rfl rfl rfl rfl (zC rfl (zt rfl rfl (zr (by omega)) rfl (zAG (pV 2 rfl) 5 ((r1_ + 1).toNat) ls.length (by kernel_rfl) rfl ⟨_, (show Value.int .i64 _ = Value.int .i64 _ by congr 1; omega)⟩ rfl (by omega) (by omega) rfl (yu (g := LeaD.cells) (sz := 5) (by' := 48) (fun _ => rfl) (l := ((ls.take ((r1_).toNat)).drop 0)) (l' := (ls.drop ((r1_ + 1).toNat))) (by simp [cell1, LeaD.cells, vu]) 4 (by kernel_rfl) rfl rfl rfl (fun w' hw' => Sl.dropL_f (g := LeaD.cells) (xs := ls) (sz := 5) (fun _ => rfl) ((fun w' hw' => Vec.sl (Own.holds hw' 2 _ rfl)) w' hw') (l := (r1_ + 1).toNat) (by omega)) (by first | omega | (simp; omega)) (by decide) rfl (fun v42 => zm rfl rfl (zP (o := 3) rfl rfl ?_)))))))))
   refine yS (fun w' hw => Own.cell1Vec (i := 4) rfl hw) (fun hc1_ => ?_)
   refine yi (cs := (Vi now :: Vn cnt :: bv :: lv :: xs)) 1 rfl rfl rfl hc1_ rfl (zA (zB (yN (cs := (LeaD.cells (zI ls ((r1_).toNat)))) 3 rfl rfl rfl (zh 0 rfl rfl rfl (z8 rfl) rfl (zD rfl (zA ?_))))))
   exact zM (yH (cs := (LeaD.cells (zI ls ((r1_).toNat)))) (v := Vi 0) rfl rfl rfl (by kernel_rfl) (Own.rowCells (i := 0) rfl) (fun w' hw => ⟨zI ls (r1_).toNat, 0, v42, ls.take (r1_).toNat ++ ls.drop ((r1_).toNat + 1), rfl, .inr ⟨_, hat.1, hat.2.1, hat.2.2, rfl, rfl, rfl⟩, by rw [← zNe (ls := ls) c1]; exact hw.sel [1, 4] rfl (by decide)⟩))
end Go.Proofs.YthincafbmpialaaGreat
