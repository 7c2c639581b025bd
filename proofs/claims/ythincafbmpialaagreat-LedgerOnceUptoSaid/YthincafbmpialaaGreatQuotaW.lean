/-
  THE WALKS OF the tables of budgets and leases.
-/
import Derived.Test.YthincafbmpialaaGreatSortU4
import Derived.Test.YthincafbmpialaaGreatQuotaP
import Derived.Test.YthincafbmpialaaGreatRefW
set_option linter.unusedVariables false
set_option maxRecDepth 10000
namespace Go.Proofs.YthincafbmpialaaGreat
open Go Go.Sc Go.Proofs

def leaV (l : LeaD) : Value := .agg l.cells.toArray
def ekU (n : Nat) : Value := .int .u64 n
def ekI (n : Int) : Value := .int .i64 n
theorem keyB : KeyL Tryz.prog 9 Value.string := keyL_str (by kernel_rfl)
theorem keyU : KeyL Tryz.prog 28 ekU := keyL_nat (by kernel_rfl)
theorem mapB : mapT Tryz.prog 108 = some (9, 2) := by kernel_rfl
theorem mapL : mapT Tryz.prog 109 = some (28, 76) := by kernel_rfl
theorem zeroB : zeroT Tryz.prog 2 = some (ekI 0) := by kernel_rfl
theorem zeroL : zeroT Tryz.prog 76 = some (leaV LeaD.zero) := by kernel_rfl
def lsum (k : ByteArray) (kl : List (Nat × LeaD)) : Int := lentS k (kl.map (·.2))
theorem lsum_end {k : ByteArray} {kl : List (Nat × LeaD)} {n : Int} (h : n = IntKind.i64.wrap (lsum k kl - lsum k [])) : n = lentK k kl := by
  rw [h]; simp [lsum, lentS, lentK, lentW]
theorem lsum_yes {k : ByteArray} {kl todo q1 q2 : List (Nat × LeaD)} {i : Nat} {v : LeaD} {n : Int} (h : n = IntKind.i64.wrap (lsum k kl - lsum k todo)) (ht : todo = q1 ++ (i, v) :: q2) (hk : v.key = k) : IntKind.i64.wrap (n + v.amount) = IntKind.i64.wrap (lsum k kl - lsum k (q1 ++ q2)) := by
  rw [h, wrap_add, ht]; unfold lsum; rw [lentS_split, if_pos hk]; congr 1; omega
theorem lsum_no {k : ByteArray} {kl todo q1 q2 : List (Nat × LeaD)} {i : Nat} {v : LeaD} {n : Int} (h : n = IntKind.i64.wrap (lsum k kl - lsum k todo)) (ht : todo = q1 ++ (i, v) :: q2) (hk : ¬ v.key = k) : n = IntKind.i64.wrap (lsum k kl - lsum k (q1 ++ q2)) := by
  rw [h, ht]; unfold lsum; rw [lentS_split, if_neg hk]; congr 1; omega
theorem keyed_s (k : ByteArray) (w : World) : Rets Tryz.prog 76 #[.string k] w fun u_ w' => u_ = .bool (decide (keyOk k)) ∧ Own w [] [] w' := by
  refine fn_own Tryz.func76 rfl Tryz.ntmps76 (Own.start w) ?_
  refine c_reg (l_as rfl (l_end (c_reg (l_mv rfl (l_sne rfl rfl rfl (l_mv rfl (l_band (q := k ≠ (⟨#[]⟩ : ByteArray)) 3 2 [8, 7, 6] (((k.size : Nat) : Int) ≤ 64) rfl rfl rfl rfl rfl rfl trivial rfl (fun h1_2 => ?_) (fun g1_6 => ?_))))))))
  ·
   refine l_on rfl (gT h1_2) (l_mv rfl (l_on rfl (gT h1_2) (l_lens (by kernel_rfl) rfl rfl (l_on rfl (gT h1_2) (l_leq rfl rfl rfl ?_)))))
   exact l_gp rfl (fun _ hw => hw)
  refine l_as rfl (l_end ?_)
  exact c_ret (ret1 (v := .bool (decide ((k ≠ (⟨#[]⟩ : ByteArray)) ∧ (((k.size : Nat) : Int) ≤ 64)))) rfl rfl (fun w' hw => ⟨(by congr 1; exact decide_eq_decide.2 (by unfold keyOk; rw [ba_ne]; omega)), hw.drop⟩))
theorem term_s (n : Int) (w : World) : Rets Tryz.prog 107 #[Vi n] w fun u_ w' => u_ = .bool (decide (spanOk n)) ∧ Own w [] [] w' := by
  refine fn_own Tryz.func107 rfl Tryz.ntmps107 (Own.start w) ?_
  refine c_reg (l_as rfl (l_end (c_reg (l_mv rfl (l_geq rfl rfl rfl (l_mv rfl (l_band (q := 1 ≤ n) 2 2 [7, 6] (n ≤ 1099511627776) rfl rfl rfl rfl rfl rfl trivial rfl (fun h1_2 => ?_) (fun g1_5 => ?_))))))))
  ·
   refine l_on rfl (gT h1_2) (l_mv rfl (l_on rfl (gT h1_2) (l_leq rfl rfl rfl ?_)))
   exact l_gp rfl (fun _ hw => hw)
  refine l_as rfl (l_end ?_)
  exact c_ret (ret1 (v := .bool (decide ((1 ≤ n) ∧ (n ≤ 1099511627776)))) rfl rfl (fun w' hw => ⟨rfl, hw.drop⟩))
theorem lent_s {S : List Nat} (b bm lm : Nat) (now : Int) (cnt : Nat) (kl : List (Nat × LeaD)) (k : ByteArray) (w : World) (hin : Own w S [Res.row b 111 [.map (some bm), .map (some lm), Vi now, Vn cnt], Res.mp ekU leaV lm kl] w) : Rets Tryz.prog 78 #[.pointer (some ⟨b, 0, none⟩), .string k] w fun u_ w' => ∃ (n : Int), u_ = Vi n ∧ n = lentK k kl ∧ Own w S [Res.row b 111 [.map (some bm), .map (some lm), Vi now, Vn cnt], Res.mp ekU leaV lm kl] w' := by
  refine fn_own Tryz.func78 rfl Tryz.ntmps78 hin ?_
  refine c_reg (l_as rfl (l_end (c_reg (l_as rfl (l_end (c_seq (c_reg (l_mv rfl (l_nck rfl rfl (a_fld (o := 1) rfl rfl (a_ldo 0 (v := .map (some lm)) rfl rfl rfl rfl (l_rangeA 1 mapL rfl rfl rfl (fun r12 => ?_)))))))))))))
  refine l_end (c_block ?_)
  refine c_loop2 (fun (todo : List (Nat × LeaD)) (n : Int) => [(1, .string k), (5, Vi n), (12, .pointer (some ⟨r12, 0, none⟩))]) (fun (todo : List (Nat × LeaD)) (n : Int) => n = IntKind.i64.wrap (lsum k kl - lsum k todo)) (fun (todo : List (Nat × LeaD)) (n : Int) => [Res.row b 111 [.map (some bm), .map (some lm), Vi now, Vn cnt], Res.rg ekU leaV lm r12 kl todo]) (fun (todo : List (Nat × LeaD)) (n : Int) => todo.length) (fun w' hw => ⟨kl, 0, ⟨rfl, rfl, rfl, trivial⟩, (by rw [Int.sub_self]; decide), hw⟩) (fun todo n g hΦ => ?_)
  refine c_reg (l_nextA 1 rfl rfl rfl (fun hq0 => ?_) (fun q1 k v q2 hq1 => ?_))
  ·
   refine l_ext (vs := [.bool false]) rfl rfl rfl (l_end (c_seq (c_no rfl (c_exitC rfl (c_reg (l_mv rfl (l_as rfl (l_end ?_))))))))
   exact c_ret (ret1 (v := Vi n) rfl rfl (fun w' hw => ⟨n, rfl, lsum_end (hq0 ▸ hΦ), (Own.rgEnd 1 hw rfl)⟩))
  ·
   refine l_ext (vs := [.bool true, Vn k, .agg (LeaD.cells v).toArray]) rfl rfl rfl (l_end (c_seq (c_yes rfl (c_skipC (c_block (c_reg (l_entryA 1 rfl rfl rfl (l_ext (vs := [Vn k, .agg (LeaD.cells v).toArray]) rfl rfl rfl (l_new (v := .agg #[Vn 0, Vn 0, .string (⟨#[]⟩ : ByteArray), Vi 0, Vi 0]) (by kernel_rfl) rfl (fun b7 => a_stN 2 rfl rfl rfl (allc rfl) rfl (l_end (c_reg ?_))))))))))))
   refine a_fld (o := 2) rfl rfl (a_ldo 2 (v := .string v.key) rfl rfl rfl rfl (l_mv rfl (l_seq rfl rfl rfl (l_end (c_dec rfl (fun c3 => ?_) (fun c3 => ?_))))))
   ·
    refine c_last (l_mv rfl (a_fld (o := 3) rfl rfl (a_ldo 2 (v := Vi v.amount) rfl rfl rfl rfl (l_add (c := IntKind.i64.wrap (n + v.amount)) rfl rfl rfl rfl (l_as rfl ?_)))))
    exact l_nil (fun w' hw => ⟨q1 ++ q2, IntKind.i64.wrap (n + v.amount), ⟨rfl, rfl, rfl, trivial⟩, lsum_yes hΦ hq1 c3, hw.sel [0, 1] rfl (by decide), (by rw [hq1, List.length_append, List.length_append, List.length_cons]; omega)⟩)
   ·
    exact c_skip (fun w' hw => ⟨q1 ++ q2, n, ⟨rfl, rfl, rfl, trivial⟩, lsum_no hΦ hq1 c3, hw.sel [0, 1] rfl (by decide), (by rw [hq1, List.length_append, List.length_append, List.length_cons]; omega)⟩)
def FindK (kl : List (Nat × LeaD)) (s i : Nat) (x : LeaD) (e : Int) : Prop :=
  (e = 17 ∧ x = LeaD.zero ∧ ∀ l, getA i kl = some l → l.session ≠ s) ∨ (e = 0 ∧ getA i kl = some x ∧ x.session = s)
theorem find_no {kl : List (Nat × LeaD)} {s i : Nat} (h : (!(getA i kl).isSome) = true ∨ ((((getA i kl).getD LeaD.zero).session : Nat) : Int) ≠ ((s : Nat) : Int)) : FindK kl s i LeaD.zero 17 := by
  refine .inl ⟨rfl, rfl, fun l hl => ?_⟩
  rw [hl] at h
  rcases h with h | h
  · cases h
  · intro e; exact h (by rw [Option.getD_some, e])
theorem find_yes {kl : List (Nat × LeaD)} {s i : Nat} (h : ¬ ((!(getA i kl).isSome) = true ∨ ((((getA i kl).getD LeaD.zero).session : Nat) : Int) ≠ ((s : Nat) : Int))) : FindK kl s i ((getA i kl).getD LeaD.zero) 0 := by
  cases hl : getA i kl with
  | none => rw [hl] at h; exact absurd (.inl rfl) h
  | some l =>
    rw [hl, Option.getD_some] at h
    exact .inr ⟨rfl, hl, Decidable.by_contra fun (q : ¬ l.session = s) => h (.inr fun e => q (by omega))⟩
theorem find_err {kl : List (Nat × LeaD)} {s i : Nat} {x : LeaD} {e : Int} (h : FindK kl s i x e) (he : e ≠ 0) : e = 17 ∧ x = LeaD.zero ∧ ∀ l, getA i kl = some l → l.session ≠ s := by
  rcases h with h | h
  · exact h
  · exact absurd h.1 he
theorem find_ok {kl : List (Nat × LeaD)} {s i : Nat} {x : LeaD} {e : Int} (h : FindK kl s i x e) (he : ¬ e ≠ 0) : getA i kl = some x ∧ x.session = s := by
  rcases h with h | h
  · rw [h.1] at he; exact absurd (by decide) he
  · exact h.2
theorem back_no {kl : List (Nat × LeaD)} {s i : Nat} {x : LeaD} {e : Int} (h : FindK kl s i x e) (he : ¬ e = 0) : BackK kl s i x e kl := by
  have := find_err h he; exact .inl ⟨this.2.2, this.1, this.2.1, rfl⟩
theorem back_yes {kl : List (Nat × LeaD)} {s i : Nat} {x : LeaD} {e : Int} (h : FindK kl s i x e) (he : e = 0) : BackK kl s i x e (delA i kl) := by
  have := find_ok h (fun q => q he); exact .inr ⟨x, this.1, this.2, he, rfl, rfl⟩
theorem renew_err {now : Int} {kb : List (ByteArray × Int)} {kl : List (Nat × LeaD)} {s i : Nat} {sp : Int} {x : LeaD} {e : Int} (hs : ¬ ¬ spanOk sp) (h : FindK kl s i x e) (he : e ≠ 0) : RenewK now kb kl s i sp LeaD.zero e kl := by
  have := find_err h he; exact .inr (.inl ⟨Decidable.not_not.1 hs, this.2.2, this.1, rfl, rfl⟩)
theorem renew_16 {now : Int} {kb : List (ByteArray × Int)} {kl : List (Nat × LeaD)} {s i : Nat} {sp n : Int} {x : LeaD} {e : Int} (hs : ¬ ¬ spanOk sp) (h : FindK kl s i x e) (he : ¬ e ≠ 0) (hn : n = lentK x.key kl) (hc : (getA x.key kb).getD 0 < n) : RenewK now kb kl s i sp LeaD.zero 16 kl := by
  have := find_ok h he; exact .inr (.inr ⟨Decidable.not_not.1 hs, x, this.1, this.2, .inl ⟨hn ▸ hc, rfl, rfl, rfl⟩⟩)
theorem renew_0 {now : Int} {kb : List (ByteArray × Int)} {kl : List (Nat × LeaD)} {s i : Nat} {sp n : Int} {x : LeaD} {e : Int} (hs : ¬ ¬ spanOk sp) (h : FindK kl s i x e) (he : ¬ e ≠ 0) (hn : n = lentK x.key kl) (hc : ¬ (getA x.key kb).getD 0 < n) : RenewK now kb kl s i sp (longer x (now + sp)) 0 (putA i (longer x (now + sp)) kl) := by
  have := find_ok h he; exact .inr (.inr ⟨Decidable.not_not.1 hs, x, this.1, this.2, .inr ⟨by rw [hn] at hc; omega, rfl, rfl, rfl⟩⟩)
theorem find_s {S : List Nat} (b bm lm : Nat) (now : Int) (cnt : Nat) (kl : List (Nat × LeaD)) (s i : Nat) (w : World) (hin : Own w S [Res.row b 111 [.map (some bm), .map (some lm), Vi now, Vn cnt], Res.mp ekU leaV lm kl] w) : Rets Tryz.prog 108 #[.pointer (some ⟨b, 0, none⟩), Vn s, Vn i] w fun u_ w' => ∃ (x : LeaD) (e : Int), u_ = .tuple #[.agg (LeaD.cells x).toArray, Vi e] ∧ FindK kl s i x e ∧ Own w S [Res.row b 111 [.map (some bm), .map (some lm), Vi now, Vn cnt], Res.mp ekU leaV lm kl] w' := by
  refine fn_own Tryz.func108 rfl Tryz.ntmps108 hin ?_
  refine c_reg (l_new (v := .agg #[Vn 0, Vn 0, .string (⟨#[]⟩ : ByteArray), Vi 0, Vi 0]) (by kernel_rfl) rfl (fun b6 => l_as rfl (l_end (c_reg (l_mv rfl (l_nck rfl rfl (a_fld (o := 1) rfl rfl (a_ldo 0 (v := .map (some lm)) rfl rfl rfl rfl (l_mv rfl (l_lk2A (k := i) (kv := kl) (zv := LeaD.zero) keyU mapL zeroL rfl rfl (fun w' hw' => Own.holds hw' 1 _ rfl) rfl (l_mv rfl (l_ext (vs := [.agg (LeaD.cells ((getA i kl).getD LeaD.zero)).toArray, .bool ((getA i kl).isSome)]) rfl rfl rfl ?_))))))))))))
  refine l_ext (vs := [.agg (LeaD.cells ((getA i kl).getD LeaD.zero)).toArray, .bool ((getA i kl).isSome)]) rfl rfl rfl (l_new (v := .agg #[Vn 0, Vn 0, .string (⟨#[]⟩ : ByteArray), Vi 0, Vi 0]) (by kernel_rfl) rfl (fun b8 => a_stN 3 rfl rfl rfl (allc rfl) rfl (l_as rfl (l_end (c_seq (c_reg (l_mv rfl (l_not (b := (getA i kl).isSome) rfl rfl (l_mv rfl (l_bor (q := (!((getA i kl).isSome)) = true) 4 2 [25, 24, 23, 22] (((((getA i kl).getD LeaD.zero).session : Nat) : Int) ≠ ((s : Nat) : Int)) rfl rfl (bool_dec _) rfl rfl rfl trivial rfl (fun h2_2 => ?_) (fun g2_7 => ?_)))))))))))
  ·
   refine l_on rfl (bF h2_2) (a_fld (o := 1) rfl rfl (l_on rfl (bF h2_2) (a_ldo 3 (v := Vn (((getA i kl).getD LeaD.zero).session)) rfl rfl rfl rfl (l_on rfl (bF h2_2) (l_mv rfl (l_on rfl (bF h2_2) (l_ne rfl rfl rfl ?_)))))))
   exact l_gp rfl (fun _ hw => hw)
  refine l_end (c_dec rfl (fun c1 => ?_) (fun c1 => ?_))
  ·
   refine c_reg (l_bld (cs := [Vn 0, Vn 0, .string (⟨#[]⟩ : ByteArray), Vi 0, Vi 0]) (z := [Vn 0, Vn 0, .string (⟨#[]⟩ : ByteArray), Vi 0, Vi 0]) (pl := [(0, 1), (1, 1), (2, 1), (3, 1), (4, 1)]) (by kernel_rfl) (by kernel_rfl) rfl (a_stN 2 rfl rfl rfl (allc rfl) rfl (l_as rfl (l_end ?_))))
   exact c_ret (retc2 (cs := [Vn 0, Vn 0, .string (⟨#[]⟩ : ByteArray), Vi 0, Vi 0]) (v := Vi 17) rfl rfl rfl (by kernel_rfl) (Own.rowCells (i := 2) rfl) (fun w' hw => ⟨LeaD.zero, 17, rfl, find_no c1, hw.sel [0, 1] rfl (by decide)⟩))
  ·
   refine c_skipC (c_reg (a_ldr (cs := (LeaD.cells ((getA i kl).getD LeaD.zero))) 3 rfl rfl rfl (a_stN 2 rfl rfl rfl (allc rfl) rfl (l_as rfl (l_end ?_)))))
   exact c_ret (retc2 (cs := (LeaD.cells ((getA i kl).getD LeaD.zero))) (v := Vi 0) rfl rfl rfl (by kernel_rfl) (Own.rowCells (i := 2) rfl) (fun w' hw => ⟨(getA i kl).getD LeaD.zero, 0, rfl, find_yes c1, hw.sel [0, 1] rfl (by decide)⟩))
theorem add_s (a c : Int) (w : World) (ha : 0 ≤ a ∧ a ≤ 9223372036854775807) (hc : -9223372036854775808 ≤ c ∧ c ≤ 9223372036854775807) : Rets Tryz.prog 113 #[Vi a, Vi c] w fun u_ w' => ∃ (n e : Int), u_ = .tuple #[Vi n, Vi e] ∧ ((9223372036854775807 < a + c ∧ e = 3 ∧ n = 0) ∨ (a + c ≤ 9223372036854775807 ∧ e = 0 ∧ n = a + c)) ∧ Own w [] [] w' := by
  refine fn_own Tryz.func113 rfl Tryz.ntmps113 (Own.start w) ?_
  refine c_reg (l_as rfl (l_as rfl (l_end (c_seq (c_reg (l_mv rfl (l_gtr rfl rfl rfl (l_mv rfl (l_band (q := 0 < c) 4 2 [12, 11, 10, 9] ((9223372036854775807 - c) < a) rfl rfl rfl rfl rfl rfl trivial rfl (fun h1_2 => ?_) (fun g1_7 => ?_))))))))))
  ·
   refine l_on rfl (gT h1_2) (l_mv rfl (l_on rfl (gT h1_2) (l_mv rfl (l_on rfl (gT h1_2) (l_sub rfl rfl (wi64 (by omega)) rfl (l_on rfl (gT h1_2) (l_gtr rfl rfl rfl ?_)))))))
   exact l_gp rfl (fun _ hw => hw)
  refine l_mv rfl (l_bor (q := (0 < c) ∧ ((9223372036854775807 - c) < a)) 8 8 [22, 21, 20, 19, 18, 17, 16, 15] ((c < 0) ∧ (a < ((-9223372036854775808) - c))) rfl rfl rfl rfl rfl rfl trivial rfl (fun h1_8 => ?_) (fun g1_17 => ?_))
  ·
   refine l_on rfl (gF h1_8) (l_mv rfl (l_on rfl (gF h1_8) (l_lss rfl rfl rfl (l_on rfl (gF h1_8) (l_mv rfl (l_band (q := c < 0) 4 11 [21, 20, 19, 18] (a < ((-9223372036854775808) - c)) rfl rfl rfl rfl rfl rfl ⟨_, rfl, rfl, gF h1_8⟩ rfl (fun h1_11 => ?_) (fun g1_16 => ?_)))))))
   ·
    refine l_on rfl (gT h1_11) (l_mv rfl (l_on rfl (gT h1_11) (l_mv rfl (l_on rfl (gT h1_11) (l_sub rfl rfl (wi64 (by omega)) rfl (l_on rfl (gT h1_11) (l_lss rfl rfl rfl ?_)))))))
    exact l_gp rfl (fun _ hw => hw)
   exact l_gp rfl (fun _ hw => hw)
  refine l_end (c_dec rfl (fun c1 => ?_) (fun c1 => ?_))
  ·
   refine c_reg (l_as rfl (l_as rfl (l_end ?_)))
   exact c_ret (ret2 (v := Vi 0) (v' := Vi 3) rfl rfl rfl (fun w' hw => ⟨0, 3, rfl, .inl ⟨by omega, rfl, rfl⟩, hw.drop⟩))
  ·
   refine c_skipC (c_reg (l_mv rfl (l_mv rfl (l_add rfl rfl (wi64 (by omega)) rfl (l_as rfl (l_as rfl (l_end ?_)))))))
   exact c_ret (ret2 (v := Vi (a + c)) (v' := Vi 0) rfl rfl rfl (fun w' hw => ⟨a + c, 0, rfl, .inr ⟨by omega, rfl, rfl⟩, hw.drop⟩))
theorem total_s (v : Value) (l : List Int) (w : World) (hl : l.length = 2) (h0 : 0 ≤ nth l 0 ∧ nth l 0 ≤ 9223372036854775807) (h1 : -9223372036854775808 ≤ nth l 1 ∧ nth l 1 ≤ 9223372036854775807) (hv : Rd w [] (Res.sl v l.length (l.flatMap I1))) : Rets Tryz.prog 77 #[v] w fun u_ w' => ∃ (n e : Int), u_ = .tuple #[Vi n, Vi e] ∧ ((9223372036854775807 < nth l 0 + nth l 1 ∧ e = 3 ∧ n = 0) ∨ (nth l 0 + nth l 1 ≤ 9223372036854775807 ∧ e = 0 ∧ n = nth l 0 + nth l 1)) ∧ Own w [] [] w' := by
  refine fn_own Tryz.func77 rfl Tryz.ntmps77 (Own.start w) ?_
  refine c_reg (l_as rfl (l_as rfl (l_end (c_reg (l_as rfl (l_end (c_seq (c_reg (l_mv rfl (a_lenP (pR hv) rfl rfl (l_mv rfl (l_end ?_))))))))))))
  refine c_block ?_
  refine c_loop2 (fun (k : Nat) (n : Int) => [(4, Vi n), (8, v), (9, Vj l.length), (10, Vj k)]) (fun (k : Nat) (n : Int) => k ≤ 2 ∧ ((k = 0 → n = 0) ∧ (k = 1 → n = nth l 0) ∧ (k = 2 → n = nth l 0 + nth l 1)) ∧ ((k < 2 → 0 ≤ n) ∧ n ≤ 9223372036854775807)) (fun (k : Nat) (n : Int) => []) (fun (k : Nat) (n : Int) => 2 - k) (fun w' hw => ⟨0, 0, ⟨rfl, rfl, rfl, rfl, trivial⟩, ⟨by omega, ⟨fun _ => rfl, by omega, by omega⟩, ⟨fun _ => by omega, by omega⟩⟩, hw⟩) (fun k n g hΦ => ?_)
  have hkl := hΦ.1
  have hkI := hΦ.2.1
  have hkn := hΦ.2.2
  refine c_reg (l_lss rfl rfl rfl (l_end (c_seq (c_dec rfl (fun c1 => ?_) (fun c1 => ?_)))))
  ·
   have hk2 : k < 2 := by omega
   have hkx : (k = 0 → nth l k = nth l 0) ∧ (k = 1 → nth l k = nth l 1) := ⟨fun h => by rw [h], fun h => by rw [h]⟩
   have hkb : -9223372036854775808 ≤ nth l k ∧ nth l k ≤ 9223372036854775807 := by rcases (show k = 0 ∨ k = 1 by omega) with h | h <;> rw [h] <;> omega
   refine c_skipC (c_seq (c_block (c_reg (a_idxP (pR hv) 1 k rfl rfl rfl (by omega) rfl (a_ldP (pR hv) 1 k 0 (fun _ => rfl) rfl rfl (by omega) rfl rfl (l_as rfl (l_end (c_reg (l_as rfl (l_end (c_reg (l_mv rfl ?_))))))))))))
   refine l_mv rfl (a_call rfl rfl (fun w' hw => (add_s n (nth l k) w' ⟨hkn.1 hk2, hkn.2⟩ hkb).mono ?_))
   rintro _ w1 ⟨n1_, e2_, rfl, hf6_2, hO⟩
   refine (?_ : CL _ _ _ _ _ _ (Own w [] [])) w1 (hw.frame0 hO)
   refine l_mv rfl (l_ext (vs := [Vi n1_, Vi e2_]) rfl rfl rfl (l_ext (vs := [Vi n1_, Vi e2_]) rfl rfl rfl (l_as rfl (l_as rfl (l_end (c_reg (l_mv rfl (l_ne rfl rfl rfl (l_end (c_dec rfl (fun c2 => ?_) (fun c2 => ?_)))))))))))
   ·
    refine c_reg (l_mv rfl (l_as rfl (l_as rfl (l_end ?_))))
    exact c_ret (ret2 (v := Vi 0) (v' := Vi e2_) rfl rfl rfl (fun w' hw => ⟨0, e2_, rfl, .inl ⟨((tot_step hk2 hkI hkx hf6_2 h0 h1).1 c2).1, ((tot_step hk2 hkI hkx hf6_2 h0 h1).1 c2).2, rfl⟩, hw.drop⟩))
   ·
    refine c_skipC (c_last (l_add rfl rfl (wi64 (by omega)) rfl (l_mv rfl ?_)))
    exact l_nil (fun w' hw => ⟨k + 1, n1_, ⟨rfl, rfl, rfl, rfl, trivial⟩, ⟨by omega, (tot_step hk2 hkI hkx hf6_2 h0 h1).2 c2⟩, hw, (by omega)⟩)
  ·
   refine c_exitC rfl (c_reg (l_mv rfl (l_as rfl (l_as rfl (l_end ?_)))))
   exact c_ret (ret2 (v := Vi n) (v' := Vi 0) rfl rfl rfl (fun w' hw => ⟨n, 0, rfl, .inr ⟨by have := hkI.2.2 (by omega); omega, rfl, hkI.2.2 (by omega)⟩, hw.drop⟩))
theorem set_s {S : List Nat} (b bm lm : Nat) (now : Int) (cnt : Nat) (kb : List (ByteArray × Int)) (kl : List (Nat × LeaD)) (k : ByteArray) (a : Int) (w : World) (hin : Own w S [Res.row b 111 [.map (some bm), .map (some lm), Vi now, Vn cnt], Res.mp Value.string ekI bm kb, Res.mp ekU leaV lm kl] w) : Rets Tryz.prog 62 #[.pointer (some ⟨b, 0, none⟩), .string k, Vi a] w fun u_ w' => ∃ (n e : Int) (kb' : List (ByteArray × Int)), u_ = .tuple #[Vi n, Vi e] ∧ e = setEK k a kb ∧ kb' = setK k a kb ∧ (n = if e = 0 then lentK k kl else 0) ∧ Own w S [Res.row b 111 [.map (some bm), .map (some lm), Vi now, Vn cnt], Res.mp Value.string ekI bm kb', Res.mp ekU leaV lm kl] w' := by
  refine fn_own Tryz.func62 rfl Tryz.ntmps62 hin ?_
  refine c_reg (l_as rfl (l_as rfl (l_end (c_seq (c_reg (l_mv rfl (l_nilp (by kernel_rfl) rfl rfl rfl (l_mv rfl (l_on rfl rfl (l_mv rfl (l_on rfl rfl (a_call rfl rfl (fun w' hw => ?_)))))))))))))
  refine (keyed_s k w').mono ?_
  rintro _ w1 ⟨rfl, hO⟩
  refine (?_ : CL _ _ _ _ _ _ (Own w S [Res.row b 111 [.map (some bm), .map (some lm), Vi now, Vn cnt], Res.mp Value.string ekI bm kb, Res.mp ekU leaV lm kl])) w1 (hw.frame0 hO)
  refine l_on rfl rfl (l_notp (q := keyOk k) rfl rfl (l_pickF rfl rfl (l_mv rfl (l_bor (q := ¬ (keyOk k)) 2 7 [19, 18] (a < 0) rfl rfl rfl rfl rfl rfl trivial rfl (fun h1_7 => ?_) (fun g1_10 => ?_)))))
  ·
   refine l_on rfl (gF h1_7) (l_mv rfl (l_on rfl (gF h1_7) (l_lss rfl rfl rfl ?_)))
   exact l_gp rfl (fun _ hw => hw)
  refine l_end (c_dec rfl (fun c1 => ?_) (fun c1 => ?_))
  ·
   refine c_reg (l_as rfl (l_as rfl (l_end ?_)))
   exact c_ret (ret2 (v := Vi 0) (v' := Vi 1) rfl rfl rfl (fun w' hw => ⟨0, 1, kb, rfl, (setEK_arg c1).symm, setK_err (setEK_arg c1) (by decide), rfl, hw⟩))
  ·
   refine c_skipC (c_reg (l_mv rfl (l_nck rfl rfl (a_fld (o := 0) rfl rfl (a_ldo 0 (v := .map (some bm)) rfl rfl rfl rfl (l_mv rfl (l_lk2A (k := k) (kv := kb) (zv := 0) keyB mapB zeroB rfl rfl (fun w' hw' => Own.holds hw' 1 _ rfl) rfl (l_mv rfl (l_ext (vs := [Vi ((getA k kb).getD 0), .bool ((getA k kb).isSome)]) rfl rfl rfl (l_ext (vs := [Vi ((getA k kb).getD 0), .bool ((getA k kb).isSome)]) rfl rfl rfl (l_as rfl (l_as rfl ?_))))))))))))
   refine l_end (c_seq (c_block (c_reg (l_mv rfl (l_eq rfl rfl rfl (l_as rfl (l_end (c_dec rfl (fun c2 => ?_) (fun c2 => ?_)))))))))
   ·
    refine c_last (l_mv rfl (l_nck rfl rfl (a_fld (o := 0) rfl rfl (a_ldo 0 (v := .map (some bm)) rfl rfl rfl rfl (l_mv rfl (l_mdelA0 1 (k := k) keyB mapB rfl rfl rfl (l_end (c_reg (l_mv rfl (l_mv rfl (a_call rfl rfl (fun w' hw => (lent_s b bm lm now cnt kl k w' (hw.give [0, 2] rfl (by decide))).mono ?_))))))))))))
    rintro _ w1 ⟨n1_, rfl, hf9_2, hO⟩
    refine (?_ : CL _ _ _ _ _ _ (Own w S [Res.mp Value.string ekI bm (delA k kb), Res.row b 111 [.map (some bm), .map (some lm), Vi now, Vn cnt], Res.mp ekU leaV lm kl])) w1 (hw.frameL [0, 2] rfl hO)
    refine l_as rfl (l_as rfl (l_end ?_))
    exact c_ret (ret2 (v := Vi n1_) (v' := Vi 0) rfl rfl rfl (fun w' hw => ⟨n1_, 0, delA k kb, rfl, (setEK_del c1 c2).symm, setK_del (setEK_del c1 c2) c2, hf9_2, hw.sel [1, 0, 2] rfl (by decide)⟩))
   ·
    refine c_reg (l_mv rfl (l_not (b := (getA k kb).isSome) rfl rfl (l_mv rfl (l_band (q := (!((getA k kb).isSome)) = true) 6 2 [53, 52, 51, 50, 49, 48] (64 ≤ ((kb.length : Nat) : Int)) rfl rfl (bool_dec _) rfl rfl rfl trivial rfl (fun h7_2 => ?_) (fun g7_9 => ?_)))))
    ·
     refine l_on rfl (bT h7_2) (l_mv rfl (l_on rfl (bT h7_2) (l_nck rfl rfl (l_on rfl (bT h7_2) (a_fld (o := 0) rfl rfl (l_on rfl (bT h7_2) (a_ldo 0 (v := .map (some bm)) rfl rfl rfl rfl (l_on rfl (bT h7_2) (l_mlenA Value.string ekI (kv := kb) mapB rfl (fun w' hw' => Own.holds hw' 1 _ rfl) rfl (l_on rfl (bT h7_2) (l_geq rfl rfl rfl ?_)))))))))))
     exact l_gp rfl (fun _ hw => hw)
    refine l_as rfl (l_end (c_dec rfl (fun c3 => ?_) (fun c3 => ?_)))
    ·
     refine c_reg (l_as rfl (l_as rfl (l_end ?_)))
     exact c_ret (ret2 (v := Vi 0) (v' := Vi 7) rfl rfl rfl (fun w' hw => ⟨0, 7, kb, rfl, (setEK_full c1 c2 c3).symm, setK_err (setEK_full c1 c2 c3) (by decide), rfl, hw⟩))
    ·
     refine c_last (l_mv rfl (l_nck rfl rfl (a_fld (o := 0) rfl rfl (a_ldo 0 (v := .map (some bm)) rfl rfl rfl rfl (l_mv rfl (l_mv rfl (l_mupA 1 (k := k) (v := a) keyB mapB rfl rfl rfl rfl (l_end (c_reg (l_mv rfl (l_mv rfl (a_call rfl rfl (fun w' hw => ?_)))))))))))))
     refine (lent_s b bm lm now cnt kl k w' (hw.give [0, 2] rfl (by decide))).mono ?_
     rintro _ w1 ⟨n2_, rfl, hf9_2, hO⟩
     refine (?_ : CL _ _ _ _ _ _ (Own w S [Res.mp Value.string ekI bm (putA k a kb), Res.row b 111 [.map (some bm), .map (some lm), Vi now, Vn cnt], Res.mp ekU leaV lm kl])) w1 (hw.frameL [0, 2] rfl hO)
     refine l_as rfl (l_as rfl (l_end ?_))
     exact c_ret (ret2 (v := Vi n2_) (v' := Vi 0) rfl rfl rfl (fun w' hw => ⟨n2_, 0, putA k a kb, rfl, (setEK_put c1 c3).symm, setK_put (setEK_put c1 c3) c2, hf9_2, hw.sel [1, 0, 2] rfl (by decide)⟩))
theorem tlent_s {S : List Nat} (b bm lm : Nat) (now : Int) (cnt : Nat) (kb : List (ByteArray × Int)) (kl : List (Nat × LeaD)) (k : ByteArray) (w : World) (hin : Own w S [Res.row b 111 [.map (some bm), .map (some lm), Vi now, Vn cnt], Res.mp Value.string ekI bm kb, Res.mp ekU leaV lm kl] w) : Rets Tryz.prog 71 #[.pointer (some ⟨b, 0, none⟩), .string k] w fun u_ w' => ∃ (n : Int), u_ = .tuple #[Vi ((getA k kb).getD 0), Vi n] ∧ n = lentK k kl ∧ Own w S [Res.row b 111 [.map (some bm), .map (some lm), Vi now, Vn cnt], Res.mp Value.string ekI bm kb, Res.mp ekU leaV lm kl] w' := by
  refine fn_own Tryz.func71 rfl Tryz.ntmps71 hin ?_
  refine c_reg (l_as rfl (l_as rfl (l_end (c_seq (c_reg (l_mv rfl (l_nilp (by kernel_rfl) rfl rfl rfl (l_end (c_no rfl (c_skipC (c_seq (c_heldo [1] rfl (by decide) (by kernel_rfl) (fun w' hw hS => ?_)))))))))))))
  refine g_tk 0 rfl (v_mv) hS (g_tk 1 rfl (v_nck rfl) hS (g_tk 2 rfl (w_fld (o := 0) rfl) hS (g_tk 4 rfl (v_mv) hS (g_tk 6 rfl (v_mv) hS (g_tk 7 rfl (v_mv) hS (g_pick2 3 8 ?_ ?_))))))
  ·
   refine pk_of 3 rfl hw (a_ldo 0 (v := .map (some bm)) rfl rfl rfl rfl (l_nilH [1] rfl (by decide) (fun w' hw hS => g_tk 5 rfl (v_lkA (k := k) (kv := kb) (zv := 0) keyB mapB zeroB rfl rfl (fun w' hw' => Own.holds hw' 0 _ rfl)) hS (g_one 8 rfl hw (a_call rfl rfl (fun w' hw => (lent_s b bm lm now cnt kl k w' (hw.give [0, 2] rfl (by decide))).mono ?_))))))
   rintro _ w1 ⟨n1_, rfl, hf3_8, hO⟩
   refine (?_ : CL _ _ _ _ _ _ (Own w S [Res.mp Value.string ekI bm kb, Res.row b 111 [.map (some bm), .map (some lm), Vi now, Vn cnt], Res.mp ekU leaV lm kl])) w1 (hw.frameL [0, 2] rfl hO)
   refine l_nilH [0] rfl (by decide) (fun w' hw hS => g_tk 9 rfl (v_as) hS (g_tk 10 rfl (v_as) hS (g_done ?_)))
   refine (?_ : C _ _ _ _ _ _ _ (Own w S [Res.mp Value.string ekI bm kb, Res.row b 111 [.map (some bm), .map (some lm), Vi now, Vn cnt], Res.mp ekU leaV lm kl])) _ hw
   exact c_ret (ret2 (v := Vi ((getA k kb).getD 0)) (v' := Vi n1_) rfl rfl rfl (fun w' hw => ⟨n1_, rfl, hf3_8, hw.sel [1, 0, 2] rfl (by decide)⟩))
  ·
   refine pk_of 8 rfl hw (a_call rfl rfl (fun w' hw => (lent_s b bm lm now cnt kl k w' (hw.give [0, 2] rfl (by decide))).mono ?_))
   rintro _ w1 ⟨n2_, rfl, hf3_8, hO⟩
   refine (?_ : CL _ _ _ _ _ _ (Own w S [Res.mp Value.string ekI bm kb, Res.row b 111 [.map (some bm), .map (some lm), Vi now, Vn cnt], Res.mp ekU leaV lm kl])) w1 (hw.frameL [0, 2] rfl hO)
   refine l_nilH [0] rfl (by decide) (fun w' hw hS => g_one 3 rfl hw (a_ldo 1 (v := .map (some bm)) rfl rfl rfl rfl (l_nilH [0] rfl (by decide) (fun w' hw hS => g_tk 5 rfl (v_lkA (k := k) (kv := kb) (zv := 0) keyB mapB zeroB rfl rfl (fun w' hw' => Own.holds hw' 0 _ rfl)) hS (g_tk 9 rfl (v_as) hS (g_tk 10 rfl (v_as) hS (g_done ?_)))))))
   refine (?_ : C _ _ _ _ _ _ _ (Own w S [Res.mp Value.string ekI bm kb, Res.row b 111 [.map (some bm), .map (some lm), Vi now, Vn cnt], Res.mp ekU leaV lm kl])) _ hw
   exact c_ret (ret2 (v := Vi ((getA k kb).getD 0)) (v' := Vi n2_) rfl rfl rfl (fun w' hw => ⟨n2_, rfl, hf3_8, hw.sel [1, 0, 2] rfl (by decide)⟩))
theorem new_s (w : World) : Rets Tryz.prog 20 #[] w fun u_ w' => ∃ (b bm lm : Nat), u_ = .pointer (some ⟨b, 0, none⟩) ∧ Own w [] [Res.row b 111 [.map (some bm), .map (some lm), Vi 0, Vn 0], Res.mp Value.string ekI bm ([] : List (ByteArray × Int)), Res.mp ekU leaV lm ([] : List (Nat × LeaD))] w' := by
  refine fn_own Tryz.func20 rfl Tryz.ntmps20 (Own.start w) ?_
  refine c_reg (l_as rfl (l_end (c_reg (l_mkmapA (α := Int) Value.string ekI rfl rfl (fun m1 => l_mkmapA (α := LeaD) ekU leaV rfl rfl (fun m2 => l_bld (cs := [.map (some m1), .map (some m2), Vi 0, Vn 0]) (z := [.map none, .map none, Vi 0, Vn 0]) (pl := [(0, 1), (1, 1), (2, 1), (3, 1)]) (by kernel_rfl) (by kernel_rfl) rfl (l_box rfl rfl (fun b4 => l_as rfl (l_end ?_)))))))))
  exact c_ret (ret1 (v := .pointer (some ⟨b4, 0, none⟩)) rfl rfl (fun w' hw => ⟨b4, m1, m2, rfl, hw.sel [2, 0, 1] rfl (by decide)⟩))
theorem lend_s {S : List Nat} (b bm lm : Nat) (now : Int) (cnt : Nat) (kb : List (ByteArray × Int)) (kl : List (Nat × LeaD)) (s : Nat) (k : ByteArray) (a sp : Int) (w : World) (hlen : 0 ≤ lentK k kl ∧ lentK k kl ≤ 9223372036854775807) (ha : isI a) (ht : 0 ≤ now ∧ now ≤ 2305843009213693952) (hc : cnt ≤ 1000000000) (hin : Own w S [Res.row b 111 [.map (some bm), .map (some lm), Vi now, Vn cnt], Res.mp Value.string ekI bm kb, Res.mp ekU leaV lm kl] w) : Rets Tryz.prog 64 #[.pointer (some ⟨b, 0, none⟩), Vn s, .string k, Vi a, Vi sp] w fun u_ w' => ∃ (x : LeaD) (e : Int) (cnt' : Nat) (kl' : List (Nat × LeaD)), u_ = .tuple #[.agg (LeaD.cells x).toArray, Vi e] ∧ e = lendEK s k a sp kb kl ∧ x = lendX e cnt s k a (now + sp) ∧ cnt' = lendC e cnt ∧ kl' = lendK e x kl ∧ Own w S [Res.row b 111 [.map (some bm), .map (some lm), Vi now, Vn cnt'], Res.mp Value.string ekI bm kb, Res.mp ekU leaV lm kl'] w' := by
  refine fn_own Tryz.func64 rfl Tryz.ntmps64 hin ?_
  refine c_reg (l_new (v := .agg #[Vn 0, Vn 0, .string (⟨#[]⟩ : ByteArray), Vi 0, Vi 0]) (by kernel_rfl) rfl (fun b10 => l_as rfl (l_end (c_seq (c_reg (l_mv rfl (l_nilp (by kernel_rfl) rfl rfl rfl (l_mv rfl (l_on rfl rfl (l_mv rfl (l_on rfl rfl (l_eq rfl rfl rfl ?_))))))))))))
  refine l_pickF rfl rfl (l_mv rfl (l_bor (q := ((s : Nat) : Int) = ((0 : Nat) : Int)) 3 6 [26, 25, 24] (¬ (keyOk k)) rfl rfl rfl rfl rfl rfl trivial rfl (fun h1_6 => ?_) (fun g1_10 => ?_)))
  ·
   refine l_on rfl (gF h1_6) (l_mv rfl (l_on rfl (gF h1_6) (a_call rfl rfl (fun w' hw => (keyed_s k w').mono ?_))))
   rintro _ w1 ⟨rfl, hO⟩
   refine (?_ : CL _ _ _ _ _ _ (Own w S [Res.row b 111 [.map (some bm), .map (some lm), Vi now, Vn cnt], Res.mp Value.string ekI bm kb, Res.mp ekU leaV lm kl, Res.row b10 76 [Vn 0, Vn 0, .string (⟨#[]⟩ : ByteArray), Vi 0, Vi 0]])) w1 (hw.frame0 hO)
   refine l_on rfl (gF h1_6) (l_notp (q := keyOk k) rfl rfl ?_)
   exact l_gp rfl (fun _ hw => hw)
  refine l_mv rfl (l_bor (q := (((s : Nat) : Int) = ((0 : Nat) : Int)) ∨ (¬ (keyOk k))) 2 11 [30, 29] (a < 1) rfl rfl rfl rfl rfl rfl trivial rfl (fun h1_11 => ?_) (fun g1_14 => ?_))
  ·
   refine l_on rfl (gF h1_11) (l_mv rfl (l_on rfl (gF h1_11) (l_lss rfl rfl rfl ?_)))
   exact l_gp rfl (fun _ hw => hw)
  refine l_mv rfl (l_bor (q := ((((s : Nat) : Int) = ((0 : Nat) : Int)) ∨ (¬ (keyOk k))) ∨ (a < 1)) 3 15 [35, 34, 33] (¬ (spanOk sp)) rfl rfl rfl rfl rfl rfl trivial rfl (fun h1_15 => ?_) (fun g1_19 => ?_))
  ·
   refine l_on rfl (gF h1_15) (l_mv rfl (l_on rfl (gF h1_15) (a_call rfl rfl (fun w' hw => (term_s sp w').mono ?_))))
   rintro _ w1 ⟨rfl, hO⟩
   refine (?_ : CL _ _ _ _ _ _ (Own w S [Res.row b 111 [.map (some bm), .map (some lm), Vi now, Vn cnt], Res.mp Value.string ekI bm kb, Res.mp ekU leaV lm kl, Res.row b10 76 [Vn 0, Vn 0, .string (⟨#[]⟩ : ByteArray), Vi 0, Vi 0]])) w1 (hw.frame0 hO)
   refine l_on rfl (gF h1_15) (l_notp (q := spanOk sp) rfl rfl ?_)
   exact l_gp rfl (fun _ hw => hw)
  refine l_end (c_dec rfl (fun c1 => ?_) (fun c1 => ?_))
  ·
   refine c_reg (l_bld (cs := [Vn 0, Vn 0, .string (⟨#[]⟩ : ByteArray), Vi 0, Vi 0]) (z := [Vn 0, Vn 0, .string (⟨#[]⟩ : ByteArray), Vi 0, Vi 0]) (pl := [(0, 1), (1, 1), (2, 1), (3, 1), (4, 1)]) (by kernel_rfl) (by kernel_rfl) rfl (a_stN 3 rfl rfl rfl (allc rfl) rfl (l_as rfl (l_end ?_))))
   exact c_ret (retc2 (cs := [Vn 0, Vn 0, .string (⟨#[]⟩ : ByteArray), Vi 0, Vi 0]) (v := Vi 1) rfl rfl rfl (by kernel_rfl) (Own.rowCells (i := 3) rfl) (fun w' hw => ⟨LeaD.zero, 1, cnt, kl, rfl, (lend1 (larg.1 c1)).symm, rfl, rfl, rfl, hw.sel [0, 1, 2] rfl (by decide)⟩))
  ·
   have hla : ¬ lendArg s k a sp := fun q => c1 (larg.2 q)
   have hsp : spanOk sp := Decidable.by_contra fun q => c1 (.inr q)
   have ha1 : 1 ≤ a := Int.not_lt.1 fun q => c1 (.inl (.inr q))
   unfold spanOk at hsp
   refine c_skipC (c_reg (l_mv rfl (l_nck rfl rfl (a_fld (o := 0) rfl rfl (a_ldo 0 (v := .map (some bm)) rfl rfl rfl rfl (l_mv rfl (l_lk2A (k := k) (kv := kb) (zv := 0) keyB mapB zeroB rfl rfl (fun w' hw' => Own.holds hw' 1 _ rfl) rfl (l_mv rfl (l_ext (vs := [Vi ((getA k kb).getD 0), .bool ((getA k kb).isSome)]) rfl rfl rfl (l_ext (vs := [Vi ((getA k kb).getD 0), .bool ((getA k kb).isSome)]) rfl rfl rfl (l_as rfl (l_as rfl ?_))))))))))))
   refine l_end (c_seq (c_reg (l_mv rfl (l_not (b := (getA k kb).isSome) rfl rfl (l_end (c_if rfl (fun c2 => ?_) (fun c2 => ?_)))))))
   ·
    refine c_reg (l_bld (cs := [Vn 0, Vn 0, .string (⟨#[]⟩ : ByteArray), Vi 0, Vi 0]) (z := [Vn 0, Vn 0, .string (⟨#[]⟩ : ByteArray), Vi 0, Vi 0]) (pl := [(0, 1), (1, 1), (2, 1), (3, 1), (4, 1)]) (by kernel_rfl) (by kernel_rfl) rfl (a_stN 3 rfl rfl rfl (allc rfl) rfl (l_as rfl (l_end ?_))))
    exact c_ret (retc2 (cs := [Vn 0, Vn 0, .string (⟨#[]⟩ : ByteArray), Vi 0, Vi 0]) (v := Vi 8) rfl rfl rfl (by kernel_rfl) (Own.rowCells (i := 3) rfl) (fun w' hw => ⟨LeaD.zero, 8, cnt, kl, rfl, (lend8 hla c2).symm, rfl, rfl, rfl, hw.sel [0, 1, 2] rfl (by decide)⟩))
   ·
    have hc2 : ¬ (!(getA k kb).isSome) = true := by rw [c2]; decide
    refine c_skipC (c_reg (l_mv rfl (l_mv rfl (a_call rfl rfl (fun w' hw => (lent_s b bm lm now cnt kl k w' (hw.give [0, 2] rfl (by decide))).mono ?_)))))
    rintro _ w1 ⟨n1_, rfl, hf6_2, hO⟩
    refine (?_ : CL _ _ _ _ _ _ (Own w S [Res.mp Value.string ekI bm kb, Res.row b10 76 [Vn 0, Vn 0, .string (⟨#[]⟩ : ByteArray), Vi 0, Vi 0], Res.row b 111 [.map (some bm), .map (some lm), Vi now, Vn cnt], Res.mp ekU leaV lm kl])) w1 (hw.frameL [0, 2] rfl hO)
    refine l_mv rfl (l_bsl (e := 2) (sz := 1) (vs := [Vi n1_, Vi a]) (by kernel_rfl) rfl rfl (by simp [Value.cells]) (by decide) rfl (fun b55 => a_call rfl rfl (fun w' hw => (total_s (.slice (some ⟨b55, 0, none⟩) 2 2) [n1_, a] w' rfl (by show 0 ≤ n1_ ∧ n1_ ≤ _; rw [hf6_2]; exact hlen) (by show _ ≤ a ∧ a ≤ _; exact ⟨by omega, ha.2⟩) (hw.rdVec0 4 rfl)).mono ?_)))
    rintro _ w1 ⟨n2_, e3_, rfl, hf6_5, hO⟩
    have hsum := lend_sum hf6_5 hf6_2
    refine (?_ : CL _ _ _ _ _ _ (Own w S [Res.mp Value.string ekI bm kb, Res.row b10 76 [Vn 0, Vn 0, .string (⟨#[]⟩ : ByteArray), Vi 0, Vi 0], Res.row b 111 [.map (some bm), .map (some lm), Vi now, Vn cnt], Res.mp ekU leaV lm kl, Res.vec 2 1 (.slice (some ⟨b55, 0, none⟩) 2 2) [n1_, a].length ([n1_, a].flatMap I1)])) w1 (hw.frame0 hO)
    refine l_mv rfl (l_ext (vs := [Vi n2_, Vi e3_]) rfl rfl rfl (l_ext (vs := [Vi n2_, Vi e3_]) rfl rfl rfl (l_as rfl (l_as rfl (l_end (c_seq (c_block (c_reg (l_mv rfl (l_ne rfl rfl rfl (l_as rfl (l_end ?_))))))))))))
    refine c_dec rfl (fun c3 => ?_) (fun c3 => ?_)
    ·
     refine c_reg (l_bld (cs := [Vn 0, Vn 0, .string (⟨#[]⟩ : ByteArray), Vi 0, Vi 0]) (z := [Vn 0, Vn 0, .string (⟨#[]⟩ : ByteArray), Vi 0, Vi 0]) (pl := [(0, 1), (1, 1), (2, 1), (3, 1), (4, 1)]) (by kernel_rfl) (by kernel_rfl) rfl (l_mv rfl (a_stN 1 rfl rfl rfl (allc rfl) rfl (l_as rfl (l_end ?_)))))
     exact c_ret (retc2 (cs := [Vn 0, Vn 0, .string (⟨#[]⟩ : ByteArray), Vi 0, Vi 0]) (v := Vi e3_) rfl rfl rfl (by kernel_rfl) (Own.rowCells (i := 1) rfl) (fun w' hw => ⟨LeaD.zero, e3_, cnt, kl, rfl, (by rw [(lend_of3 hsum c3).2]; exact (lend3 hla hc2 (lend_of3 hsum c3).1).symm), (by rw [(lend_of3 hsum c3).2]; rfl), (by rw [(lend_of3 hsum c3).2]; rfl), (by rw [(lend_of3 hsum c3).2]; rfl), hw.sel [2, 0, 3] rfl (by decide)⟩))
    ·
     refine c_reg (l_mv rfl (l_mv rfl (l_gtr rfl rfl rfl (l_as rfl (l_end (c_dec rfl (fun c4 => ?_) (fun c4 => ?_)))))))
     ·
      refine c_reg (l_bld (cs := [Vn 0, Vn 0, .string (⟨#[]⟩ : ByteArray), Vi 0, Vi 0]) (z := [Vn 0, Vn 0, .string (⟨#[]⟩ : ByteArray), Vi 0, Vi 0]) (pl := [(0, 1), (1, 1), (2, 1), (3, 1), (4, 1)]) (by kernel_rfl) (by kernel_rfl) rfl (a_stN 1 rfl rfl rfl (allc rfl) rfl (l_as rfl (l_end ?_))))
      exact c_ret (retc2 (cs := [Vn 0, Vn 0, .string (⟨#[]⟩ : ByteArray), Vi 0, Vi 0]) (v := Vi 16) rfl rfl rfl (by kernel_rfl) (Own.rowCells (i := 1) rfl) (fun w' hw => ⟨LeaD.zero, 16, cnt, kl, rfl, (lend16 hla hc2 (lend_of0 hsum c3).1 (by rw [← (lend_of0 hsum c3).2]; exact c4)).symm, rfl, rfl, rfl, hw.sel [2, 0, 3] rfl (by decide)⟩))
     ·
      refine c_reg (l_mv rfl (l_nck rfl rfl (a_fld (o := 1) rfl rfl (a_ldo 2 (v := .map (some lm)) rfl rfl rfl rfl (l_mlenA ekU leaV (kv := kl) mapL rfl (fun w' hw' => Own.holds hw' 3 _ rfl) rfl (l_geq rfl rfl rfl (l_as rfl (l_end (c_dec rfl (fun c5 => ?_) (fun c5 => ?_))))))))))
      ·
       refine c_reg (l_bld (cs := [Vn 0, Vn 0, .string (⟨#[]⟩ : ByteArray), Vi 0, Vi 0]) (z := [Vn 0, Vn 0, .string (⟨#[]⟩ : ByteArray), Vi 0, Vi 0]) (pl := [(0, 1), (1, 1), (2, 1), (3, 1), (4, 1)]) (by kernel_rfl) (by kernel_rfl) rfl (a_stN 1 rfl rfl rfl (allc rfl) rfl (l_as rfl (l_end ?_))))
       exact c_ret (retc2 (cs := [Vn 0, Vn 0, .string (⟨#[]⟩ : ByteArray), Vi 0, Vi 0]) (v := Vi 7) rfl rfl rfl (by kernel_rfl) (Own.rowCells (i := 1) rfl) (fun w' hw => ⟨LeaD.zero, 7, cnt, kl, rfl, (lend7 hla hc2 (lend_of0 hsum c3).1 (by rw [← (lend_of0 hsum c3).2]; exact c4) c5).symm, rfl, rfl, rfl, hw.sel [2, 0, 3] rfl (by decide)⟩))
      ·
       refine c_skipC (c_reg (l_mv rfl (l_nck rfl rfl (a_fld (o := 3) rfl rfl (a_ldo 2 (v := Vn cnt) rfl rfl rfl rfl (l_add rfl rfl (wu64 (by omega)) rfl (l_nck rfl rfl (a_fld (o := 3) rfl rfl (a_st (cs := [.map (some bm), .map (some lm), Vi now, Vn cnt]) 2 rfl rfl rfl rfl rfl (l_end (c_seq (c_heldo [0, 1, 2, 3, 4] rfl (by decide) (by kernel_rfl) (fun w' hw hS => ?_)))))))))))))
       refine g_tk 0 rfl (v_mv) hS (g_tk 1 rfl (v_nck rfl) hS (g_tk 2 rfl (w_fld (o := 3) rfl) hS (g_tk 3 rfl (w_ldo 2 (v := Vn (cnt + 1)) rfl rfl rfl) hS (g_tk 4 rfl (v_mv) hS (g_tk 5 rfl (v_mv) hS (g_tk 6 rfl (v_mv) hS (g_tk 7 rfl (v_mv) hS (g_tk 8 rfl (v_nck rfl) hS (g_tk 9 rfl (w_fld (o := 2) rfl) hS (g_tk 10 rfl (w_ldo 2 (v := Vi now) rfl rfl rfl) hS (g_tk 11 rfl (v_mv) hS (g_tk 12 rfl (v_add rfl rfl (wi64 (by omega))) hS ?_))))))))))))
       refine g_tk 13 rfl (v_bld (cs := [Vn (cnt + 1), Vn s, .string k, Vi a, Vi (now + sp)]) (z := [Vn 0, Vn 0, .string (⟨#[]⟩ : ByteArray), Vi 0, Vi 0]) (pl := [(0, 1), (1, 1), (2, 1), (3, 1), (4, 1)]) (by kernel_rfl) (by kernel_rfl)) hS (g_one 14 rfl hw (l_new (v := .agg #[Vn 0, Vn 0, .string (⟨#[]⟩ : ByteArray), Vi 0, Vi 0]) (by kernel_rfl) rfl (fun b16 => l_nilH [0, 1, 2, 3, 4] rfl (by decide) (fun w' hw hS => g_one 15 rfl hw (a_stN 5 rfl rfl rfl (allc rfl) rfl (l_nilH [0, 1, 2, 3, 4] rfl (by decide) (fun w' hw hS => g_done ?_)))))))
       refine (?_ : C _ _ _ _ _ _ _ (Own w S [Res.mp Value.string ekI bm kb, Res.row b10 76 [Vn 0, Vn 0, .string (⟨#[]⟩ : ByteArray), Vi 0, Vi 0], Res.row b 111 [.map (some bm), .map (some lm), Vi now, Vn (cnt + 1)], Res.mp ekU leaV lm kl, Res.vec 2 1 (.slice (some ⟨b55, 0, none⟩) 2 2) [n1_, a].length ([n1_, a].flatMap I1), Res.row b16 76 [Vn (cnt + 1), Vn s, .string k, Vi a, Vi (now + sp)]])) _ hw
       refine c_seq (c_heldo [0, 1, 2, 4, 5] rfl (by decide) (by kernel_rfl) (fun w' hw hS => g_tk 0 rfl (v_mv) hS (g_tk 1 rfl (v_nck rfl) hS (g_tk 2 rfl (w_fld (o := 1) rfl) hS (g_tk 3 rfl (w_ldo 2 (v := .map (some lm)) rfl rfl rfl) hS (g_tk 4 rfl (w_fld (o := 0) rfl) hS (g_tk 5 rfl (w_ldo 4 (v := Vn (cnt + 1)) rfl rfl rfl) hS (g_tk 6 rfl (w_ldr (cs := [Vn (cnt + 1), Vn s, .string k, Vi a, Vi (now + sp)]) 4 rfl rfl) hS (g_one 7 rfl hw (l_mupA 3 (k := cnt + 1) (v := ({ id := cnt + 1, session := s, key := k, amount := a, until_ := now + sp } : LeaD)) keyU mapL rfl rfl rfl rfl (l_nilH [0, 1, 2, 4, 5] rfl (by decide) (fun w' hw hS => g_done ?_))))))))))))
       refine (?_ : C _ _ _ _ _ _ _ (Own w S [Res.mp Value.string ekI bm kb, Res.row b10 76 [Vn 0, Vn 0, .string (⟨#[]⟩ : ByteArray), Vi 0, Vi 0], Res.row b 111 [.map (some bm), .map (some lm), Vi now, Vn (cnt + 1)], Res.mp ekU leaV lm (putA (cnt + 1) ({ id := cnt + 1, session := s, key := k, amount := a, until_ := now + sp } : LeaD) kl), Res.vec 2 1 (.slice (some ⟨b55, 0, none⟩) 2 2) [n1_, a].length ([n1_, a].flatMap I1), Res.row b16 76 [Vn (cnt + 1), Vn s, .string k, Vi a, Vi (now + sp)]])) _ hw
       refine c_reg (a_ldr (cs := [Vn (cnt + 1), Vn s, .string k, Vi a, Vi (now + sp)]) 5 rfl rfl rfl (a_stN 1 rfl rfl rfl (allc rfl) rfl (l_as rfl (l_end ?_))))
       exact c_ret (retc2 (cs := [Vn (cnt + 1), Vn s, .string k, Vi a, Vi (now + sp)]) (v := Vi 0) rfl rfl rfl (by kernel_rfl) (Own.rowCells (i := 1) rfl) (fun w' hw => ⟨⟨cnt + 1, s, k, a, now + sp⟩, 0, cnt + 1, putA (cnt + 1) ⟨cnt + 1, s, k, a, now + sp⟩ kl, rfl, (lend0 hla hc2 (lend_of0 hsum c3).1 (by rw [← (lend_of0 hsum c3).2]; exact c4) c5).symm, rfl, rfl, rfl, hw.sel [2, 0, 3] rfl (by decide)⟩))
theorem renew_s {S : List Nat} (b bm lm : Nat) (now : Int) (cnt : Nat) (kb : List (ByteArray × Int)) (kl : List (Nat × LeaD)) (s i : Nat) (sp : Int) (w : World) (ht : 0 ≤ now ∧ now ≤ 2305843009213693952) (hin : Own w S [Res.row b 111 [.map (some bm), .map (some lm), Vi now, Vn cnt], Res.mp Value.string ekI bm kb, Res.mp ekU leaV lm kl] w) : Rets Tryz.prog 65 #[.pointer (some ⟨b, 0, none⟩), Vn s, Vn i, Vi sp] w fun u_ w' => ∃ (x : LeaD) (e : Int) (kl' : List (Nat × LeaD)), u_ = .tuple #[.agg (LeaD.cells x).toArray, Vi e] ∧ RenewK now kb kl s i sp x e kl' ∧ Own w S [Res.row b 111 [.map (some bm), .map (some lm), Vi now, Vn cnt], Res.mp Value.string ekI bm kb, Res.mp ekU leaV lm kl'] w' := by
  refine fn_own Tryz.func65 rfl Tryz.ntmps65 hin ?_
  refine c_reg (l_new (v := .agg #[Vn 0, Vn 0, .string (⟨#[]⟩ : ByteArray), Vi 0, Vi 0]) (by kernel_rfl) rfl (fun b8 => l_as rfl (l_end (c_seq (c_reg (l_mv rfl (l_nilp (by kernel_rfl) rfl rfl rfl (l_mv rfl (l_on rfl rfl (l_mv rfl (l_on rfl rfl (a_call rfl rfl (fun w' hw => ?_)))))))))))))
  refine (term_s sp w').mono ?_
  rintro _ w1 ⟨rfl, hO⟩
  refine (?_ : CL _ _ _ _ _ _ (Own w S [Res.row b 111 [.map (some bm), .map (some lm), Vi now, Vn cnt], Res.mp Value.string ekI bm kb, Res.mp ekU leaV lm kl, Res.row b8 76 [Vn 0, Vn 0, .string (⟨#[]⟩ : ByteArray), Vi 0, Vi 0]])) w1 (hw.frame0 hO)
  refine l_on rfl rfl (l_notp (q := spanOk sp) rfl rfl (l_pickF rfl rfl (l_end (c_dec rfl (fun c1 => ?_) (fun c1 => ?_)))))
  ·
   refine c_reg (l_bld (cs := [Vn 0, Vn 0, .string (⟨#[]⟩ : ByteArray), Vi 0, Vi 0]) (z := [Vn 0, Vn 0, .string (⟨#[]⟩ : ByteArray), Vi 0, Vi 0]) (pl := [(0, 1), (1, 1), (2, 1), (3, 1), (4, 1)]) (by kernel_rfl) (by kernel_rfl) rfl (a_stN 3 rfl rfl rfl (allc rfl) rfl (l_as rfl (l_end ?_))))
   exact c_ret (retc2 (cs := [Vn 0, Vn 0, .string (⟨#[]⟩ : ByteArray), Vi 0, Vi 0]) (v := Vi 1) rfl rfl rfl (by kernel_rfl) (Own.rowCells (i := 3) rfl) (fun w' hw => ⟨LeaD.zero, 1, kl, rfl, .inl ⟨c1, rfl, rfl, rfl⟩, hw.sel [0, 1, 2] rfl (by decide)⟩))
  ·
   have hsp : 1 ≤ sp ∧ sp ≤ 1099511627776 := Decidable.not_not.1 c1
   refine c_skipC (c_reg (l_mv rfl (l_mv rfl (l_mv rfl (a_call rfl rfl (fun w' hw => (find_s b bm lm now cnt kl s i w' (hw.give [0, 2] rfl (by decide))).mono ?_))))))
   rintro _ w1 ⟨x1_, e2_, rfl, hf3_3, hO⟩
   refine (?_ : CL _ _ _ _ _ _ (Own w S [Res.mp Value.string ekI bm kb, Res.row b8 76 [Vn 0, Vn 0, .string (⟨#[]⟩ : ByteArray), Vi 0, Vi 0], Res.row b 111 [.map (some bm), .map (some lm), Vi now, Vn cnt], Res.mp ekU leaV lm kl])) w1 (hw.frameL [0, 2] rfl hO)
   refine l_mv rfl (l_ext (vs := [.agg (LeaD.cells x1_).toArray, Vi e2_]) rfl rfl rfl (l_ext (vs := [.agg (LeaD.cells x1_).toArray, Vi e2_]) rfl rfl rfl (l_new (v := .agg #[Vn 0, Vn 0, .string (⟨#[]⟩ : ByteArray), Vi 0, Vi 0]) (by kernel_rfl) rfl (fun b10 => a_stN 4 rfl rfl rfl (allc rfl) rfl (l_as rfl (l_end (c_seq (c_block (c_reg (l_mv rfl (l_ne rfl rfl rfl (l_as rfl ?_))))))))))))
   refine l_end (c_dec rfl (fun c2 => ?_) (fun c2 => ?_))
   ·
    refine c_reg (l_bld (cs := [Vn 0, Vn 0, .string (⟨#[]⟩ : ByteArray), Vi 0, Vi 0]) (z := [Vn 0, Vn 0, .string (⟨#[]⟩ : ByteArray), Vi 0, Vi 0]) (pl := [(0, 1), (1, 1), (2, 1), (3, 1), (4, 1)]) (by kernel_rfl) (by kernel_rfl) rfl (l_mv rfl (a_stN 1 rfl rfl rfl (allc rfl) rfl (l_as rfl (l_end ?_)))))
    exact c_ret (retc2 (cs := [Vn 0, Vn 0, .string (⟨#[]⟩ : ByteArray), Vi 0, Vi 0]) (v := Vi e2_) rfl rfl rfl (by kernel_rfl) (Own.rowCells (i := 1) rfl) (fun w' hw => ⟨LeaD.zero, e2_, kl, rfl, renew_err c1 hf3_3 c2, hw.sel [2, 0, 3] rfl (by decide)⟩))
   ·
    refine c_seq (c_heldo [0, 1, 4] rfl (by decide) (by kernel_rfl) (fun w' hw hS => g_tk 0 rfl (v_mv) hS (g_tk 1 rfl (w_fld (o := 2) rfl) hS (g_tk 2 rfl (w_ldo 2 (v := .string x1_.key) rfl rfl rfl) hS (g_tk 4 rfl (v_mv) hS (g_tk 5 rfl (v_nck rfl) hS (g_tk 6 rfl (w_fld (o := 0) rfl) hS (g_tk 8 rfl (w_fld (o := 2) rfl) hS (g_tk 9 rfl (w_ldo 2 (v := .string x1_.key) rfl rfl rfl) hS (g_pick2 3 7 ?_ ?_))))))))))
    ·
     refine pk_of 3 rfl hw (a_call rfl rfl (fun w' hw => (lent_s b bm lm now cnt kl x1_.key w' (hw.give [2, 3] rfl (by decide))).mono ?_))
     rintro _ w1 ⟨n3_, rfl, hf6_3, hO⟩
     refine (?_ : CL _ _ _ _ _ _ (Own w S [Res.mp Value.string ekI bm kb, Res.row b8 76 [Vn 0, Vn 0, .string (⟨#[]⟩ : ByteArray), Vi 0, Vi 0], Res.row b10 76 (LeaD.cells x1_), Res.row b 111 [.map (some bm), .map (some lm), Vi now, Vn cnt], Res.mp ekU leaV lm kl])) w1 (hw.frameL [2, 3] rfl hO)
     refine l_nilH [0, 1, 2] rfl (by decide) (fun w' hw hS => g_one 7 rfl hw (a_ldo 3 (v := .map (some bm)) rfl rfl rfl rfl (l_nilH [0, 1, 2] rfl (by decide) (fun w' hw hS => g_tk 10 rfl (v_lkA (k := x1_.key) (kv := kb) (zv := 0) keyB mapB zeroB rfl rfl (fun w' hw' => Own.holds hw' 0 _ rfl)) hS (g_tk 11 rfl (v_gtr rfl rfl) hS (g_tk 12 rfl (v_as) hS (g_done ?_)))))))
     refine (?_ : C _ _ _ _ _ _ _ (Own w S [Res.mp Value.string ekI bm kb, Res.row b8 76 [Vn 0, Vn 0, .string (⟨#[]⟩ : ByteArray), Vi 0, Vi 0], Res.row b10 76 (LeaD.cells x1_), Res.row b 111 [.map (some bm), .map (some lm), Vi now, Vn cnt], Res.mp ekU leaV lm kl])) _ hw
     refine c_dec rfl (fun c3 => ?_) (fun c3 => ?_)
     ·
      refine c_reg (l_bld (cs := [Vn 0, Vn 0, .string (⟨#[]⟩ : ByteArray), Vi 0, Vi 0]) (z := [Vn 0, Vn 0, .string (⟨#[]⟩ : ByteArray), Vi 0, Vi 0]) (pl := [(0, 1), (1, 1), (2, 1), (3, 1), (4, 1)]) (by kernel_rfl) (by kernel_rfl) rfl (a_stN 1 rfl rfl rfl (allc rfl) rfl (l_as rfl (l_end ?_))))
      exact c_ret (retc2 (cs := [Vn 0, Vn 0, .string (⟨#[]⟩ : ByteArray), Vi 0, Vi 0]) (v := Vi 16) rfl rfl rfl (by kernel_rfl) (Own.rowCells (i := 1) rfl) (fun w' hw => ⟨LeaD.zero, 16, kl, rfl, renew_16 c1 hf3_3 c2 hf6_3 c3, hw.sel [3, 0, 4] rfl (by decide)⟩))
     ·
      refine c_skipC (c_seq (c_heldo [0, 1, 3, 4] rfl (by decide) (by kernel_rfl) (fun w' hw hS => g_tk 0 rfl (w_fld (o := 4) rfl) hS (g_tk 2 rfl (v_mv) hS (g_tk 3 rfl (v_nck rfl) hS (g_tk 4 rfl (w_fld (o := 2) rfl) hS (g_tk 5 rfl (w_ldo 2 (v := Vi now) rfl rfl rfl) hS (g_tk 6 rfl (v_mv) hS (g_tk 7 rfl (v_add rfl rfl (wi64 (by omega))) hS (g_one 1 rfl hw (a_ldo 2 (v := Vi x1_.until_) rfl rfl rfl rfl (l_nilH [0, 1, 3, 4] rfl (by decide) (fun w' hw hS => ?_)))))))))))))
      refine g_tk 8 rfl (v_max (c := max x1_.until_ (now + sp)) rfl rfl (maxi _ _)) hS (g_tk 9 rfl (w_fld (o := 4) rfl) hS (g_one 10 rfl hw (a_st (cs := (LeaD.cells x1_)) 2 rfl rfl rfl rfl rfl (l_nilH [0, 1, 3, 4] rfl (by decide) (fun w' hw hS => g_done ?_)))))
      refine (?_ : C _ _ _ _ _ _ _ (Own w S [Res.mp Value.string ekI bm kb, Res.row b8 76 [Vn 0, Vn 0, .string (⟨#[]⟩ : ByteArray), Vi 0, Vi 0], Res.row b10 76 [Vn x1_.id, Vn x1_.session, .string x1_.key, Vi x1_.amount, Vi (max x1_.until_ (now + sp))], Res.row b 111 [.map (some bm), .map (some lm), Vi now, Vn cnt], Res.mp ekU leaV lm kl])) _ hw
      refine c_seq (c_heldo [0, 1, 2, 3] rfl (by decide) (by kernel_rfl) (fun w' hw hS => g_tk 0 rfl (v_mv) hS (g_tk 1 rfl (v_nck rfl) hS (g_tk 2 rfl (w_fld (o := 1) rfl) hS (g_tk 3 rfl (w_ldo 3 (v := .map (some lm)) rfl rfl rfl) hS (g_tk 4 rfl (v_mv) hS (g_tk 5 rfl (w_ldr 2 rfl rfl) hS (g_one 6 rfl hw (l_mupA 4 (k := i) (v := ({ x1_ with until_ := max x1_.until_ (now + sp) } : LeaD)) keyU mapL rfl rfl rfl rfl (l_nilH [0, 1, 2, 3] rfl (by decide) (fun w' hw hS => g_done ?_)))))))))))
      refine (?_ : C _ _ _ _ _ _ _ (Own w S [Res.mp Value.string ekI bm kb, Res.row b8 76 [Vn 0, Vn 0, .string (⟨#[]⟩ : ByteArray), Vi 0, Vi 0], Res.row b10 76 [Vn x1_.id, Vn x1_.session, .string x1_.key, Vi x1_.amount, Vi (max x1_.until_ (now + sp))], Res.row b 111 [.map (some bm), .map (some lm), Vi now, Vn cnt], Res.mp ekU leaV lm (putA i ({ x1_ with until_ := max x1_.until_ (now + sp) } : LeaD) kl)])) _ hw
      refine c_reg (a_ldr 2 rfl rfl rfl (a_stN 1 rfl rfl rfl (allc rfl) rfl (l_as rfl (l_end ?_))))
      exact c_ret (retc2 (cs := [Vn x1_.id, Vn x1_.session, .string x1_.key, Vi x1_.amount, Vi (max x1_.until_ (now + sp))]) (v := Vi 0) rfl rfl rfl (by kernel_rfl) (Own.rowCells (i := 1) rfl) (fun w' hw => ⟨longer x1_ (now + sp), 0, putA i (longer x1_ (now + sp)) kl, rfl, renew_0 c1 hf3_3 c2 hf6_3 c3, hw.sel [3, 0, 4] rfl (by decide)⟩))
    ·
     refine pk_of 7 rfl hw (a_ldo 2 (v := .map (some bm)) rfl rfl rfl rfl (l_nilH [0, 1, 4] rfl (by decide) (fun w' hw hS => g_tk 10 rfl (v_lkA (k := x1_.key) (kv := kb) (zv := 0) keyB mapB zeroB rfl rfl (fun w' hw' => Own.holds hw' 0 _ rfl)) hS (g_one 3 rfl hw (a_call rfl rfl (fun w' hw => (lent_s b bm lm now cnt kl x1_.key w' (hw.give [2, 3] rfl (by decide))).mono ?_))))))
     rintro _ w1 ⟨n4_, rfl, hf6_3, hO⟩
     refine (?_ : CL _ _ _ _ _ _ (Own w S [Res.mp Value.string ekI bm kb, Res.row b8 76 [Vn 0, Vn 0, .string (⟨#[]⟩ : ByteArray), Vi 0, Vi 0], Res.row b10 76 (LeaD.cells x1_), Res.row b 111 [.map (some bm), .map (some lm), Vi now, Vn cnt], Res.mp ekU leaV lm kl])) w1 (hw.frameL [2, 3] rfl hO)
     refine l_nilH [0, 1, 2] rfl (by decide) (fun w' hw hS => g_tk 11 rfl (v_gtr rfl rfl) hS (g_tk 12 rfl (v_as) hS (g_done ?_)))
     refine (?_ : C _ _ _ _ _ _ _ (Own w S [Res.mp Value.string ekI bm kb, Res.row b8 76 [Vn 0, Vn 0, .string (⟨#[]⟩ : ByteArray), Vi 0, Vi 0], Res.row b10 76 (LeaD.cells x1_), Res.row b 111 [.map (some bm), .map (some lm), Vi now, Vn cnt], Res.mp ekU leaV lm kl])) _ hw
     refine c_dec rfl (fun c4 => ?_) (fun c4 => ?_)
     ·
      refine c_reg (l_bld (cs := [Vn 0, Vn 0, .string (⟨#[]⟩ : ByteArray), Vi 0, Vi 0]) (z := [Vn 0, Vn 0, .string (⟨#[]⟩ : ByteArray), Vi 0, Vi 0]) (pl := [(0, 1), (1, 1), (2, 1), (3, 1), (4, 1)]) (by kernel_rfl) (by kernel_rfl) rfl (a_stN 1 rfl rfl rfl (allc rfl) rfl (l_as rfl (l_end ?_))))
      exact c_ret (retc2 (cs := [Vn 0, Vn 0, .string (⟨#[]⟩ : ByteArray), Vi 0, Vi 0]) (v := Vi 16) rfl rfl rfl (by kernel_rfl) (Own.rowCells (i := 1) rfl) (fun w' hw => ⟨LeaD.zero, 16, kl, rfl, renew_16 c1 hf3_3 c2 hf6_3 c4, hw.sel [3, 0, 4] rfl (by decide)⟩))
     ·
      refine c_skipC (c_seq (c_heldo [0, 1, 3, 4] rfl (by decide) (by kernel_rfl) (fun w' hw hS => g_tk 0 rfl (w_fld (o := 4) rfl) hS (g_tk 2 rfl (v_mv) hS (g_tk 3 rfl (v_nck rfl) hS (g_tk 4 rfl (w_fld (o := 2) rfl) hS (g_tk 5 rfl (w_ldo 2 (v := Vi now) rfl rfl rfl) hS (g_tk 6 rfl (v_mv) hS (g_tk 7 rfl (v_add rfl rfl (wi64 (by omega))) hS (g_one 1 rfl hw (a_ldo 2 (v := Vi x1_.until_) rfl rfl rfl rfl (l_nilH [0, 1, 3, 4] rfl (by decide) (fun w' hw hS => ?_)))))))))))))
      refine g_tk 8 rfl (v_max (c := max x1_.until_ (now + sp)) rfl rfl (maxi _ _)) hS (g_tk 9 rfl (w_fld (o := 4) rfl) hS (g_one 10 rfl hw (a_st (cs := (LeaD.cells x1_)) 2 rfl rfl rfl rfl rfl (l_nilH [0, 1, 3, 4] rfl (by decide) (fun w' hw hS => g_done ?_)))))
      refine (?_ : C _ _ _ _ _ _ _ (Own w S [Res.mp Value.string ekI bm kb, Res.row b8 76 [Vn 0, Vn 0, .string (⟨#[]⟩ : ByteArray), Vi 0, Vi 0], Res.row b10 76 [Vn x1_.id, Vn x1_.session, .string x1_.key, Vi x1_.amount, Vi (max x1_.until_ (now + sp))], Res.row b 111 [.map (some bm), .map (some lm), Vi now, Vn cnt], Res.mp ekU leaV lm kl])) _ hw
      refine c_seq (c_heldo [0, 1, 2, 3] rfl (by decide) (by kernel_rfl) (fun w' hw hS => g_tk 0 rfl (v_mv) hS (g_tk 1 rfl (v_nck rfl) hS (g_tk 2 rfl (w_fld (o := 1) rfl) hS (g_tk 3 rfl (w_ldo 3 (v := .map (some lm)) rfl rfl rfl) hS (g_tk 4 rfl (v_mv) hS (g_tk 5 rfl (w_ldr 2 rfl rfl) hS (g_one 6 rfl hw (l_mupA 4 (k := i) (v := ({ x1_ with until_ := max x1_.until_ (now + sp) } : LeaD)) keyU mapL rfl rfl rfl rfl (l_nilH [0, 1, 2, 3] rfl (by decide) (fun w' hw hS => g_done ?_)))))))))))
      refine (?_ : C _ _ _ _ _ _ _ (Own w S [Res.mp Value.string ekI bm kb, Res.row b8 76 [Vn 0, Vn 0, .string (⟨#[]⟩ : ByteArray), Vi 0, Vi 0], Res.row b10 76 [Vn x1_.id, Vn x1_.session, .string x1_.key, Vi x1_.amount, Vi (max x1_.until_ (now + sp))], Res.row b 111 [.map (some bm), .map (some lm), Vi now, Vn cnt], Res.mp ekU leaV lm (putA i ({ x1_ with until_ := max x1_.until_ (now + sp) } : LeaD) kl)])) _ hw
      refine c_reg (a_ldr 2 rfl rfl rfl (a_stN 1 rfl rfl rfl (allc rfl) rfl (l_as rfl (l_end ?_))))
      exact c_ret (retc2 (cs := [Vn x1_.id, Vn x1_.session, .string x1_.key, Vi x1_.amount, Vi (max x1_.until_ (now + sp))]) (v := Vi 0) rfl rfl rfl (by kernel_rfl) (Own.rowCells (i := 1) rfl) (fun w' hw => ⟨longer x1_ (now + sp), 0, putA i (longer x1_ (now + sp)) kl, rfl, renew_0 c1 hf3_3 c2 hf6_3 c4, hw.sel [3, 0, 4] rfl (by decide)⟩))
theorem back_s {S : List Nat} (b bm lm : Nat) (now : Int) (cnt : Nat) (kl : List (Nat × LeaD)) (s i : Nat) (w : World) (hin : Own w S [Res.row b 111 [.map (some bm), .map (some lm), Vi now, Vn cnt], Res.mp ekU leaV lm kl] w) : Rets Tryz.prog 66 #[.pointer (some ⟨b, 0, none⟩), Vn s, Vn i] w fun u_ w' => ∃ (x : LeaD) (e : Int) (kl' : List (Nat × LeaD)), u_ = .tuple #[.agg (LeaD.cells x).toArray, Vi e] ∧ BackK kl s i x e kl' ∧ Own w S [Res.row b 111 [.map (some bm), .map (some lm), Vi now, Vn cnt], Res.mp ekU leaV lm kl'] w' := by
  refine fn_own Tryz.func66 rfl Tryz.ntmps66 hin ?_
  refine c_reg (l_new (v := .agg #[Vn 0, Vn 0, .string (⟨#[]⟩ : ByteArray), Vi 0, Vi 0]) (by kernel_rfl) rfl (fun b6 => l_as rfl (l_end (c_seq (c_reg (l_mv rfl (l_nilp (by kernel_rfl) rfl rfl rfl (l_end (c_no rfl (c_skipC (c_reg (l_mv rfl ?_))))))))))))
  refine l_mv rfl (l_mv rfl (a_call rfl rfl (fun w' hw => (find_s b bm lm now cnt kl s i w' (hw.give [0, 1] rfl (by decide))).mono ?_)))
  rintro _ w1 ⟨x1_, e2_, rfl, hf3_3, hO⟩
  refine (?_ : CL _ _ _ _ _ _ (Own w S [Res.row b6 76 [Vn 0, Vn 0, .string (⟨#[]⟩ : ByteArray), Vi 0, Vi 0], Res.row b 111 [.map (some bm), .map (some lm), Vi now, Vn cnt], Res.mp ekU leaV lm kl])) w1 (hw.frameL [0, 1] rfl hO)
  refine l_mv rfl (l_ext (vs := [.agg (LeaD.cells x1_).toArray, Vi e2_]) rfl rfl rfl (l_ext (vs := [.agg (LeaD.cells x1_).toArray, Vi e2_]) rfl rfl rfl (l_new (v := .agg #[Vn 0, Vn 0, .string (⟨#[]⟩ : ByteArray), Vi 0, Vi 0]) (by kernel_rfl) rfl (fun b8 => a_stN 3 rfl rfl rfl (allc rfl) rfl (l_as rfl (l_end (c_seq (c_reg (l_mv rfl (l_eq rfl rfl rfl (l_end (c_dec rfl (fun c2 => ?_) (fun c2 => ?_)))))))))))))
  ·
   refine c_last (l_mv rfl (l_nck rfl rfl (a_fld (o := 1) rfl rfl (a_ldo 1 (v := .map (some lm)) rfl rfl rfl rfl (l_mv rfl (l_mdelA0 2 (k := i) keyU mapL rfl rfl rfl (l_end (c_reg (a_ldr (cs := (LeaD.cells x1_)) 3 rfl rfl rfl (l_mv rfl (a_stN 0 rfl rfl rfl (allc rfl) rfl (l_as rfl ?_))))))))))))
   refine l_end ?_
   exact c_ret (retc2 (cs := (LeaD.cells x1_)) (v := Vi e2_) rfl rfl rfl (by kernel_rfl) (Own.rowCells (i := 0) rfl) (fun w' hw => ⟨x1_, e2_, delA i kl, rfl, back_yes hf3_3 c2, hw.sel [1, 2] rfl (by decide)⟩))
  ·
   refine c_skipC (c_reg (a_ldr (cs := (LeaD.cells x1_)) 3 rfl rfl rfl (l_mv rfl (a_stN 0 rfl rfl rfl (allc rfl) rfl (l_as rfl (l_end ?_))))))
   exact c_ret (retc2 (cs := (LeaD.cells x1_)) (v := Vi e2_) rfl rfl rfl (by kernel_rfl) (Own.rowCells (i := 0) rfl) (fun w' hw => ⟨x1_, e2_, kl, rfl, back_no hf3_3 c2, hw.sel [1, 2] rfl (by decide)⟩))
theorem pass_s {S : List Nat} (b bm lm : Nat) (now : Int) (cnt : Nat) (kl : List (Nat × LeaD)) (n : Int) (w : World) (ht : 0 ≤ now ∧ now ≤ 2305843009213693952) (hn : isI n) (hk : KNd kl) (hl : kl.length ≤ 128) (hin : Own w S [Res.row b 111 [.map (some bm), .map (some lm), Vi now, Vn cnt], Res.mp ekU leaV lm kl] w) : Rets Tryz.prog 55 #[.pointer (some ⟨b, 0, none⟩), Vi n] w fun u_ w' => ∃ (gv : Value) (gs : List Nat) (e now' : Int) (kl' : List (Nat × LeaD)), u_ = .tuple #[gv, Vi e] ∧ e = passE now n ∧ now' = passN now n ∧ kl' = passLK now n kl ∧ gs.Perm (passGK now n kl) ∧ gs.Pairwise (fun x y => x ≤ y) ∧ Own w S [Res.row b 111 [.map (some bm), .map (some lm), Vi now', Vn cnt], Res.mp ekU leaV lm kl', Res.vec 28 1 gv gs.length (gs.flatMap U1)] w' := by
  refine fn_own Tryz.func55 rfl Tryz.ntmps55 hin ?_
  refine c_reg (l_as rfl (l_as rfl (l_end (c_seq (c_block (c_reg (l_mv rfl (l_nilp (by kernel_rfl) rfl rfl rfl (l_mv rfl (l_on rfl rfl (l_mv rfl (l_on rfl rfl ?_))))))))))))
  refine l_lss rfl rfl rfl (l_pickF rfl rfl (l_mv rfl (l_bor (q := n < 0) 2 6 [17, 16] (1099511627776 < n) rfl rfl rfl rfl rfl rfl trivial rfl (fun h1_6 => ?_) (fun g1_9 => ?_))))
  ·
   refine l_on rfl (gF h1_6) (l_mv rfl (l_on rfl (gF h1_6) (l_gtr rfl rfl rfl ?_)))
   exact l_gp rfl (fun _ hw => hw)
  refine l_as rfl (l_end (c_dec rfl (fun c1 => ?_) (fun c1 => ?_)))
  ·
   refine c_reg (l_as rfl (l_as rfl (l_end ?_)))
   exact c_ret (ret2 (v := .slice none 0 0) (v' := Vi 1) rfl rfl rfl (fun w' hw => ⟨.slice none 0 0, [], 1, now, kl, rfl, (pass_err (kl := kl) (passE1 c1) (by decide)).1, (pass_err (kl := kl) (passE1 c1) (by decide)).2.1, (pass_err (kl := kl) (passE1 c1) (by decide)).2.2.1, (pass_err (kl := kl) (passE1 c1) (by decide)).2.2.2, List.Pairwise.nil, (own_nil hw 28 1)⟩))
  ·
   refine c_reg (l_mv rfl (l_nck rfl rfl (a_fld (o := 2) rfl rfl (a_ldo 0 (v := Vi now) rfl rfl rfl rfl (l_mv rfl (l_sub rfl rfl (wi64 (by omega)) rfl (l_gtr rfl rfl rfl (l_as rfl (l_end (c_dec rfl (fun c2 => ?_) (fun c2 => ?_)))))))))))
   ·
    refine c_reg (l_as rfl (l_as rfl (l_end ?_)))
    exact c_ret (ret2 (v := .slice none 0 0) (v' := Vi 3) rfl rfl rfl (fun w' hw => ⟨.slice none 0 0, [], 3, now, kl, rfl, (pass_err (kl := kl) (passE3 c1 c2) (by decide)).1, (pass_err (kl := kl) (passE3 c1 c2) (by decide)).2.1, (pass_err (kl := kl) (passE3 c1 c2) (by decide)).2.2.1, (pass_err (kl := kl) (passE3 c1 c2) (by decide)).2.2.2, List.Pairwise.nil, (own_nil hw 28 1)⟩))
   ·
    refine c_skipC (c_reg (l_mv rfl (l_nck rfl rfl (a_fld (o := 2) rfl rfl (a_ldo 0 (v := Vi now) rfl rfl rfl rfl (l_mv rfl (l_add rfl rfl (wi64 (by omega)) rfl (l_nck rfl rfl (a_fld (o := 2) rfl rfl (a_st (cs := [.map (some bm), .map (some lm), Vi now, Vn cnt]) 0 rfl rfl rfl rfl rfl (l_end (c_seq ?_))))))))))))
    refine c_reg (l_mv rfl (l_nck rfl rfl (a_fld (o := 1) rfl rfl (a_ldo 0 (v := .map (some lm)) rfl rfl rfl rfl (l_rangeA 1 mapL rfl rfl rfl (fun r39 => l_end (c_block ?_)))))))
    refine c_loop4 (fun (todo kv : List (Nat × LeaD)) (gv : Value) (gs : List Nat) => [(0, .pointer (some ⟨b, 0, none⟩)), (4, gv), (39, .pointer (some ⟨r39, 0, none⟩))]) (fun (todo kv : List (Nat × LeaD)) (gv : Value) (gs : List Nat) => PassI (now + n) kl todo kv gs) (fun (todo kv : List (Nat × LeaD)) (gv : Value) (gs : List Nat) => [Res.row b 111 [.map (some bm), .map (some lm), Vi (now + n), Vn cnt], Res.rg ekU leaV lm r39 kv todo, Res.vec 28 1 gv gs.length (gs.flatMap U1)]) (fun (todo kv : List (Nat × LeaD)) (gv : Value) (gs : List Nat) => todo.length) (fun w' hw => ⟨kl, kl, .slice none 0 0, [], ⟨rfl, rfl, rfl, trivial⟩, PassI.start _ _, (own_nil hw 28 1)⟩) (fun todo kv gv gs g hΦ => ?_)
    have hgl : gs.length ≤ 128 := Nat.le_trans (PassI.len hΦ) hl
    refine c_reg (l_nextA 1 rfl rfl rfl (fun hq0 => ?_) (fun q1 k v q2 hq1 => ?_))
    ·
     refine l_ext (vs := [.bool false]) rfl rfl rfl (l_end (c_seq (c_no rfl (c_exitC rfl (c_reg (l_mv rfl (a_call rfl rfl (fun w' hw => (sort_u gv gs w' (by first | assumption | omega | (simp <;> omega) | (constructor <;> (first | omega | (simp only [LenOk]; omega) | (simp <;> omega)))) (hw.give [2] rfl (by decide))).mono ?_))))))))
     rintro _ w1 ⟨l'1_, rfl, hf12_1, hf12_1_1, hO⟩
     refine (?_ : CL _ _ _ _ _ _ (Own w S [Res.row b 111 [.map (some bm), .map (some lm), Vi (now + n), Vn cnt], Res.rg ekU leaV lm r39 kv todo, Res.vec 28 1 gv l'1_.length (l'1_.flatMap U1)])) w1 (hw.frameL [2] rfl hO)
     refine l_end (c_reg (l_mv rfl (l_as rfl (l_as rfl (l_end ?_)))))
     exact c_ret (ret2 (v := gv) (v' := Vi 0) rfl rfl rfl (fun w' hw => ⟨gv, l'1_, 0, now + n, kv, rfl, (hΦ.done hq0 hk (passE0 c1 c2)).1, (hΦ.done hq0 hk (passE0 c1 c2)).2.1, (hΦ.done hq0 hk (passE0 c1 c2)).2.2.1, hf12_1.trans (hΦ.done hq0 hk (passE0 c1 c2)).2.2.2, hf12_1_1.imp (fun q => ole_nat.1 q), (Own.rgEnd 1 hw rfl)⟩))
    ·
     refine l_ext (vs := [.bool true, Vn k, .agg (LeaD.cells v).toArray]) rfl rfl rfl (l_end (c_seq (c_yes rfl (c_skipC (c_block (c_reg (l_entryA 1 rfl rfl rfl (l_ext (vs := [Vn k, .agg (LeaD.cells v).toArray]) rfl rfl rfl (l_ext (vs := [Vn k, .agg (LeaD.cells v).toArray]) rfl rfl rfl (l_new (v := .agg #[Vn 0, Vn 0, .string (⟨#[]⟩ : ByteArray), Vi 0, Vi 0]) (by kernel_rfl) rfl (fun b7 => l_as rfl (a_stN 3 rfl rfl rfl (allc rfl) rfl ?_))))))))))))
     refine l_end (c_quiets (by kernel_rfl) (by kernel_rfl) (q_val rfl (w_fld (o := 4) rfl) (q_val rfl (w_ldo 3 (v := Vi v.until_) rfl rfl rfl) (q_val rfl (v_mv) (q_val rfl (v_nck rfl) (q_val rfl (w_fld (o := 2) rfl) (q_val rfl (w_ldo 0 (v := Vi (now + n)) rfl rfl rfl) (q_val rfl (v_leq rfl rfl) (q_end (c_dec rfl (fun c5 => ?_) (fun c5 => ?_)))))))))))
     ·
      refine c_reg (l_mv rfl (l_mv rfl (l_bsl (e := 28) (sz := 1) (vs := [Vn k]) (by kernel_rfl) rfl rfl (by simp [Value.cells]) (by decide) rfl (fun b54 => l_appF (g := U1) (sz := 1) (by' := 8) (fun _ => rfl) (l := gs) (l' := [k]) (by simp [cell1, U1]) 2 (by kernel_rfl) rfl rfl rfl (fun w' hw' => Vec.sl (Own.holds hw' 4 _ rfl)) (by first | omega | (simp; omega)) (by decide) rfl (fun v55 => l_as rfl (l_end (c_last (l_mv rfl (l_nck rfl rfl (a_fld (o := 1) rfl rfl (a_ldo 0 (v := .map (some lm)) rfl rfl rfl rfl (l_mv rfl ?_))))))))))))
      refine l_rdelA0 1 (k := k) keyU mapL rfl rfl rfl (hΦ.out hk hq1) ?_
      exact l_nil (fun w' hw => ⟨q1 ++ q2, delA k kv, v55, gs ++ [k], ⟨rfl, rfl, rfl, trivial⟩, hΦ.yes hk hq1 c5, hw.sel [0, 1, 2] rfl (by decide), (by rw [hq1, List.length_append, List.length_append, List.length_cons]; omega)⟩)
     ·
      exact c_skip (fun w' hw => ⟨q1 ++ q2, kv, gv, gs, ⟨rfl, rfl, rfl, trivial⟩, hΦ.no hq1 c5, hw.sel [0, 1, 2] rfl (by decide), (by rw [hq1, List.length_append, List.length_append, List.length_cons]; omega)⟩)
end Go.Proofs.YthincafbmpialaaGreat
