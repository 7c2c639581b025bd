/-
  THE LAW QuotaLoads.
-/
import Derived.Test.YtgkeoenbcjfeaaaQuotaLd
set_option linter.unusedVariables false
set_option maxRecDepth 10000
namespace Go.Proofs.Ytgkeoenbcjfeaaa
open Go Go.Sc Go.Proofs

instance (bs : List BudD) : Decidable (BudsOk bs) := inferInstanceAs (Decidable ((bs.map (·.key)).Pairwise sLt ∧ ∀ b ∈ bs, keyOk b.key ∧ 1 ≤ b.amount))
theorem lentS_none {k : ByteArray} : ∀ {ls : List LeaD}, (∀ l ∈ ls, ¬ l.key = k) → lentS k ls = 0
  | [], _ => rfl
  | l :: ls, h => by
    have := lentS_none (fun x hx => h x (List.mem_cons_of_mem _ hx))
    simp only [lentS, if_neg (h l List.mem_cons_self), this]; rfl
theorem lents_of {ls : List LeaD} (h : ∀ l ∈ ls, lentS l.key ls ≤ 9223372036854775807) (k : ByteArray) : lentS k ls ≤ 9223372036854775807 := by
  by_cases c : ∃ l ∈ ls, l.key = k
  · obtain ⟨l, hl, rfl⟩ := c; exact h l hl
  · have := lentS_none (k := k) (ls := ls) fun l hl e => c ⟨l, hl, e⟩
    omega
instance (now : Int) (last : Nat) (ls : List LeaD) : Decidable (LeasOk now last ls) :=
  decidable_of_iff ((ls.map (·.id)).Pairwise (· < ·) ∧ (∀ l ∈ ls, LeaOk now last l) ∧ ∀ l ∈ ls, lentS l.key ls ≤ 9223372036854775807) ⟨fun h => ⟨h.1, h.2.1, lents_of h.2.2⟩, fun h => ⟨h.1, h.2.1, fun l _ => h.2.2 l.key⟩⟩
instance (now : Int) (last : Nat) (bs : List BudD) (ls : List LeaD) : Decidable (LoadOk now last bs ls) :=
  decidable_of_iff ((0 ≤ now ∧ now ≤ 2305843009213693952) ∧ bs.length ≤ 64 ∧ ls.length ≤ 128 ∧ BudsOk bs ∧ LeasOk now last ls) ⟨fun h => ⟨h.1, h.2.1, h.2.2.1, h.2.2.2.1, h.2.2.2.2⟩, fun h => ⟨h.time, h.blen, h.llen, h.buds, h.leas⟩⟩
theorem noBud {now : Int} {last i : Nat} {bs : List BudD} {ls : List LeaD} (hi : i < bs.length) (h : ¬ keyOk (nth bs i).key ∨ (nth bs i).amount < 1 ∨ (0 < i ∧ sLe (nth bs i).key (nth bs (i - 1)).key)) : ¬ LoadOk now last bs ls := fun q => bud_bad q.buds hi h
theorem noLea {now : Int} {last i : Nat} {bs : List BudD} {ls : List LeaD} (hi : i < ls.length) (h : ¬ LeaOk now last (nth ls i)) : ¬ LoadOk now last bs ls := fun q => lea_bad q.leas hi (.inr (.inl h))
theorem noUp {now : Int} {last i : Nat} {bs : List BudD} {ls : List LeaD} (hi : i < ls.length) (h0 : 0 < i) (h : (nth ls i).id ≤ (nth ls (i - 1)).id) : ¬ LoadOk now last bs ls := fun q => lea_bad q.leas hi (.inr (.inr ⟨h0, h⟩))
theorem noSum {now : Int} {last i : Nat} {bs : List BudD} {ls : List LeaD} (hi : i < ls.length) (h : 9223372036854775807 < lentS (nth ls i).key (ls.take i) + (nth ls i).amount) : ¬ LoadOk now last bs ls := fun q => lea_bad q.leas hi (.inl h)
theorem no_pv {P Q : Prop} (h : ¬ P) : P → Q := fun p => absurd p h
theorem tot_badR {n a m e : Int} (h : (9223372036854775807 < n + a ∧ e = 3 ∧ m = 0) ∨ (n + a ≤ 9223372036854775807 ∧ e = 0 ∧ m = n + a)) (he : e ≠ 0) : 9223372036854775807 < n + a := by omega
theorem tot_okR {n a m e : Int} (h : (9223372036854775807 < n + a ∧ e = 3 ∧ m = 0) ∨ (n + a ≤ 9223372036854775807 ∧ e = 0 ∧ m = n + a)) (he : ¬ e ≠ 0) : n + a ≤ 9223372036854775807 := by omega
theorem tableOf_s (now : Int) (last : Nat) (bv : Value) (bs : List BudD) (lv : Value) (ls : List LeaD) (w : World) (hbl : bs.length ≤ 2000000) (hll : ls.length ≤ 2000000) (hbi : ∀ b ∈ bs, isI b.amount) (hli : ∀ l ∈ ls, isI l.amount) (hbv : Rd w [] (Res.sl bv bs.length (bs.flatMap BudD.cells))) (hlv : Rd w [] (Res.sl lv ls.length (ls.flatMap LeaD.cells))) : Rets Try.prog 26 #[.int .i64 now, .int .u64 (last : Nat), bv, lv] w fun u_ w' => ∃ (pv : Value) (wb : Nat) (bv' lv' : Value) (bs' : List BudD) (ls' : List LeaD), u_ = .tuple #[pv, .bool (decide (LoadOk now last bs ls))] ∧ (LoadOk now last bs ls → pv = .pointer (some ⟨wb, 0, none⟩) ∧ bs' = bs ∧ ls' = ls) ∧ Own w [] [Res.row wb 30 [.int .i64 now, .int .u64 (last : Nat), bv', lv'], Res.vec 68 2 bv' bs'.length (bs'.flatMap BudD.cells), Res.vec 37 5 lv' ls'.length (ls'.flatMap LeaD.cells)] w' := by
  refine fn_enter (args := [.int .i64 now, .int .u64 (last : Nat), bv, lv]) Try.func26 rfl Try.ntmps26 rfl (Own.start w) ?_
  refine c_reg ?_
  refine l_as rfl ?_
  refine l_as rfl ?_
  refine l_end ?_
  refine c_reg ?_
  refine l_mv rfl ?_
  refine l_mv rfl ?_
  refine l_bld (cs := [.int .i64 now, .int .u64 (last : Nat), .slice none 0 0, .slice none 0 0]) (z := [.int .i64 0, .int .u64 (0 : Nat), .slice none 0 0, .slice none 0 0]) (pl := [(0, 1), (1, 1), (2, 1), (3, 1)]) (by kernel_rfl) (by kernel_rfl) rfl ?_
  refine l_box rfl rfl (fun b21 => ?_)
  refine l_as rfl ?_
  refine l_end ?_
  refine c_seq ?_
  refine c_reg ?_
  refine l_mv rfl ?_
  refine l_lss rfl rfl rfl ?_
  refine l_mv rfl ?_
  refine l_bor (q := now < 0) 2 2 [26, 25] (2305843009213693952 < now) rfl rfl rfl rfl rfl rfl trivial rfl (fun h2_2 => ?_) (fun g2_5 => ?_)
  ·
    refine l_on rfl (gF h2_2) ?_
    refine l_mv rfl ?_
    refine l_on rfl (gF h2_2) ?_
    refine l_gtr rfl rfl rfl ?_
    exact l_nil (fun w' hw => ⟨(by repeat (first | exact Out.refl _ _ | refine Out.upd rfl ?_ | refine Out.msk rfl ?_)), rfl, hw⟩)
  refine l_mv rfl ?_
  refine l_bor (q := (now < 0) ∨ (2305843009213693952 < now)) 3 6 [31, 30, 29] (64 < ((bs.length : Nat) : Int)) rfl rfl rfl rfl rfl rfl trivial rfl (fun h2_6 => ?_) (fun g2_10 => ?_)
  ·
    refine l_on rfl (gF h2_6) ?_
    refine l_mv rfl ?_
    refine l_on rfl (gF h2_6) ?_
    refine l_lenS (len := bs.length) (cs := (bs.flatMap BudD.cells)) (by kernel_rfl) rfl (fun w' hw' => Own.rd hbv hw') rfl ?_
    refine l_on rfl (gF h2_6) ?_
    refine l_gtr rfl rfl rfl ?_
    exact l_nil (fun w' hw => ⟨(by repeat (first | exact Out.refl _ _ | refine Out.upd rfl ?_ | refine Out.msk rfl ?_)), rfl, hw⟩)
  refine l_mv rfl ?_
  refine l_bor (q := ((now < 0) ∨ (2305843009213693952 < now)) ∨ (64 < ((bs.length : Nat) : Int))) 3 11 [36, 35, 34] (128 < ((ls.length : Nat) : Int)) rfl rfl rfl rfl rfl rfl trivial rfl (fun h2_11 => ?_) (fun g2_15 => ?_)
  ·
    refine l_on rfl (gF h2_11) ?_
    refine l_mv rfl ?_
    refine l_on rfl (gF h2_11) ?_
    refine l_lenS (len := ls.length) (cs := (ls.flatMap LeaD.cells)) (by kernel_rfl) rfl (fun w' hw' => Own.rd hlv hw') rfl ?_
    refine l_on rfl (gF h2_11) ?_
    refine l_gtr rfl rfl rfl ?_
    exact l_nil (fun w' hw => ⟨(by repeat (first | exact Out.refl _ _ | refine Out.upd rfl ?_ | refine Out.msk rfl ?_)), rfl, hw⟩)
  refine l_end ?_
  refine c_dec rfl (fun c1 => ?_) (fun c1 => ?_)
  ·
    refine c_reg ?_
    refine l_as rfl ?_
    refine l_as rfl ?_
    refine l_end ?_
    exact c_ret (ret2 (v := .pointer none) (v' := .bool false) rfl rfl rfl (fun w' hw => ⟨.pointer none, b21, .slice none 0 0, .slice none 0 0, [], [], (by first | rfl | rw [decide_eq_false (fun q : LoadOk now last bs ls => by have h1 := q.time; have h2 := q.blen; have h3 := q.llen; omega)]), no_pv (fun q : LoadOk now last bs ls => by have h1 := q.time; have h2 := q.blen; have h3 := q.llen; omega), (own_nil (own_nil hw 68 2) 37 5)⟩))
  ·
    refine c_skipC ?_
    refine c_seq ?_
    refine c_reg ?_
    refine l_as rfl ?_
    refine l_end ?_
    refine c_block ?_
    refine c_loop3 (fun (i : Nat) (v2 : Value) (b2 : List BudD) => [(0, .int .i64 now), (1, .int .u64 (last : Nat)), (2, bv), (3, lv), (10, .pointer (some ⟨b21, 0, none⟩)), (11, .int .i64 (i : Nat))]) (fun (i : Nat) (v2 : Value) (b2 : List BudD) => i ≤ bs.length ∧ BudsOk (bs.take i) ∧ b2 = bs.take i) (fun (i : Nat) (v2 : Value) (b2 : List BudD) => [Res.row b21 30 [.int .i64 now, .int .u64 (last : Nat), v2, .slice none 0 0], Res.vec 68 2 v2 b2.length (b2.flatMap BudD.cells)]) (fun (i : Nat) (v2 : Value) (b2 : List BudD) => bs.length - i) (fun w' hw => ⟨0, .slice none 0 0, [], ⟨rfl, rfl, rfl, rfl, rfl, rfl, trivial⟩, ⟨Nat.zero_le _, BudsOk.nil, rfl⟩, (own_nil hw 68 2)⟩) (fun i v2 b2 g hΦ => ?_)
    have hi := hΦ.1
    have hBI := hΦ.2.1
    have hb2 := hΦ.2.2
    have hb2l : b2.length ≤ bs.length := by rw [hb2, List.length_take]; omega
    refine c_seq ?_
    refine c_reg ?_
    refine l_mv rfl ?_
    refine l_mv rfl ?_
    refine l_lenS (len := bs.length) (cs := (bs.flatMap BudD.cells)) (by kernel_rfl) rfl (fun w' hw' => Own.rd hbv hw') rfl ?_
    refine l_lss rfl rfl rfl ?_
    refine l_end ?_
    refine c_dec rfl (fun c2 => ?_) (fun c2 => ?_)
    ·
      refine c_skipC ?_
      refine c_seq ?_
      refine c_block ?_
      refine c_seq ?_
      refine c_seq ?_
      refine c_heldo [0, 1] rfl (by decide) (by kernel_rfl) (fun w' hw hS => ?_)
      refine h_take 0 rfl (by kernel_rfl) (by kernel_rfl) (by kernel_rfl) (v_mv) rfl hS ?_
      refine h_take 1 rfl (by kernel_rfl) (by kernel_rfl) (by kernel_rfl) (v_mv) rfl hS ?_
      refine h_take 2 rfl (by kernel_rfl) (by kernel_rfl) (by kernel_rfl) (v_idxS (j := i) (sz := 2) (len := bs.length) (cs := (bs.flatMap BudD.cells)) rfl rfl (by kernel_rfl) (fun w' hw' => Own.rd hbv hw') rfl (by omega)) rfl hS ?_
      refine h_take 3 rfl (by kernel_rfl) (by kernel_rfl) (by kernel_rfl) (v_fld (o := 0) rfl (by kernel_rfl)) rfl hS ?_
      refine h_take 4 rfl (by kernel_rfl) (by kernel_rfl) (by kernel_rfl) (v_ldS (v := bv) (off := offV bv + i * 2 + 0) (i * 2 + 0) (cs := (bs.flatMap BudD.cells)) rfl (by omega) (fun w' hw' => Own.rd hbv hw') (flat_at (sz := 2) (fun _ => rfl) (nth_some (by omega)) (i := 0) rfl) (by kernel_rfl)) rfl hS ?_
      refine h_one 5 (by kernel_rfl) rfl hw ?_
      refine l_call (by kernel_rfl) rfl rfl (fun w' hw => ?_)
      refine (rkeyed_s ((nth bs i).key) w').mono ?_
      rintro _ w1 ⟨rfl, hO⟩
      refine (?_ : CL _ _ _ _ _ _ (Own w [] [Res.row b21 30 [.int .i64 now, .int .u64 (last : Nat), v2, .slice none 0 0], Res.vec 68 2 v2 b2.length (b2.flatMap BudD.cells)])) w1 (hw.frame0 hO)
      refine l_nil (fun w' hw => ?_)
      have hS := hw.sel [0, 1] rfl (by decide)
      refine ⟨hS, ?_⟩
      refine h_take 6 rfl (by kernel_rfl) (by kernel_rfl) (by kernel_rfl) (v_notp (q := keyOk ((nth bs i).key)) rfl) rfl hS ?_
      refine h_take 7 rfl (by kernel_rfl) (by kernel_rfl) (by kernel_rfl) (v_mv) rfl hS ?_
      by_cases g7_7 : ¬ (keyOk ((nth bs i).key))
      ·
        refine h_offg 8 rfl rfl (gT g7_7) rfl (by kernel_rfl) (by kernel_rfl) (by kernel_rfl) rfl hS ?_
        refine h_offg 9 rfl rfl (gT g7_7) rfl (by kernel_rfl) (by kernel_rfl) (by kernel_rfl) rfl hS ?_
        refine h_offg 10 rfl rfl (gT g7_7) rfl (by kernel_rfl) (by kernel_rfl) (by kernel_rfl) rfl hS ?_
        refine h_offg 11 rfl rfl (gT g7_7) rfl (by kernel_rfl) (by kernel_rfl) (by kernel_rfl) rfl hS ?_
        refine h_offg 12 rfl rfl (gT g7_7) rfl (by kernel_rfl) (by kernel_rfl) (by kernel_rfl) rfl hS ?_
        refine h_offg 13 rfl rfl (gT g7_7) rfl (by kernel_rfl) (by kernel_rfl) (by kernel_rfl) rfl hS ?_
        refine h_take 14 rfl (by kernel_rfl) (by kernel_rfl) (by kernel_rfl) (v_pickT (gT g7_7)) rfl hS ?_
        refine h_take 15 rfl (by kernel_rfl) (by kernel_rfl) (by kernel_rfl) (v_mv) rfl hS ?_
        refine h_offg 16 rfl rfl rfl rfl (by kernel_rfl) (by kernel_rfl) (by kernel_rfl) rfl hS ?_
        refine h_offg 17 rfl rfl rfl rfl (by kernel_rfl) (by kernel_rfl) (by kernel_rfl) rfl hS ?_
        refine h_offg 18 rfl rfl rfl rfl (by kernel_rfl) (by kernel_rfl) (by kernel_rfl) rfl hS ?_
        refine h_offu 19 rfl rfl rfl (by kernel_rfl) (by kernel_rfl) (by kernel_rfl) rfl hS ?_
        refine h_offu 20 rfl rfl rfl (by kernel_rfl) (by kernel_rfl) (by kernel_rfl) rfl hS ?_
        refine h_offu 21 rfl rfl rfl (by kernel_rfl) (by kernel_rfl) (by kernel_rfl) rfl hS ?_
        refine h_offu 22 rfl rfl rfl (by kernel_rfl) (by kernel_rfl) (by kernel_rfl) rfl hS ?_
        refine h_offu 23 rfl rfl rfl (by kernel_rfl) (by kernel_rfl) (by kernel_rfl) rfl hS ?_
        refine h_offu 24 rfl rfl rfl (by kernel_rfl) (by kernel_rfl) (by kernel_rfl) rfl hS ?_
        refine h_offu 25 rfl rfl rfl (by kernel_rfl) (by kernel_rfl) (by kernel_rfl) rfl hS ?_
        refine h_offu 26 rfl rfl rfl (by kernel_rfl) (by kernel_rfl) (by kernel_rfl) rfl hS ?_
        refine h_offu 27 rfl rfl rfl (by kernel_rfl) (by kernel_rfl) (by kernel_rfl) rfl hS ?_
        refine h_offu 28 rfl rfl rfl (by kernel_rfl) (by kernel_rfl) (by kernel_rfl) rfl hS ?_
        refine h_offu 29 rfl rfl rfl (by kernel_rfl) (by kernel_rfl) (by kernel_rfl) rfl hS ?_
        refine h_offu 30 rfl rfl rfl (by kernel_rfl) (by kernel_rfl) (by kernel_rfl) rfl hS ?_
        refine h_offg 31 rfl rfl rfl rfl (by kernel_rfl) (by kernel_rfl) (by kernel_rfl) rfl hS ?_
        refine h_take 32 rfl (by kernel_rfl) (by kernel_rfl) (by kernel_rfl) (v_pickT rfl) rfl hS ?_
        refine h_done (by kernel_rfl) ?_
        refine (?_ : C _ _ _ _ _ _ _ (Own w [] [Res.row b21 30 [.int .i64 now, .int .u64 (last : Nat), v2, .slice none 0 0], Res.vec 68 2 v2 b2.length (b2.flatMap BudD.cells)])) _ hw
        refine c_yes rfl ?_
        refine c_reg ?_
        refine l_as rfl ?_
        refine l_as rfl ?_
        refine l_end ?_
        exact c_ret (ret2 (v := .pointer none) (v' := .bool false) rfl rfl rfl (fun w' hw => ⟨.pointer none, b21, v2, .slice none 0 0, b2, [], (by first | rfl | rw [decide_eq_false (noBud (i := i) (by omega) (.inl g7_7))]), no_pv (noBud (i := i) (by omega) (.inl g7_7)), (own_nil hw 37 5)⟩))
      ·
        refine h_takeg 8 rfl rfl (gF g7_7) (by kernel_rfl) (by kernel_rfl) (by kernel_rfl) (v_mv) rfl hS ?_
        refine h_takeg 9 rfl rfl (gF g7_7) (by kernel_rfl) (by kernel_rfl) (by kernel_rfl) (v_mv) rfl hS ?_
        refine h_takeg 10 rfl rfl (gF g7_7) (by kernel_rfl) (by kernel_rfl) (by kernel_rfl) (v_idxS (j := i) (sz := 2) (len := bs.length) (cs := (bs.flatMap BudD.cells)) rfl rfl (by kernel_rfl) (fun w' hw' => Own.rd hbv hw') rfl (by omega)) rfl hS ?_
        refine h_takeg 11 rfl rfl (gF g7_7) (by kernel_rfl) (by kernel_rfl) (by kernel_rfl) (v_fld (o := 1) rfl (by kernel_rfl)) rfl hS ?_
        refine h_takeg 12 rfl rfl (gF g7_7) (by kernel_rfl) (by kernel_rfl) (by kernel_rfl) (v_ldS (v := bv) (off := offV bv + i * 2 + 1) (i * 2 + 1) (cs := (bs.flatMap BudD.cells)) rfl (by omega) (fun w' hw' => Own.rd hbv hw') (flat_at (sz := 2) (fun _ => rfl) (nth_some (by omega)) (i := 1) rfl) (by kernel_rfl)) rfl hS ?_
        refine h_takeg 13 rfl rfl (gF g7_7) (by kernel_rfl) (by kernel_rfl) (by kernel_rfl) (v_lss rfl rfl) rfl hS ?_
        refine h_take 14 rfl (by kernel_rfl) (by kernel_rfl) (by kernel_rfl) (v_pickF (gF g7_7)) rfl hS ?_
        refine h_take 15 rfl (by kernel_rfl) (by kernel_rfl) (by kernel_rfl) (v_mv) rfl hS ?_
        by_cases g7_15 : ((nth bs i).amount) < 1
        ·
          refine h_offg 16 rfl rfl (gT g7_15) rfl (by kernel_rfl) (by kernel_rfl) (by kernel_rfl) rfl hS ?_
          refine h_offg 17 rfl rfl (gT g7_15) rfl (by kernel_rfl) (by kernel_rfl) (by kernel_rfl) rfl hS ?_
          refine h_offg 18 rfl rfl (gT g7_15) rfl (by kernel_rfl) (by kernel_rfl) (by kernel_rfl) rfl hS ?_
          refine h_offu 19 rfl rfl rfl (by kernel_rfl) (by kernel_rfl) (by kernel_rfl) rfl hS ?_
          refine h_offu 20 rfl rfl rfl (by kernel_rfl) (by kernel_rfl) (by kernel_rfl) rfl hS ?_
          refine h_offu 21 rfl rfl rfl (by kernel_rfl) (by kernel_rfl) (by kernel_rfl) rfl hS ?_
          refine h_offu 22 rfl rfl rfl (by kernel_rfl) (by kernel_rfl) (by kernel_rfl) rfl hS ?_
          refine h_offu 23 rfl rfl rfl (by kernel_rfl) (by kernel_rfl) (by kernel_rfl) rfl hS ?_
          refine h_offu 24 rfl rfl rfl (by kernel_rfl) (by kernel_rfl) (by kernel_rfl) rfl hS ?_
          refine h_offu 25 rfl rfl rfl (by kernel_rfl) (by kernel_rfl) (by kernel_rfl) rfl hS ?_
          refine h_offu 26 rfl rfl rfl (by kernel_rfl) (by kernel_rfl) (by kernel_rfl) rfl hS ?_
          refine h_offu 27 rfl rfl rfl (by kernel_rfl) (by kernel_rfl) (by kernel_rfl) rfl hS ?_
          refine h_offu 28 rfl rfl rfl (by kernel_rfl) (by kernel_rfl) (by kernel_rfl) rfl hS ?_
          refine h_offu 29 rfl rfl rfl (by kernel_rfl) (by kernel_rfl) (by kernel_rfl) rfl hS ?_
          refine h_offu 30 rfl rfl rfl (by kernel_rfl) (by kernel_rfl) (by kernel_rfl) rfl hS ?_
          refine h_offg 31 rfl rfl (gT g7_15) rfl (by kernel_rfl) (by kernel_rfl) (by kernel_rfl) rfl hS ?_
          refine h_take 32 rfl (by kernel_rfl) (by kernel_rfl) (by kernel_rfl) (v_pickT (gT g7_15)) rfl hS ?_
          refine h_done (by kernel_rfl) ?_
          refine (?_ : C _ _ _ _ _ _ _ (Own w [] [Res.row b21 30 [.int .i64 now, .int .u64 (last : Nat), v2, .slice none 0 0], Res.vec 68 2 v2 b2.length (b2.flatMap BudD.cells)])) _ hw
          refine c_yes rfl ?_
          refine c_reg ?_
          refine l_as rfl ?_
          refine l_as rfl ?_
          refine l_end ?_
          exact c_ret (ret2 (v := .pointer none) (v' := .bool false) rfl rfl rfl (fun w' hw => ⟨.pointer none, b21, v2, .slice none 0 0, b2, [], (by first | rfl | rw [decide_eq_false (noBud (i := i) (by omega) (.inr (.inl g7_15)))]), no_pv (noBud (i := i) (by omega) (.inr (.inl g7_15))), (own_nil hw 37 5)⟩))
        ·
          refine h_takeg 16 rfl rfl (gF g7_15) (by kernel_rfl) (by kernel_rfl) (by kernel_rfl) (v_mv) rfl hS ?_
          refine h_takeg 17 rfl rfl (gF g7_15) (by kernel_rfl) (by kernel_rfl) (by kernel_rfl) (v_gtr rfl rfl) rfl hS ?_
          refine h_takeg 18 rfl rfl (gF g7_15) (by kernel_rfl) (by kernel_rfl) (by kernel_rfl) (v_mv) rfl hS ?_
          by_cases g7_18 : 0 < ((i : Nat) : Int)
          ·
            refine h_takeg 19 rfl rfl (gT g7_18) (by kernel_rfl) (by kernel_rfl) (by kernel_rfl) (v_mv) rfl hS ?_
            refine h_takeg 20 rfl rfl (gT g7_18) (by kernel_rfl) (by kernel_rfl) (by kernel_rfl) (v_mv) rfl hS ?_
            refine h_takeg 21 rfl rfl (gT g7_18) (by kernel_rfl) (by kernel_rfl) (by kernel_rfl) (v_sub rfl rfl (wi64 (by omega))) rfl hS ?_
            refine h_takeg 22 rfl rfl (gT g7_18) (by kernel_rfl) (by kernel_rfl) (by kernel_rfl) (v_idxS (j := i - 1) (sz := 2) (len := bs.length) (cs := (bs.flatMap BudD.cells)) rfl rfl (by kernel_rfl) (fun w' hw' => Own.rd hbv hw') (by omega) (by omega)) rfl hS ?_
            refine h_takeg 23 rfl rfl (gT g7_18) (by kernel_rfl) (by kernel_rfl) (by kernel_rfl) (v_fld (o := 0) rfl (by kernel_rfl)) rfl hS ?_
            refine h_takeg 24 rfl rfl (gT g7_18) (by kernel_rfl) (by kernel_rfl) (by kernel_rfl) (v_ldS (v := bv) (off := offV bv + (i - 1) * 2 + 0) ((i - 1) * 2 + 0) (cs := (bs.flatMap BudD.cells)) rfl (by omega) (fun w' hw' => Own.rd hbv hw') (flat_at (sz := 2) (fun _ => rfl) (nth_some (by omega)) (i := 0) rfl) (by kernel_rfl)) rfl hS ?_
            refine h_takeg 25 rfl rfl (gT g7_18) (by kernel_rfl) (by kernel_rfl) (by kernel_rfl) (v_mv) rfl hS ?_
            refine h_takeg 26 rfl rfl (gT g7_18) (by kernel_rfl) (by kernel_rfl) (by kernel_rfl) (v_mv) rfl hS ?_
            refine h_takeg 27 rfl rfl (gT g7_18) (by kernel_rfl) (by kernel_rfl) (by kernel_rfl) (v_idxS (j := i) (sz := 2) (len := bs.length) (cs := (bs.flatMap BudD.cells)) rfl rfl (by kernel_rfl) (fun w' hw' => Own.rd hbv hw') rfl (by omega)) rfl hS ?_
            refine h_takeg 28 rfl rfl (gT g7_18) (by kernel_rfl) (by kernel_rfl) (by kernel_rfl) (v_fld (o := 0) rfl (by kernel_rfl)) rfl hS ?_
            refine h_takeg 29 rfl rfl (gT g7_18) (by kernel_rfl) (by kernel_rfl) (by kernel_rfl) (v_ldS (v := bv) (off := offV bv + i * 2 + 0) (i * 2 + 0) (cs := (bs.flatMap BudD.cells)) rfl (by omega) (fun w' hw' => Own.rd hbv hw') (flat_at (sz := 2) (fun _ => rfl) (nth_some (by omega)) (i := 0) rfl) (by kernel_rfl)) rfl hS ?_
            refine h_takeg 30 rfl rfl (gT g7_18) (by kernel_rfl) (by kernel_rfl) (by kernel_rfl) (v_sge rfl rfl) rfl hS ?_
            refine h_takeg 31 rfl rfl (gF g7_15) (by kernel_rfl) (by kernel_rfl) (by kernel_rfl) (v_pickT (gT g7_18)) rfl hS ?_
            refine h_take 32 rfl (by kernel_rfl) (by kernel_rfl) (by kernel_rfl) (v_pickF (gF g7_15)) rfl hS ?_
            refine h_done (by kernel_rfl) ?_
            refine (?_ : C _ _ _ _ _ _ _ (Own w [] [Res.row b21 30 [.int .i64 now, .int .u64 (last : Nat), v2, .slice none 0 0], Res.vec 68 2 v2 b2.length (b2.flatMap BudD.cells)])) _ hw
            refine c_dec rfl (fun c5 => ?_) (fun c5 => ?_)
            ·
              refine c_reg ?_
              refine l_as rfl ?_
              refine l_as rfl ?_
              refine l_end ?_
              exact c_ret (ret2 (v := .pointer none) (v' := .bool false) rfl rfl rfl (fun w' hw => ⟨.pointer none, b21, v2, .slice none 0 0, b2, [], (by first | rfl | rw [decide_eq_false (noBud (i := i) (by omega) (.inr (.inr ⟨by omega, c5⟩)))]), no_pv (noBud (i := i) (by omega) (.inr (.inr ⟨by omega, c5⟩))), (own_nil hw 37 5)⟩))
            ·
              refine c_skipC ?_
              refine c_heldo [] rfl (by decide) (by kernel_rfl) (fun w' hw hS => ?_)
              refine h_take 0 rfl (by kernel_rfl) (by kernel_rfl) (by kernel_rfl) (v_mv) rfl hS ?_
              refine h_take 1 rfl (by kernel_rfl) (by kernel_rfl) (by kernel_rfl) (v_mv) rfl hS ?_
              refine h_take 2 rfl (by kernel_rfl) (by kernel_rfl) (by kernel_rfl) (v_nck rfl) rfl hS ?_
              refine h_take 3 rfl (by kernel_rfl) (by kernel_rfl) (by kernel_rfl) (v_fld (o := 2) rfl (by kernel_rfl)) rfl hS ?_
              refine h_take 5 rfl (by kernel_rfl) (by kernel_rfl) (by kernel_rfl) (v_mv) rfl hS ?_
              refine h_take 6 rfl (by kernel_rfl) (by kernel_rfl) (by kernel_rfl) (v_mv) rfl hS ?_
              refine h_take 7 rfl (by kernel_rfl) (by kernel_rfl) (by kernel_rfl) (v_idxS (j := i) (sz := 2) (len := bs.length) (cs := (bs.flatMap BudD.cells)) rfl rfl (by kernel_rfl) (fun w' hw' => Own.rd hbv hw') rfl (by omega)) rfl hS ?_
              refine h_take 8 rfl (by kernel_rfl) (by kernel_rfl) (by kernel_rfl) (v_ldSN (v := bv) (off := offV bv + i * 2) (i * 2 + 0) (cs := (bs.flatMap BudD.cells)) (BudD.cells (nth bs i)) rfl (by omega) (fun w' hw' => Own.rd hbv hw') (flat_atN (sz := 2) (fun _ => rfl) (nth_some (by omega)) (o := 0) (us := (BudD.cells (nth bs i))) (fun k u h => by rw [Nat.zero_add]; exact h)) (by kernel_rfl)) rfl hS ?_
              refine h_pick2 (i := 4) (j := 9) (by kernel_rfl) ?_ ?_
              ·
                refine pk_of 4 rfl hw ?_
                refine l_ldo 0 (v := v2) rfl rfl rfl (by kernel_rfl) rfl ?_
                refine l_nil (fun w' hw => ?_)
                have hS := hw.sel [] rfl (by decide)
                refine ⟨hS, ?_⟩
                refine h_one 9 (by kernel_rfl) rfl hw ?_
                refine l_bsl (e := 68) (sz := 2) (vs := [.agg (BudD.cells (nth bs i)).toArray]) (by kernel_rfl) rfl rfl (by simp [Value.cells, BudD.cells]) (by decide) rfl (fun b86 => ?_)
                refine l_nil (fun w' hw => ?_)
                have hS := hw.sel [] rfl (by decide)
                refine ⟨hS, ?_⟩
                refine h_one 10 (by kernel_rfl) rfl hw ?_
                refine l_appF (g := BudD.cells) (sz := 2) (by' := 24) (fun _ => rfl) (l := b2) (l' := [(nth bs i)]) (by simp [cell1, BudD.cells, vu]) 1 (by kernel_rfl) rfl rfl rfl (fun w' hw' => Vec.sl (Own.holds hw' 2 _ rfl)) (by first | omega | (simp; omega)) (by decide) rfl (fun v87 => ?_)
                refine l_nil (fun w' hw => ?_)
                have hS := hw.sel [] rfl (by decide)
                refine ⟨hS, ?_⟩
                refine h_take 11 rfl (by kernel_rfl) (by kernel_rfl) (by kernel_rfl) (v_nck rfl) rfl hS ?_
                refine h_take 12 rfl (by kernel_rfl) (by kernel_rfl) (by kernel_rfl) (v_fld (o := 2) rfl (by kernel_rfl)) rfl hS ?_
                refine h_one 13 (by kernel_rfl) rfl hw ?_
                refine l_haveO (fun w' hw => Own.cell1Vec (i := 1) rfl hw) (fun hc2_ => ?_)
                refine l_st (cs := [.int .i64 now, .int .u64 (last : Nat), v2, .slice none 0 0]) 0 rfl rfl rfl (by kernel_rfl) hc2_ (Nat.le_of_ble_eq_true rfl) ?_
                refine l_nil (fun w' hw => ?_)
                have hS := hw.sel [] rfl (by decide)
                refine ⟨hS, ?_⟩
                refine h_done (by kernel_rfl) ?_
                refine (?_ : C _ _ _ _ _ _ _ (Own w [] [Res.row b21 30 [.int .i64 now, .int .u64 (last : Nat), v87, .slice none 0 0], Res.vec 68 2 v87 (b2 ++ [(nth bs i)]).length ((b2 ++ [(nth bs i)]).flatMap BudD.cells), Res.vec 68 2 (.slice (some ⟨b86, 0, none⟩) 1 1) [(nth bs i)].length ([(nth bs i)].flatMap BudD.cells)])) _ hw
                refine c_last ?_
                refine l_mv rfl ?_
                refine l_add rfl rfl (wi64 (by omega)) rfl ?_
                refine l_as rfl ?_
                exact l_nil (fun w' hw => ⟨i + 1, v87, b2 ++ [nth bs i], ⟨rfl, rfl, rfl, rfl, rfl, rfl, trivial⟩, ⟨by omega, bud_step hBI (by omega) (Decidable.not_not.1 g7_7) (by omega) (fun h => c5), by rw [hb2, take_nth (by omega)]⟩, hw.sel [0, 1] rfl (by decide), (by omega)⟩)
              ·
                refine pk_of 9 rfl hw ?_
                refine l_bsl (e := 68) (sz := 2) (vs := [.agg (BudD.cells (nth bs i)).toArray]) (by kernel_rfl) rfl rfl (by simp [Value.cells, BudD.cells]) (by decide) rfl (fun b86 => ?_)
                refine l_nil (fun w' hw => ?_)
                have hS := hw.sel [] rfl (by decide)
                refine ⟨hS, ?_⟩
                refine h_one 4 (by kernel_rfl) rfl hw ?_
                refine l_ldo 0 (v := v2) rfl rfl rfl (by kernel_rfl) rfl ?_
                refine l_nil (fun w' hw => ?_)
                have hS := hw.sel [] rfl (by decide)
                refine ⟨hS, ?_⟩
                refine h_one 10 (by kernel_rfl) rfl hw ?_
                refine l_appF (g := BudD.cells) (sz := 2) (by' := 24) (fun _ => rfl) (l := b2) (l' := [(nth bs i)]) (by simp [cell1, BudD.cells, vu]) 1 (by kernel_rfl) rfl rfl rfl (fun w' hw' => Vec.sl (Own.holds hw' 2 _ rfl)) (by first | omega | (simp; omega)) (by decide) rfl (fun v87 => ?_)
                refine l_nil (fun w' hw => ?_)
                have hS := hw.sel [] rfl (by decide)
                refine ⟨hS, ?_⟩
                refine h_take 11 rfl (by kernel_rfl) (by kernel_rfl) (by kernel_rfl) (v_nck rfl) rfl hS ?_
                refine h_take 12 rfl (by kernel_rfl) (by kernel_rfl) (by kernel_rfl) (v_fld (o := 2) rfl (by kernel_rfl)) rfl hS ?_
                refine h_one 13 (by kernel_rfl) rfl hw ?_
                refine l_haveO (fun w' hw => Own.cell1Vec (i := 1) rfl hw) (fun hc3_ => ?_)
                refine l_st (cs := [.int .i64 now, .int .u64 (last : Nat), v2, .slice none 0 0]) 0 rfl rfl rfl (by kernel_rfl) hc3_ (Nat.le_of_ble_eq_true rfl) ?_
                refine l_nil (fun w' hw => ?_)
                have hS := hw.sel [] rfl (by decide)
                refine ⟨hS, ?_⟩
                refine h_done (by kernel_rfl) ?_
                refine (?_ : C _ _ _ _ _ _ _ (Own w [] [Res.row b21 30 [.int .i64 now, .int .u64 (last : Nat), v87, .slice none 0 0], Res.vec 68 2 v87 (b2 ++ [(nth bs i)]).length ((b2 ++ [(nth bs i)]).flatMap BudD.cells), Res.vec 68 2 (.slice (some ⟨b86, 0, none⟩) 1 1) [(nth bs i)].length ([(nth bs i)].flatMap BudD.cells)])) _ hw
                refine c_last ?_
                refine l_mv rfl ?_
                refine l_add rfl rfl (wi64 (by omega)) rfl ?_
                refine l_as rfl ?_
                exact l_nil (fun w' hw => ⟨i + 1, v87, b2 ++ [nth bs i], ⟨rfl, rfl, rfl, rfl, rfl, rfl, trivial⟩, ⟨by omega, bud_step hBI (by omega) (Decidable.not_not.1 g7_7) (by omega) (fun h => c5), by rw [hb2, take_nth (by omega)]⟩, hw.sel [0, 1] rfl (by decide), (by omega)⟩)
          ·
            refine h_offg 19 rfl rfl (gF g7_18) rfl (by kernel_rfl) (by kernel_rfl) (by kernel_rfl) rfl hS ?_
            refine h_offg 20 rfl rfl (gF g7_18) rfl (by kernel_rfl) (by kernel_rfl) (by kernel_rfl) rfl hS ?_
            refine h_offg 21 rfl rfl (gF g7_18) rfl (by kernel_rfl) (by kernel_rfl) (by kernel_rfl) rfl hS ?_
            refine h_offg 22 rfl rfl (gF g7_18) rfl (by kernel_rfl) (by kernel_rfl) (by kernel_rfl) rfl hS ?_
            refine h_offg 23 rfl rfl (gF g7_18) rfl (by kernel_rfl) (by kernel_rfl) (by kernel_rfl) rfl hS ?_
            refine h_offg 24 rfl rfl (gF g7_18) rfl (by kernel_rfl) (by kernel_rfl) (by kernel_rfl) rfl hS ?_
            refine h_offg 25 rfl rfl (gF g7_18) rfl (by kernel_rfl) (by kernel_rfl) (by kernel_rfl) rfl hS ?_
            refine h_offg 26 rfl rfl (gF g7_18) rfl (by kernel_rfl) (by kernel_rfl) (by kernel_rfl) rfl hS ?_
            refine h_offg 27 rfl rfl (gF g7_18) rfl (by kernel_rfl) (by kernel_rfl) (by kernel_rfl) rfl hS ?_
            refine h_offg 28 rfl rfl (gF g7_18) rfl (by kernel_rfl) (by kernel_rfl) (by kernel_rfl) rfl hS ?_
            refine h_offg 29 rfl rfl (gF g7_18) rfl (by kernel_rfl) (by kernel_rfl) (by kernel_rfl) rfl hS ?_
            refine h_offg 30 rfl rfl (gF g7_18) rfl (by kernel_rfl) (by kernel_rfl) (by kernel_rfl) rfl hS ?_
            refine h_takeg 31 rfl rfl (gF g7_15) (by kernel_rfl) (by kernel_rfl) (by kernel_rfl) (v_pickF (gF g7_18)) rfl hS ?_
            refine h_take 32 rfl (by kernel_rfl) (by kernel_rfl) (by kernel_rfl) (v_pickF (gF g7_15)) rfl hS ?_
            refine h_done (by kernel_rfl) ?_
            refine (?_ : C _ _ _ _ _ _ _ (Own w [] [Res.row b21 30 [.int .i64 now, .int .u64 (last : Nat), v2, .slice none 0 0], Res.vec 68 2 v2 b2.length (b2.flatMap BudD.cells)])) _ hw
            refine c_no rfl ?_
            refine c_skipC ?_
            refine c_heldo [] rfl (by decide) (by kernel_rfl) (fun w' hw hS => ?_)
            refine h_take 0 rfl (by kernel_rfl) (by kernel_rfl) (by kernel_rfl) (v_mv) rfl hS ?_
            refine h_take 1 rfl (by kernel_rfl) (by kernel_rfl) (by kernel_rfl) (v_mv) rfl hS ?_
            refine h_take 2 rfl (by kernel_rfl) (by kernel_rfl) (by kernel_rfl) (v_nck rfl) rfl hS ?_
            refine h_take 3 rfl (by kernel_rfl) (by kernel_rfl) (by kernel_rfl) (v_fld (o := 2) rfl (by kernel_rfl)) rfl hS ?_
            refine h_take 5 rfl (by kernel_rfl) (by kernel_rfl) (by kernel_rfl) (v_mv) rfl hS ?_
            refine h_take 6 rfl (by kernel_rfl) (by kernel_rfl) (by kernel_rfl) (v_mv) rfl hS ?_
            refine h_take 7 rfl (by kernel_rfl) (by kernel_rfl) (by kernel_rfl) (v_idxS (j := i) (sz := 2) (len := bs.length) (cs := (bs.flatMap BudD.cells)) rfl rfl (by kernel_rfl) (fun w' hw' => Own.rd hbv hw') rfl (by omega)) rfl hS ?_
            refine h_take 8 rfl (by kernel_rfl) (by kernel_rfl) (by kernel_rfl) (v_ldSN (v := bv) (off := offV bv + i * 2) (i * 2 + 0) (cs := (bs.flatMap BudD.cells)) (BudD.cells (nth bs i)) rfl (by omega) (fun w' hw' => Own.rd hbv hw') (flat_atN (sz := 2) (fun _ => rfl) (nth_some (by omega)) (o := 0) (us := (BudD.cells (nth bs i))) (fun k u h => by rw [Nat.zero_add]; exact h)) (by kernel_rfl)) rfl hS ?_
            refine h_pick2 (i := 4) (j := 9) (by kernel_rfl) ?_ ?_
            ·
              refine pk_of 4 rfl hw ?_
              refine l_ldo 0 (v := v2) rfl rfl rfl (by kernel_rfl) rfl ?_
              refine l_nil (fun w' hw => ?_)
              have hS := hw.sel [] rfl (by decide)
              refine ⟨hS, ?_⟩
              refine h_one 9 (by kernel_rfl) rfl hw ?_
              refine l_bsl (e := 68) (sz := 2) (vs := [.agg (BudD.cells (nth bs i)).toArray]) (by kernel_rfl) rfl rfl (by simp [Value.cells, BudD.cells]) (by decide) rfl (fun b86 => ?_)
              refine l_nil (fun w' hw => ?_)
              have hS := hw.sel [] rfl (by decide)
              refine ⟨hS, ?_⟩
              refine h_one 10 (by kernel_rfl) rfl hw ?_
              refine l_appF (g := BudD.cells) (sz := 2) (by' := 24) (fun _ => rfl) (l := b2) (l' := [(nth bs i)]) (by simp [cell1, BudD.cells, vu]) 1 (by kernel_rfl) rfl rfl rfl (fun w' hw' => Vec.sl (Own.holds hw' 2 _ rfl)) (by first | omega | (simp; omega)) (by decide) rfl (fun v87 => ?_)
              refine l_nil (fun w' hw => ?_)
              have hS := hw.sel [] rfl (by decide)
              refine ⟨hS, ?_⟩
              refine h_take 11 rfl (by kernel_rfl) (by kernel_rfl) (by kernel_rfl) (v_nck rfl) rfl hS ?_
              refine h_take 12 rfl (by kernel_rfl) (by kernel_rfl) (by kernel_rfl) (v_fld (o := 2) rfl (by kernel_rfl)) rfl hS ?_
              refine h_one 13 (by kernel_rfl) rfl hw ?_
              refine l_haveO (fun w' hw => Own.cell1Vec (i := 1) rfl hw) (fun hc5_ => ?_)
              refine l_st (cs := [.int .i64 now, .int .u64 (last : Nat), v2, .slice none 0 0]) 0 rfl rfl rfl (by kernel_rfl) hc5_ (Nat.le_of_ble_eq_true rfl) ?_
              refine l_nil (fun w' hw => ?_)
              have hS := hw.sel [] rfl (by decide)
              refine ⟨hS, ?_⟩
              refine h_done (by kernel_rfl) ?_
              refine (?_ : C _ _ _ _ _ _ _ (Own w [] [Res.row b21 30 [.int .i64 now, .int .u64 (last : Nat), v87, .slice none 0 0], Res.vec 68 2 v87 (b2 ++ [(nth bs i)]).length ((b2 ++ [(nth bs i)]).flatMap BudD.cells), Res.vec 68 2 (.slice (some ⟨b86, 0, none⟩) 1 1) [(nth bs i)].length ([(nth bs i)].flatMap BudD.cells)])) _ hw
              refine c_last ?_
              refine l_mv rfl ?_
              refine l_add rfl rfl (wi64 (by omega)) rfl ?_
              refine l_as rfl ?_
              exact l_nil (fun w' hw => ⟨i + 1, v87, b2 ++ [nth bs i], ⟨rfl, rfl, rfl, rfl, rfl, rfl, trivial⟩, ⟨by omega, bud_step hBI (by omega) (Decidable.not_not.1 g7_7) (by omega) (fun h => absurd h (by omega)), by rw [hb2, take_nth (by omega)]⟩, hw.sel [0, 1] rfl (by decide), (by omega)⟩)
            ·
              refine pk_of 9 rfl hw ?_
              refine l_bsl (e := 68) (sz := 2) (vs := [.agg (BudD.cells (nth bs i)).toArray]) (by kernel_rfl) rfl rfl (by simp [Value.cells, BudD.cells]) (by decide) rfl (fun b86 => ?_)
              refine l_nil (fun w' hw => ?_)
              have hS := hw.sel [] rfl (by decide)
              refine ⟨hS, ?_⟩
              refine h_one 4 (by kernel_rfl) rfl hw ?_
              refine l_ldo 0 (v := v2) rfl rfl rfl (by kernel_rfl) rfl ?_
              refine l_nil (fun w' hw => ?_)
              have hS := hw.sel [] rfl (by decide)
              refine ⟨hS, ?_⟩
              refine h_one 10 (by kernel_rfl) rfl hw ?_
              refine l_appF (g := BudD.cells) (sz := 2) (by' := 24) (fun _ => rfl) (l := b2) (l' := [(nth bs i)]) (by simp [cell1, BudD.cells, vu]) 1 (by kernel_rfl) rfl rfl rfl (fun w' hw' => Vec.sl (Own.holds hw' 2 _ rfl)) (by first | omega | (simp; omega)) (by decide) rfl (fun v87 => ?_)
              refine l_nil (fun w' hw => ?_)
              have hS := hw.sel [] rfl (by decide)
              refine ⟨hS, ?_⟩
              refine h_take 11 rfl (by kernel_rfl) (by kernel_rfl) (by kernel_rfl) (v_nck rfl) rfl hS ?_
              refine h_take 12 rfl (by kernel_rfl) (by kernel_rfl) (by kernel_rfl) (v_fld (o := 2) rfl (by kernel_rfl)) rfl hS ?_
              refine h_one 13 (by kernel_rfl) rfl hw ?_
              refine l_haveO (fun w' hw => Own.cell1Vec (i := 1) rfl hw) (fun hc6_ => ?_)
              refine l_st (cs := [.int .i64 now, .int .u64 (last : Nat), v2, .slice none 0 0]) 0 rfl rfl rfl (by kernel_rfl) hc6_ (Nat.le_of_ble_eq_true rfl) ?_
              refine l_nil (fun w' hw => ?_)
              have hS := hw.sel [] rfl (by decide)
              refine ⟨hS, ?_⟩
              refine h_done (by kernel_rfl) ?_
              refine (?_ : C _ _ _ _ _ _ _ (Own w [] [Res.row b21 30 [.int .i64 now, .int .u64 (last : Nat), v87, .slice none 0 0], Res.vec 68 2 v87 (b2 ++ [(nth bs i)]).length ((b2 ++ [(nth bs i)]).flatMap BudD.cells), Res.vec 68 2 (.slice (some ⟨b86, 0, none⟩) 1 1) [(nth bs i)].length ([(nth bs i)].flatMap BudD.cells)])) _ hw
              refine c_last ?_
              refine l_mv rfl ?_
              refine l_add rfl rfl (wi64 (by omega)) rfl ?_
              refine l_as rfl ?_
              exact l_nil (fun w' hw => ⟨i + 1, v87, b2 ++ [nth bs i], ⟨rfl, rfl, rfl, rfl, rfl, rfl, trivial⟩, ⟨by omega, bud_step hBI (by omega) (Decidable.not_not.1 g7_7) (by omega) (fun h => absurd h (by omega)), by rw [hb2, take_nth (by omega)]⟩, hw.sel [0, 1] rfl (by decide), (by omega)⟩)
    ·
      refine c_exitC rfl ?_
      refine c_seq ?_
      refine c_reg ?_
      refine l_as rfl ?_
      refine l_end ?_
      refine c_block ?_
      refine c_loop3 (fun (j : Nat) (v3 : Value) (l2 : List LeaD) => [(0, .int .i64 now), (1, .int .u64 (last : Nat)), (3, lv), (10, .pointer (some ⟨b21, 0, none⟩)), (12, .int .i64 (j : Nat))]) (fun (j : Nat) (v3 : Value) (l2 : List LeaD) => j ≤ ls.length ∧ LeasOk now last (ls.take j) ∧ l2 = ls.take j) (fun (j : Nat) (v3 : Value) (l2 : List LeaD) => [Res.row b21 30 [.int .i64 now, .int .u64 (last : Nat), v2, v3], Res.vec 68 2 v2 b2.length (b2.flatMap BudD.cells), Res.vec 37 5 v3 l2.length (l2.flatMap LeaD.cells)]) (fun (j : Nat) (v3 : Value) (l2 : List LeaD) => ls.length - j) (fun w' hw => ⟨0, .slice none 0 0, [], ⟨rfl, rfl, rfl, rfl, rfl, trivial⟩, ⟨Nat.zero_le _, LeasOk.nil _ _, rfl⟩, (own_nil hw 37 5)⟩) (fun j v3 l2 g hΦ => ?_)
      have hj := hΦ.1
      have hLI := hΦ.2.1
      have hl2 := hΦ.2.2
      have hl2l : l2.length ≤ ls.length := by rw [hl2, List.length_take]; omega
      have hbb : b2 = bs := by rw [hb2, List.take_of_length_le (by omega)]
      have hQ : QOk now last b2 l2 := by rw [hbb]; exact (LoadOk.ok ⟨⟨by omega, by omega⟩, by omega, by omega, (by have := hBI; rwa [List.take_of_length_le (by omega)] at this), (by rw [hl2]; exact hLI)⟩ hbi).1
      refine c_seq ?_
      refine c_reg ?_
      refine l_mv rfl ?_
      refine l_mv rfl ?_
      refine l_lenS (len := ls.length) (cs := (ls.flatMap LeaD.cells)) (by kernel_rfl) rfl (fun w' hw' => Own.rd hlv hw') rfl ?_
      refine l_lss rfl rfl rfl ?_
      refine l_end ?_
      refine c_dec rfl (fun c7 => ?_) (fun c7 => ?_)
      ·
        refine c_skipC ?_
        refine c_seq ?_
        refine c_block ?_
        refine c_reg ?_
        refine l_mv rfl ?_
        refine l_mv rfl ?_
        refine l_idxS (j := j) (sz := 5) (len := ls.length) (cs := (ls.flatMap LeaD.cells)) rfl rfl (by kernel_rfl) (fun w' hw' => Own.rd hlv hw') rfl (by omega) rfl ?_
        refine l_ldSN (v := lv) (off := offV lv + j * 5) (j * 5 + 0) (cs := (ls.flatMap LeaD.cells)) (LeaD.cells (nth ls j)) rfl (by omega) (fun w' hw' => Own.rd hlv hw') (flat_atN (sz := 5) (fun _ => rfl) (nth_some (by omega)) (o := 0) (us := (LeaD.cells (nth ls j))) (fun k u h => by rw [Nat.zero_add]; exact h)) (by kernel_rfl) rfl ?_
        refine l_new (v := .agg #[.int .u64 (0 : Nat), .int .u64 (0 : Nat), .string (⟨#[]⟩ : ByteArray), .int .i64 0, .int .i64 0]) (by kernel_rfl) rfl (fun b13 => ?_)
        refine l_stN (cs := [.int .u64 (0 : Nat), .int .u64 (0 : Nat), .string (⟨#[]⟩ : ByteArray), .int .i64 0, .int .i64 0]) (vs := [.int .u64 ((nth ls j).id : Nat), .int .u64 ((nth ls j).session : Nat), .string ((nth ls j).key), .int .i64 ((nth ls j).amount), .int .i64 ((nth ls j).until_)]) 3 rfl rfl rfl (by kernel_rfl) (allc_cons rfl (allc_cons rfl (allc_cons rfl (allc_cons rfl (allc_cons rfl allc_nil))))) (Nat.le_of_ble_eq_true rfl) ?_
        refine l_end ?_
        refine c_seq ?_
        refine c_seq ?_
        refine c_heldo [0, 1, 2, 3] rfl (by decide) (by kernel_rfl) (fun w' hw hS => ?_)
        refine h_take 0 rfl (by kernel_rfl) (by kernel_rfl) (by kernel_rfl) (v_fld (o := 0) rfl (by kernel_rfl)) rfl hS ?_
        refine h_take 1 rfl (by kernel_rfl) (by kernel_rfl) (by kernel_rfl) (v_ldo 3 (v := .int .u64 ((nth ls j).id : Nat)) rfl rfl rfl (by kernel_rfl)) rfl hS ?_
        refine h_take 2 rfl (by kernel_rfl) (by kernel_rfl) (by kernel_rfl) (v_eq rfl rfl) rfl hS ?_
        refine h_take 3 rfl (by kernel_rfl) (by kernel_rfl) (by kernel_rfl) (v_mv) rfl hS ?_
        by_cases g14_3 : (((nth ls j).id : Nat) : Int) = ((0 : Nat) : Int)
        ·
          refine h_offg 4 rfl rfl (gT g14_3) rfl (by kernel_rfl) (by kernel_rfl) (by kernel_rfl) rfl hS ?_
          refine h_offg 5 rfl rfl (gT g14_3) rfl (by kernel_rfl) (by kernel_rfl) (by kernel_rfl) rfl hS ?_
          refine h_offg 6 rfl rfl (gT g14_3) rfl (by kernel_rfl) (by kernel_rfl) (by kernel_rfl) rfl hS ?_
          refine h_offg 7 rfl rfl (gT g14_3) rfl (by kernel_rfl) (by kernel_rfl) (by kernel_rfl) rfl hS ?_
          refine h_take 8 rfl (by kernel_rfl) (by kernel_rfl) (by kernel_rfl) (v_pickT (gT g14_3)) rfl hS ?_
          refine h_take 9 rfl (by kernel_rfl) (by kernel_rfl) (by kernel_rfl) (v_mv) rfl hS ?_
          refine h_offg 10 rfl rfl rfl rfl (by kernel_rfl) (by kernel_rfl) (by kernel_rfl) rfl hS ?_
          refine h_offg 11 rfl rfl rfl rfl (by kernel_rfl) (by kernel_rfl) (by kernel_rfl) rfl hS ?_
          refine h_offg 12 rfl rfl rfl rfl (by kernel_rfl) (by kernel_rfl) (by kernel_rfl) rfl hS ?_
          refine h_take 13 rfl (by kernel_rfl) (by kernel_rfl) (by kernel_rfl) (v_pickT rfl) rfl hS ?_
          refine h_take 14 rfl (by kernel_rfl) (by kernel_rfl) (by kernel_rfl) (v_mv) rfl hS ?_
          refine h_offg 15 rfl rfl rfl rfl (by kernel_rfl) (by kernel_rfl) (by kernel_rfl) rfl hS ?_
          refine h_offg 16 rfl rfl rfl rfl (by kernel_rfl) (by kernel_rfl) (by kernel_rfl) rfl hS ?_
          refine h_offg 17 rfl rfl rfl rfl (by kernel_rfl) (by kernel_rfl) (by kernel_rfl) rfl hS ?_
          refine h_offg 18 rfl rfl rfl rfl (by kernel_rfl) (by kernel_rfl) (by kernel_rfl) rfl hS ?_
          refine h_take 19 rfl (by kernel_rfl) (by kernel_rfl) (by kernel_rfl) (v_pickT rfl) rfl hS ?_
          refine h_take 20 rfl (by kernel_rfl) (by kernel_rfl) (by kernel_rfl) (v_mv) rfl hS ?_
          refine h_offg 21 rfl rfl rfl rfl (by kernel_rfl) (by kernel_rfl) (by kernel_rfl) rfl hS ?_
          refine h_offg 22 rfl rfl rfl rfl (by kernel_rfl) (by kernel_rfl) (by kernel_rfl) rfl hS ?_
          refine h_offg 23 rfl rfl rfl rfl (by kernel_rfl) (by kernel_rfl) (by kernel_rfl) rfl hS ?_
          refine h_take 24 rfl (by kernel_rfl) (by kernel_rfl) (by kernel_rfl) (v_pickT rfl) rfl hS ?_
          refine h_take 25 rfl (by kernel_rfl) (by kernel_rfl) (by kernel_rfl) (v_mv) rfl hS ?_
          refine h_offg 26 rfl rfl rfl rfl (by kernel_rfl) (by kernel_rfl) (by kernel_rfl) rfl hS ?_
          refine h_offg 27 rfl rfl rfl rfl (by kernel_rfl) (by kernel_rfl) (by kernel_rfl) rfl hS ?_
          refine h_offg 28 rfl rfl rfl rfl (by kernel_rfl) (by kernel_rfl) (by kernel_rfl) rfl hS ?_
          refine h_offg 29 rfl rfl rfl rfl (by kernel_rfl) (by kernel_rfl) (by kernel_rfl) rfl hS ?_
          refine h_take 30 rfl (by kernel_rfl) (by kernel_rfl) (by kernel_rfl) (v_pickT rfl) rfl hS ?_
          refine h_take 31 rfl (by kernel_rfl) (by kernel_rfl) (by kernel_rfl) (v_mv) rfl hS ?_
          refine h_offg 32 rfl rfl rfl rfl (by kernel_rfl) (by kernel_rfl) (by kernel_rfl) rfl hS ?_
          refine h_offg 33 rfl rfl rfl rfl (by kernel_rfl) (by kernel_rfl) (by kernel_rfl) rfl hS ?_
          refine h_offg 34 rfl rfl rfl rfl (by kernel_rfl) (by kernel_rfl) (by kernel_rfl) rfl hS ?_
          refine h_take 35 rfl (by kernel_rfl) (by kernel_rfl) (by kernel_rfl) (v_pickT rfl) rfl hS ?_
          refine h_take 36 rfl (by kernel_rfl) (by kernel_rfl) (by kernel_rfl) (v_mv) rfl hS ?_
          refine h_offg 37 rfl rfl rfl rfl (by kernel_rfl) (by kernel_rfl) (by kernel_rfl) rfl hS ?_
          refine h_offg 38 rfl rfl rfl rfl (by kernel_rfl) (by kernel_rfl) (by kernel_rfl) rfl hS ?_
          refine h_offg 39 rfl rfl rfl rfl (by kernel_rfl) (by kernel_rfl) (by kernel_rfl) rfl hS ?_
          refine h_offu 40 rfl rfl rfl (by kernel_rfl) (by kernel_rfl) (by kernel_rfl) rfl hS ?_
          refine h_offu 41 rfl rfl rfl (by kernel_rfl) (by kernel_rfl) (by kernel_rfl) rfl hS ?_
          refine h_offu 42 rfl rfl rfl (by kernel_rfl) (by kernel_rfl) (by kernel_rfl) rfl hS ?_
          refine h_offu 43 rfl rfl rfl (by kernel_rfl) (by kernel_rfl) (by kernel_rfl) rfl hS ?_
          refine h_offu 44 rfl rfl rfl (by kernel_rfl) (by kernel_rfl) (by kernel_rfl) rfl hS ?_
          refine h_offu 45 rfl rfl rfl (by kernel_rfl) (by kernel_rfl) (by kernel_rfl) rfl hS ?_
          refine h_offu 46 rfl rfl rfl (by kernel_rfl) (by kernel_rfl) (by kernel_rfl) rfl hS ?_
          refine h_offu 47 rfl rfl rfl (by kernel_rfl) (by kernel_rfl) (by kernel_rfl) rfl hS ?_
          refine h_offu 48 rfl rfl rfl (by kernel_rfl) (by kernel_rfl) (by kernel_rfl) rfl hS ?_
          refine h_offg 49 rfl rfl rfl rfl (by kernel_rfl) (by kernel_rfl) (by kernel_rfl) rfl hS ?_
          refine h_take 50 rfl (by kernel_rfl) (by kernel_rfl) (by kernel_rfl) (v_pickT rfl) rfl hS ?_
          refine h_done (by kernel_rfl) ?_
          refine (?_ : C _ _ _ _ _ _ _ (Own w [] [Res.row b21 30 [.int .i64 now, .int .u64 (last : Nat), v2, v3], Res.vec 68 2 v2 b2.length (b2.flatMap BudD.cells), Res.vec 37 5 v3 l2.length (l2.flatMap LeaD.cells), Res.row b13 37 (LeaD.cells (nth ls j))])) _ hw
          refine c_yes rfl ?_
          refine c_reg ?_
          refine l_as rfl ?_
          refine l_as rfl ?_
          refine l_end ?_
          exact c_ret (ret2 (v := .pointer none) (v' := .bool false) rfl rfl rfl (fun w' hw => ⟨.pointer none, b21, v2, v3, b2, l2, (by first | rfl | rw [decide_eq_false (noLea (i := j) (by omega) (fun o => by have := o.1; omega))]), no_pv (noLea (i := j) (by omega) (fun o => by have := o.1; omega)), hw.sel [0, 1, 2] rfl (by decide)⟩))
        ·
          refine h_takeg 4 rfl rfl (gF g14_3) (by kernel_rfl) (by kernel_rfl) (by kernel_rfl) (v_fld (o := 0) rfl (by kernel_rfl)) rfl hS ?_
          refine h_takeg 5 rfl rfl (gF g14_3) (by kernel_rfl) (by kernel_rfl) (by kernel_rfl) (v_ldo 3 (v := .int .u64 ((nth ls j).id : Nat)) rfl rfl rfl (by kernel_rfl)) rfl hS ?_
          refine h_takeg 6 rfl rfl (gF g14_3) (by kernel_rfl) (by kernel_rfl) (by kernel_rfl) (v_mv) rfl hS ?_
          refine h_takeg 7 rfl rfl (gF g14_3) (by kernel_rfl) (by kernel_rfl) (by kernel_rfl) (v_gtr rfl rfl) rfl hS ?_
          refine h_take 8 rfl (by kernel_rfl) (by kernel_rfl) (by kernel_rfl) (v_pickF (gF g14_3)) rfl hS ?_
          refine h_take 9 rfl (by kernel_rfl) (by kernel_rfl) (by kernel_rfl) (v_mv) rfl hS ?_
          by_cases g14_9 : ((last : Nat) : Int) < (((nth ls j).id : Nat) : Int)
          ·
            refine h_offg 10 rfl rfl (gT g14_9) rfl (by kernel_rfl) (by kernel_rfl) (by kernel_rfl) rfl hS ?_
            refine h_offg 11 rfl rfl (gT g14_9) rfl (by kernel_rfl) (by kernel_rfl) (by kernel_rfl) rfl hS ?_
            refine h_offg 12 rfl rfl (gT g14_9) rfl (by kernel_rfl) (by kernel_rfl) (by kernel_rfl) rfl hS ?_
            refine h_take 13 rfl (by kernel_rfl) (by kernel_rfl) (by kernel_rfl) (v_pickT (gT g14_9)) rfl hS ?_
            refine h_take 14 rfl (by kernel_rfl) (by kernel_rfl) (by kernel_rfl) (v_mv) rfl hS ?_
            refine h_offg 15 rfl rfl rfl rfl (by kernel_rfl) (by kernel_rfl) (by kernel_rfl) rfl hS ?_
            refine h_offg 16 rfl rfl rfl rfl (by kernel_rfl) (by kernel_rfl) (by kernel_rfl) rfl hS ?_
            refine h_offg 17 rfl rfl rfl rfl (by kernel_rfl) (by kernel_rfl) (by kernel_rfl) rfl hS ?_
            refine h_offg 18 rfl rfl rfl rfl (by kernel_rfl) (by kernel_rfl) (by kernel_rfl) rfl hS ?_
            refine h_take 19 rfl (by kernel_rfl) (by kernel_rfl) (by kernel_rfl) (v_pickT rfl) rfl hS ?_
            refine h_take 20 rfl (by kernel_rfl) (by kernel_rfl) (by kernel_rfl) (v_mv) rfl hS ?_
            refine h_offg 21 rfl rfl rfl rfl (by kernel_rfl) (by kernel_rfl) (by kernel_rfl) rfl hS ?_
            refine h_offg 22 rfl rfl rfl rfl (by kernel_rfl) (by kernel_rfl) (by kernel_rfl) rfl hS ?_
            refine h_offg 23 rfl rfl rfl rfl (by kernel_rfl) (by kernel_rfl) (by kernel_rfl) rfl hS ?_
            refine h_take 24 rfl (by kernel_rfl) (by kernel_rfl) (by kernel_rfl) (v_pickT rfl) rfl hS ?_
            refine h_take 25 rfl (by kernel_rfl) (by kernel_rfl) (by kernel_rfl) (v_mv) rfl hS ?_
            refine h_offg 26 rfl rfl rfl rfl (by kernel_rfl) (by kernel_rfl) (by kernel_rfl) rfl hS ?_
            refine h_offg 27 rfl rfl rfl rfl (by kernel_rfl) (by kernel_rfl) (by kernel_rfl) rfl hS ?_
            refine h_offg 28 rfl rfl rfl rfl (by kernel_rfl) (by kernel_rfl) (by kernel_rfl) rfl hS ?_
            refine h_offg 29 rfl rfl rfl rfl (by kernel_rfl) (by kernel_rfl) (by kernel_rfl) rfl hS ?_
            refine h_take 30 rfl (by kernel_rfl) (by kernel_rfl) (by kernel_rfl) (v_pickT rfl) rfl hS ?_
            refine h_take 31 rfl (by kernel_rfl) (by kernel_rfl) (by kernel_rfl) (v_mv) rfl hS ?_
            refine h_offg 32 rfl rfl rfl rfl (by kernel_rfl) (by kernel_rfl) (by kernel_rfl) rfl hS ?_
            refine h_offg 33 rfl rfl rfl rfl (by kernel_rfl) (by kernel_rfl) (by kernel_rfl) rfl hS ?_
            refine h_offg 34 rfl rfl rfl rfl (by kernel_rfl) (by kernel_rfl) (by kernel_rfl) rfl hS ?_
            refine h_take 35 rfl (by kernel_rfl) (by kernel_rfl) (by kernel_rfl) (v_pickT rfl) rfl hS ?_
            refine h_take 36 rfl (by kernel_rfl) (by kernel_rfl) (by kernel_rfl) (v_mv) rfl hS ?_
            refine h_offg 37 rfl rfl rfl rfl (by kernel_rfl) (by kernel_rfl) (by kernel_rfl) rfl hS ?_
            refine h_offg 38 rfl rfl rfl rfl (by kernel_rfl) (by kernel_rfl) (by kernel_rfl) rfl hS ?_
            refine h_offg 39 rfl rfl rfl rfl (by kernel_rfl) (by kernel_rfl) (by kernel_rfl) rfl hS ?_
            refine h_offu 40 rfl rfl rfl (by kernel_rfl) (by kernel_rfl) (by kernel_rfl) rfl hS ?_
            refine h_offu 41 rfl rfl rfl (by kernel_rfl) (by kernel_rfl) (by kernel_rfl) rfl hS ?_
            refine h_offu 42 rfl rfl rfl (by kernel_rfl) (by kernel_rfl) (by kernel_rfl) rfl hS ?_
            refine h_offu 43 rfl rfl rfl (by kernel_rfl) (by kernel_rfl) (by kernel_rfl) rfl hS ?_
            refine h_offu 44 rfl rfl rfl (by kernel_rfl) (by kernel_rfl) (by kernel_rfl) rfl hS ?_
            refine h_offu 45 rfl rfl rfl (by kernel_rfl) (by kernel_rfl) (by kernel_rfl) rfl hS ?_
            refine h_offu 46 rfl rfl rfl (by kernel_rfl) (by kernel_rfl) (by kernel_rfl) rfl hS ?_
            refine h_offu 47 rfl rfl rfl (by kernel_rfl) (by kernel_rfl) (by kernel_rfl) rfl hS ?_
            refine h_offu 48 rfl rfl rfl (by kernel_rfl) (by kernel_rfl) (by kernel_rfl) rfl hS ?_
            refine h_offg 49 rfl rfl rfl rfl (by kernel_rfl) (by kernel_rfl) (by kernel_rfl) rfl hS ?_
            refine h_take 50 rfl (by kernel_rfl) (by kernel_rfl) (by kernel_rfl) (v_pickT rfl) rfl hS ?_
            refine h_done (by kernel_rfl) ?_
            refine (?_ : C _ _ _ _ _ _ _ (Own w [] [Res.row b21 30 [.int .i64 now, .int .u64 (last : Nat), v2, v3], Res.vec 68 2 v2 b2.length (b2.flatMap BudD.cells), Res.vec 37 5 v3 l2.length (l2.flatMap LeaD.cells), Res.row b13 37 (LeaD.cells (nth ls j))])) _ hw
            refine c_yes rfl ?_
            refine c_reg ?_
            refine l_as rfl ?_
            refine l_as rfl ?_
            refine l_end ?_
            exact c_ret (ret2 (v := .pointer none) (v' := .bool false) rfl rfl rfl (fun w' hw => ⟨.pointer none, b21, v2, v3, b2, l2, (by first | rfl | rw [decide_eq_false (noLea (i := j) (by omega) (fun o => by have := o.2.1; omega))]), no_pv (noLea (i := j) (by omega) (fun o => by have := o.2.1; omega)), hw.sel [0, 1, 2] rfl (by decide)⟩))
          ·
            refine h_takeg 10 rfl rfl (gF g14_9) (by kernel_rfl) (by kernel_rfl) (by kernel_rfl) (v_fld (o := 1) rfl (by kernel_rfl)) rfl hS ?_
            refine h_takeg 11 rfl rfl (gF g14_9) (by kernel_rfl) (by kernel_rfl) (by kernel_rfl) (v_ldo 3 (v := .int .u64 ((nth ls j).session : Nat)) rfl rfl rfl (by kernel_rfl)) rfl hS ?_
            refine h_takeg 12 rfl rfl (gF g14_9) (by kernel_rfl) (by kernel_rfl) (by kernel_rfl) (v_eq rfl rfl) rfl hS ?_
            refine h_take 13 rfl (by kernel_rfl) (by kernel_rfl) (by kernel_rfl) (v_pickF (gF g14_9)) rfl hS ?_
            refine h_take 14 rfl (by kernel_rfl) (by kernel_rfl) (by kernel_rfl) (v_mv) rfl hS ?_
            by_cases g14_14 : (((nth ls j).session : Nat) : Int) = ((0 : Nat) : Int)
            ·
              refine h_offg 15 rfl rfl (gT g14_14) rfl (by kernel_rfl) (by kernel_rfl) (by kernel_rfl) rfl hS ?_
              refine h_offg 16 rfl rfl (gT g14_14) rfl (by kernel_rfl) (by kernel_rfl) (by kernel_rfl) rfl hS ?_
              refine h_offg 17 rfl rfl (gT g14_14) rfl (by kernel_rfl) (by kernel_rfl) (by kernel_rfl) rfl hS ?_
              refine h_offg 18 rfl rfl (gT g14_14) rfl (by kernel_rfl) (by kernel_rfl) (by kernel_rfl) rfl hS ?_
              refine h_take 19 rfl (by kernel_rfl) (by kernel_rfl) (by kernel_rfl) (v_pickT (gT g14_14)) rfl hS ?_
              refine h_take 20 rfl (by kernel_rfl) (by kernel_rfl) (by kernel_rfl) (v_mv) rfl hS ?_
              refine h_offg 21 rfl rfl rfl rfl (by kernel_rfl) (by kernel_rfl) (by kernel_rfl) rfl hS ?_
              refine h_offg 22 rfl rfl rfl rfl (by kernel_rfl) (by kernel_rfl) (by kernel_rfl) rfl hS ?_
              refine h_offg 23 rfl rfl rfl rfl (by kernel_rfl) (by kernel_rfl) (by kernel_rfl) rfl hS ?_
              refine h_take 24 rfl (by kernel_rfl) (by kernel_rfl) (by kernel_rfl) (v_pickT rfl) rfl hS ?_
              refine h_take 25 rfl (by kernel_rfl) (by kernel_rfl) (by kernel_rfl) (v_mv) rfl hS ?_
              refine h_offg 26 rfl rfl rfl rfl (by kernel_rfl) (by kernel_rfl) (by kernel_rfl) rfl hS ?_
              refine h_offg 27 rfl rfl rfl rfl (by kernel_rfl) (by kernel_rfl) (by kernel_rfl) rfl hS ?_
              refine h_offg 28 rfl rfl rfl rfl (by kernel_rfl) (by kernel_rfl) (by kernel_rfl) rfl hS ?_
              refine h_offg 29 rfl rfl rfl rfl (by kernel_rfl) (by kernel_rfl) (by kernel_rfl) rfl hS ?_
              refine h_take 30 rfl (by kernel_rfl) (by kernel_rfl) (by kernel_rfl) (v_pickT rfl) rfl hS ?_
              refine h_take 31 rfl (by kernel_rfl) (by kernel_rfl) (by kernel_rfl) (v_mv) rfl hS ?_
              refine h_offg 32 rfl rfl rfl rfl (by kernel_rfl) (by kernel_rfl) (by kernel_rfl) rfl hS ?_
              refine h_offg 33 rfl rfl rfl rfl (by kernel_rfl) (by kernel_rfl) (by kernel_rfl) rfl hS ?_
              refine h_offg 34 rfl rfl rfl rfl (by kernel_rfl) (by kernel_rfl) (by kernel_rfl) rfl hS ?_
              refine h_take 35 rfl (by kernel_rfl) (by kernel_rfl) (by kernel_rfl) (v_pickT rfl) rfl hS ?_
              refine h_take 36 rfl (by kernel_rfl) (by kernel_rfl) (by kernel_rfl) (v_mv) rfl hS ?_
              refine h_offg 37 rfl rfl rfl rfl (by kernel_rfl) (by kernel_rfl) (by kernel_rfl) rfl hS ?_
              refine h_offg 38 rfl rfl rfl rfl (by kernel_rfl) (by kernel_rfl) (by kernel_rfl) rfl hS ?_
              refine h_offg 39 rfl rfl rfl rfl (by kernel_rfl) (by kernel_rfl) (by kernel_rfl) rfl hS ?_
              refine h_offu 40 rfl rfl rfl (by kernel_rfl) (by kernel_rfl) (by kernel_rfl) rfl hS ?_
              refine h_offu 41 rfl rfl rfl (by kernel_rfl) (by kernel_rfl) (by kernel_rfl) rfl hS ?_
              refine h_offu 42 rfl rfl rfl (by kernel_rfl) (by kernel_rfl) (by kernel_rfl) rfl hS ?_
              refine h_offu 43 rfl rfl rfl (by kernel_rfl) (by kernel_rfl) (by kernel_rfl) rfl hS ?_
              refine h_offu 44 rfl rfl rfl (by kernel_rfl) (by kernel_rfl) (by kernel_rfl) rfl hS ?_
              refine h_offu 45 rfl rfl rfl (by kernel_rfl) (by kernel_rfl) (by kernel_rfl) rfl hS ?_
              refine h_offu 46 rfl rfl rfl (by kernel_rfl) (by kernel_rfl) (by kernel_rfl) rfl hS ?_
              refine h_offu 47 rfl rfl rfl (by kernel_rfl) (by kernel_rfl) (by kernel_rfl) rfl hS ?_
              refine h_offu 48 rfl rfl rfl (by kernel_rfl) (by kernel_rfl) (by kernel_rfl) rfl hS ?_
              refine h_offg 49 rfl rfl rfl rfl (by kernel_rfl) (by kernel_rfl) (by kernel_rfl) rfl hS ?_
              refine h_take 50 rfl (by kernel_rfl) (by kernel_rfl) (by kernel_rfl) (v_pickT rfl) rfl hS ?_
              refine h_done (by kernel_rfl) ?_
              refine (?_ : C _ _ _ _ _ _ _ (Own w [] [Res.row b21 30 [.int .i64 now, .int .u64 (last : Nat), v2, v3], Res.vec 68 2 v2 b2.length (b2.flatMap BudD.cells), Res.vec 37 5 v3 l2.length (l2.flatMap LeaD.cells), Res.row b13 37 (LeaD.cells (nth ls j))])) _ hw
              refine c_yes rfl ?_
              refine c_reg ?_
              refine l_as rfl ?_
              refine l_as rfl ?_
              refine l_end ?_
              exact c_ret (ret2 (v := .pointer none) (v' := .bool false) rfl rfl rfl (fun w' hw => ⟨.pointer none, b21, v2, v3, b2, l2, (by first | rfl | rw [decide_eq_false (noLea (i := j) (by omega) (fun o => by have := o.2.2.1; omega))]), no_pv (noLea (i := j) (by omega) (fun o => by have := o.2.2.1; omega)), hw.sel [0, 1, 2] rfl (by decide)⟩))
            ·
              refine h_takeg 15 rfl rfl (gF g14_14) (by kernel_rfl) (by kernel_rfl) (by kernel_rfl) (v_fld (o := 2) rfl (by kernel_rfl)) rfl hS ?_
              refine h_takeg 16 rfl rfl (gF g14_14) (by kernel_rfl) (by kernel_rfl) (by kernel_rfl) (v_ldo 3 (v := .string ((nth ls j).key)) rfl rfl rfl (by kernel_rfl)) rfl hS ?_
              refine h_one 17 (by kernel_rfl) rfl hw ?_
              refine l_on rfl (gF g14_14) ?_
              refine l_call (by kernel_rfl) rfl rfl (fun w' hw => ?_)
              refine (rkeyed_s ((nth ls j).key) w').mono ?_
              rintro _ w1 ⟨rfl, hO⟩
              refine (?_ : CL _ _ _ _ _ _ (Own w [] [Res.row b21 30 [.int .i64 now, .int .u64 (last : Nat), v2, v3], Res.vec 68 2 v2 b2.length (b2.flatMap BudD.cells), Res.vec 37 5 v3 l2.length (l2.flatMap LeaD.cells), Res.row b13 37 (LeaD.cells (nth ls j))])) w1 (hw.frame0 hO)
              refine l_nil (fun w' hw => ?_)
              have hS := hw.sel [0, 1, 2, 3] rfl (by decide)
              refine ⟨hS, ?_⟩
              refine h_takeg 18 rfl rfl (gF g14_14) (by kernel_rfl) (by kernel_rfl) (by kernel_rfl) (v_notp (q := keyOk ((nth ls j).key)) rfl) rfl hS ?_
              refine h_take 19 rfl (by kernel_rfl) (by kernel_rfl) (by kernel_rfl) (v_pickF (gF g14_14)) rfl hS ?_
              refine h_take 20 rfl (by kernel_rfl) (by kernel_rfl) (by kernel_rfl) (v_mv) rfl hS ?_
              by_cases g14_20 : ¬ (keyOk ((nth ls j).key))
              ·
                refine h_offg 21 rfl rfl (gT g14_20) rfl (by kernel_rfl) (by kernel_rfl) (by kernel_rfl) rfl hS ?_
                refine h_offg 22 rfl rfl (gT g14_20) rfl (by kernel_rfl) (by kernel_rfl) (by kernel_rfl) rfl hS ?_
                refine h_offg 23 rfl rfl (gT g14_20) rfl (by kernel_rfl) (by kernel_rfl) (by kernel_rfl) rfl hS ?_
                refine h_take 24 rfl (by kernel_rfl) (by kernel_rfl) (by kernel_rfl) (v_pickT (gT g14_20)) rfl hS ?_
                refine h_take 25 rfl (by kernel_rfl) (by kernel_rfl) (by kernel_rfl) (v_mv) rfl hS ?_
                refine h_offg 26 rfl rfl rfl rfl (by kernel_rfl) (by kernel_rfl) (by kernel_rfl) rfl hS ?_
                refine h_offg 27 rfl rfl rfl rfl (by kernel_rfl) (by kernel_rfl) (by kernel_rfl) rfl hS ?_
                refine h_offg 28 rfl rfl rfl rfl (by kernel_rfl) (by kernel_rfl) (by kernel_rfl) rfl hS ?_
                refine h_offg 29 rfl rfl rfl rfl (by kernel_rfl) (by kernel_rfl) (by kernel_rfl) rfl hS ?_
                refine h_take 30 rfl (by kernel_rfl) (by kernel_rfl) (by kernel_rfl) (v_pickT rfl) rfl hS ?_
                refine h_take 31 rfl (by kernel_rfl) (by kernel_rfl) (by kernel_rfl) (v_mv) rfl hS ?_
                refine h_offg 32 rfl rfl rfl rfl (by kernel_rfl) (by kernel_rfl) (by kernel_rfl) rfl hS ?_
                refine h_offg 33 rfl rfl rfl rfl (by kernel_rfl) (by kernel_rfl) (by kernel_rfl) rfl hS ?_
                refine h_offg 34 rfl rfl rfl rfl (by kernel_rfl) (by kernel_rfl) (by kernel_rfl) rfl hS ?_
                refine h_take 35 rfl (by kernel_rfl) (by kernel_rfl) (by kernel_rfl) (v_pickT rfl) rfl hS ?_
                refine h_take 36 rfl (by kernel_rfl) (by kernel_rfl) (by kernel_rfl) (v_mv) rfl hS ?_
                refine h_offg 37 rfl rfl rfl rfl (by kernel_rfl) (by kernel_rfl) (by kernel_rfl) rfl hS ?_
                refine h_offg 38 rfl rfl rfl rfl (by kernel_rfl) (by kernel_rfl) (by kernel_rfl) rfl hS ?_
                refine h_offg 39 rfl rfl rfl rfl (by kernel_rfl) (by kernel_rfl) (by kernel_rfl) rfl hS ?_
                refine h_offu 40 rfl rfl rfl (by kernel_rfl) (by kernel_rfl) (by kernel_rfl) rfl hS ?_
                refine h_offu 41 rfl rfl rfl (by kernel_rfl) (by kernel_rfl) (by kernel_rfl) rfl hS ?_
                refine h_offu 42 rfl rfl rfl (by kernel_rfl) (by kernel_rfl) (by kernel_rfl) rfl hS ?_
                refine h_offu 43 rfl rfl rfl (by kernel_rfl) (by kernel_rfl) (by kernel_rfl) rfl hS ?_
                refine h_offu 44 rfl rfl rfl (by kernel_rfl) (by kernel_rfl) (by kernel_rfl) rfl hS ?_
                refine h_offu 45 rfl rfl rfl (by kernel_rfl) (by kernel_rfl) (by kernel_rfl) rfl hS ?_
                refine h_offu 46 rfl rfl rfl (by kernel_rfl) (by kernel_rfl) (by kernel_rfl) rfl hS ?_
                refine h_offu 47 rfl rfl rfl (by kernel_rfl) (by kernel_rfl) (by kernel_rfl) rfl hS ?_
                refine h_offu 48 rfl rfl rfl (by kernel_rfl) (by kernel_rfl) (by kernel_rfl) rfl hS ?_
                refine h_offg 49 rfl rfl rfl rfl (by kernel_rfl) (by kernel_rfl) (by kernel_rfl) rfl hS ?_
                refine h_take 50 rfl (by kernel_rfl) (by kernel_rfl) (by kernel_rfl) (v_pickT rfl) rfl hS ?_
                refine h_done (by kernel_rfl) ?_
                refine (?_ : C _ _ _ _ _ _ _ (Own w [] [Res.row b21 30 [.int .i64 now, .int .u64 (last : Nat), v2, v3], Res.vec 68 2 v2 b2.length (b2.flatMap BudD.cells), Res.vec 37 5 v3 l2.length (l2.flatMap LeaD.cells), Res.row b13 37 (LeaD.cells (nth ls j))])) _ hw
                refine c_yes rfl ?_
                refine c_reg ?_
                refine l_as rfl ?_
                refine l_as rfl ?_
                refine l_end ?_
                exact c_ret (ret2 (v := .pointer none) (v' := .bool false) rfl rfl rfl (fun w' hw => ⟨.pointer none, b21, v2, v3, b2, l2, (by first | rfl | rw [decide_eq_false (noLea (i := j) (by omega) (fun o => g14_20 o.2.2.2.1))]), no_pv (noLea (i := j) (by omega) (fun o => g14_20 o.2.2.2.1)), hw.sel [0, 1, 2] rfl (by decide)⟩))
              ·
                refine h_takeg 21 rfl rfl (gF g14_20) (by kernel_rfl) (by kernel_rfl) (by kernel_rfl) (v_fld (o := 3) rfl (by kernel_rfl)) rfl hS ?_
                refine h_takeg 22 rfl rfl (gF g14_20) (by kernel_rfl) (by kernel_rfl) (by kernel_rfl) (v_ldo 3 (v := .int .i64 ((nth ls j).amount)) rfl rfl rfl (by kernel_rfl)) rfl hS ?_
                refine h_takeg 23 rfl rfl (gF g14_20) (by kernel_rfl) (by kernel_rfl) (by kernel_rfl) (v_lss rfl rfl) rfl hS ?_
                refine h_take 24 rfl (by kernel_rfl) (by kernel_rfl) (by kernel_rfl) (v_pickF (gF g14_20)) rfl hS ?_
                refine h_take 25 rfl (by kernel_rfl) (by kernel_rfl) (by kernel_rfl) (v_mv) rfl hS ?_
                by_cases g14_25 : ((nth ls j).amount) < 1
                ·
                  refine h_offg 26 rfl rfl (gT g14_25) rfl (by kernel_rfl) (by kernel_rfl) (by kernel_rfl) rfl hS ?_
                  refine h_offg 27 rfl rfl (gT g14_25) rfl (by kernel_rfl) (by kernel_rfl) (by kernel_rfl) rfl hS ?_
                  refine h_offg 28 rfl rfl (gT g14_25) rfl (by kernel_rfl) (by kernel_rfl) (by kernel_rfl) rfl hS ?_
                  refine h_offg 29 rfl rfl (gT g14_25) rfl (by kernel_rfl) (by kernel_rfl) (by kernel_rfl) rfl hS ?_
                  refine h_take 30 rfl (by kernel_rfl) (by kernel_rfl) (by kernel_rfl) (v_pickT (gT g14_25)) rfl hS ?_
                  refine h_take 31 rfl (by kernel_rfl) (by kernel_rfl) (by kernel_rfl) (v_mv) rfl hS ?_
                  refine h_offg 32 rfl rfl rfl rfl (by kernel_rfl) (by kernel_rfl) (by kernel_rfl) rfl hS ?_
                  refine h_offg 33 rfl rfl rfl rfl (by kernel_rfl) (by kernel_rfl) (by kernel_rfl) rfl hS ?_
                  refine h_offg 34 rfl rfl rfl rfl (by kernel_rfl) (by kernel_rfl) (by kernel_rfl) rfl hS ?_
                  refine h_take 35 rfl (by kernel_rfl) (by kernel_rfl) (by kernel_rfl) (v_pickT rfl) rfl hS ?_
                  refine h_take 36 rfl (by kernel_rfl) (by kernel_rfl) (by kernel_rfl) (v_mv) rfl hS ?_
                  refine h_offg 37 rfl rfl rfl rfl (by kernel_rfl) (by kernel_rfl) (by kernel_rfl) rfl hS ?_
                  refine h_offg 38 rfl rfl rfl rfl (by kernel_rfl) (by kernel_rfl) (by kernel_rfl) rfl hS ?_
                  refine h_offg 39 rfl rfl rfl rfl (by kernel_rfl) (by kernel_rfl) (by kernel_rfl) rfl hS ?_
                  refine h_offu 40 rfl rfl rfl (by kernel_rfl) (by kernel_rfl) (by kernel_rfl) rfl hS ?_
                  refine h_offu 41 rfl rfl rfl (by kernel_rfl) (by kernel_rfl) (by kernel_rfl) rfl hS ?_
                  refine h_offu 42 rfl rfl rfl (by kernel_rfl) (by kernel_rfl) (by kernel_rfl) rfl hS ?_
                  refine h_offu 43 rfl rfl rfl (by kernel_rfl) (by kernel_rfl) (by kernel_rfl) rfl hS ?_
                  refine h_offu 44 rfl rfl rfl (by kernel_rfl) (by kernel_rfl) (by kernel_rfl) rfl hS ?_
                  refine h_offu 45 rfl rfl rfl (by kernel_rfl) (by kernel_rfl) (by kernel_rfl) rfl hS ?_
                  refine h_offu 46 rfl rfl rfl (by kernel_rfl) (by kernel_rfl) (by kernel_rfl) rfl hS ?_
                  refine h_offu 47 rfl rfl rfl (by kernel_rfl) (by kernel_rfl) (by kernel_rfl) rfl hS ?_
                  refine h_offu 48 rfl rfl rfl (by kernel_rfl) (by kernel_rfl) (by kernel_rfl) rfl hS ?_
                  refine h_offg 49 rfl rfl rfl rfl (by kernel_rfl) (by kernel_rfl) (by kernel_rfl) rfl hS ?_
                  refine h_take 50 rfl (by kernel_rfl) (by kernel_rfl) (by kernel_rfl) (v_pickT rfl) rfl hS ?_
                  refine h_done (by kernel_rfl) ?_
                  refine (?_ : C _ _ _ _ _ _ _ (Own w [] [Res.row b21 30 [.int .i64 now, .int .u64 (last : Nat), v2, v3], Res.vec 68 2 v2 b2.length (b2.flatMap BudD.cells), Res.vec 37 5 v3 l2.length (l2.flatMap LeaD.cells), Res.row b13 37 (LeaD.cells (nth ls j))])) _ hw
                  refine c_yes rfl ?_
                  refine c_reg ?_
                  refine l_as rfl ?_
                  refine l_as rfl ?_
                  refine l_end ?_
                  exact c_ret (ret2 (v := .pointer none) (v' := .bool false) rfl rfl rfl (fun w' hw => ⟨.pointer none, b21, v2, v3, b2, l2, (by first | rfl | rw [decide_eq_false (noLea (i := j) (by omega) (fun o => by have := o.2.2.2.2.1; omega))]), no_pv (noLea (i := j) (by omega) (fun o => by have := o.2.2.2.2.1; omega)), hw.sel [0, 1, 2] rfl (by decide)⟩))
                ·
                  refine h_takeg 26 rfl rfl (gF g14_25) (by kernel_rfl) (by kernel_rfl) (by kernel_rfl) (v_fld (o := 4) rfl (by kernel_rfl)) rfl hS ?_
                  refine h_takeg 27 rfl rfl (gF g14_25) (by kernel_rfl) (by kernel_rfl) (by kernel_rfl) (v_ldo 3 (v := .int .i64 ((nth ls j).until_)) rfl rfl rfl (by kernel_rfl)) rfl hS ?_
                  refine h_takeg 28 rfl rfl (gF g14_25) (by kernel_rfl) (by kernel_rfl) (by kernel_rfl) (v_mv) rfl hS ?_
                  refine h_takeg 29 rfl rfl (gF g14_25) (by kernel_rfl) (by kernel_rfl) (by kernel_rfl) (v_leq rfl rfl) rfl hS ?_
                  refine h_take 30 rfl (by kernel_rfl) (by kernel_rfl) (by kernel_rfl) (v_pickF (gF g14_25)) rfl hS ?_
                  refine h_take 31 rfl (by kernel_rfl) (by kernel_rfl) (by kernel_rfl) (v_mv) rfl hS ?_
                  by_cases g14_31 : ((nth ls j).until_) ≤ now
                  ·
                    refine h_offg 32 rfl rfl (gT g14_31) rfl (by kernel_rfl) (by kernel_rfl) (by kernel_rfl) rfl hS ?_
                    refine h_offg 33 rfl rfl (gT g14_31) rfl (by kernel_rfl) (by kernel_rfl) (by kernel_rfl) rfl hS ?_
                    refine h_offg 34 rfl rfl (gT g14_31) rfl (by kernel_rfl) (by kernel_rfl) (by kernel_rfl) rfl hS ?_
                    refine h_take 35 rfl (by kernel_rfl) (by kernel_rfl) (by kernel_rfl) (v_pickT (gT g14_31)) rfl hS ?_
                    refine h_take 36 rfl (by kernel_rfl) (by kernel_rfl) (by kernel_rfl) (v_mv) rfl hS ?_
                    refine h_offg 37 rfl rfl rfl rfl (by kernel_rfl) (by kernel_rfl) (by kernel_rfl) rfl hS ?_
                    refine h_offg 38 rfl rfl rfl rfl (by kernel_rfl) (by kernel_rfl) (by kernel_rfl) rfl hS ?_
                    refine h_offg 39 rfl rfl rfl rfl (by kernel_rfl) (by kernel_rfl) (by kernel_rfl) rfl hS ?_
                    refine h_offu 40 rfl rfl rfl (by kernel_rfl) (by kernel_rfl) (by kernel_rfl) rfl hS ?_
                    refine h_offu 41 rfl rfl rfl (by kernel_rfl) (by kernel_rfl) (by kernel_rfl) rfl hS ?_
                    refine h_offu 42 rfl rfl rfl (by kernel_rfl) (by kernel_rfl) (by kernel_rfl) rfl hS ?_
                    refine h_offu 43 rfl rfl rfl (by kernel_rfl) (by kernel_rfl) (by kernel_rfl) rfl hS ?_
                    refine h_offu 44 rfl rfl rfl (by kernel_rfl) (by kernel_rfl) (by kernel_rfl) rfl hS ?_
                    refine h_offu 45 rfl rfl rfl (by kernel_rfl) (by kernel_rfl) (by kernel_rfl) rfl hS ?_
                    refine h_offu 46 rfl rfl rfl (by kernel_rfl) (by kernel_rfl) (by kernel_rfl) rfl hS ?_
                    refine h_offu 47 rfl rfl rfl (by kernel_rfl) (by kernel_rfl) (by kernel_rfl) rfl hS ?_
                    refine h_offu 48 rfl rfl rfl (by kernel_rfl) (by kernel_rfl) (by kernel_rfl) rfl hS ?_
                    refine h_offg 49 rfl rfl rfl rfl (by kernel_rfl) (by kernel_rfl) (by kernel_rfl) rfl hS ?_
                    refine h_take 50 rfl (by kernel_rfl) (by kernel_rfl) (by kernel_rfl) (v_pickT rfl) rfl hS ?_
                    refine h_done (by kernel_rfl) ?_
                    refine (?_ : C _ _ _ _ _ _ _ (Own w [] [Res.row b21 30 [.int .i64 now, .int .u64 (last : Nat), v2, v3], Res.vec 68 2 v2 b2.length (b2.flatMap BudD.cells), Res.vec 37 5 v3 l2.length (l2.flatMap LeaD.cells), Res.row b13 37 (LeaD.cells (nth ls j))])) _ hw
                    refine c_yes rfl ?_
                    refine c_reg ?_
                    refine l_as rfl ?_
                    refine l_as rfl ?_
                    refine l_end ?_
                    exact c_ret (ret2 (v := .pointer none) (v' := .bool false) rfl rfl rfl (fun w' hw => ⟨.pointer none, b21, v2, v3, b2, l2, (by first | rfl | rw [decide_eq_false (noLea (i := j) (by omega) (fun o => by have := o.2.2.2.2.2.1; omega))]), no_pv (noLea (i := j) (by omega) (fun o => by have := o.2.2.2.2.2.1; omega)), hw.sel [0, 1, 2] rfl (by decide)⟩))
                  ·
                    refine h_takeg 32 rfl rfl (gF g14_31) (by kernel_rfl) (by kernel_rfl) (by kernel_rfl) (v_fld (o := 4) rfl (by kernel_rfl)) rfl hS ?_
                    refine h_takeg 33 rfl rfl (gF g14_31) (by kernel_rfl) (by kernel_rfl) (by kernel_rfl) (v_ldo 3 (v := .int .i64 ((nth ls j).until_)) rfl rfl rfl (by kernel_rfl)) rfl hS ?_
                    refine h_takeg 34 rfl rfl (gF g14_31) (by kernel_rfl) (by kernel_rfl) (by kernel_rfl) (v_gtr rfl rfl) rfl hS ?_
                    refine h_take 35 rfl (by kernel_rfl) (by kernel_rfl) (by kernel_rfl) (v_pickF (gF g14_31)) rfl hS ?_
                    refine h_take 36 rfl (by kernel_rfl) (by kernel_rfl) (by kernel_rfl) (v_mv) rfl hS ?_
                    by_cases g14_36 : 4611686018427387904 < ((nth ls j).until_)
                    ·
                      refine h_offg 37 rfl rfl (gT g14_36) rfl (by kernel_rfl) (by kernel_rfl) (by kernel_rfl) rfl hS ?_
                      refine h_offg 38 rfl rfl (gT g14_36) rfl (by kernel_rfl) (by kernel_rfl) (by kernel_rfl) rfl hS ?_
                      refine h_offg 39 rfl rfl (gT g14_36) rfl (by kernel_rfl) (by kernel_rfl) (by kernel_rfl) rfl hS ?_
                      refine h_offu 40 rfl rfl rfl (by kernel_rfl) (by kernel_rfl) (by kernel_rfl) rfl hS ?_
                      refine h_offu 41 rfl rfl rfl (by kernel_rfl) (by kernel_rfl) (by kernel_rfl) rfl hS ?_
                      refine h_offu 42 rfl rfl rfl (by kernel_rfl) (by kernel_rfl) (by kernel_rfl) rfl hS ?_
                      refine h_offu 43 rfl rfl rfl (by kernel_rfl) (by kernel_rfl) (by kernel_rfl) rfl hS ?_
                      refine h_offu 44 rfl rfl rfl (by kernel_rfl) (by kernel_rfl) (by kernel_rfl) rfl hS ?_
                      refine h_offu 45 rfl rfl rfl (by kernel_rfl) (by kernel_rfl) (by kernel_rfl) rfl hS ?_
                      refine h_offu 46 rfl rfl rfl (by kernel_rfl) (by kernel_rfl) (by kernel_rfl) rfl hS ?_
                      refine h_offu 47 rfl rfl rfl (by kernel_rfl) (by kernel_rfl) (by kernel_rfl) rfl hS ?_
                      refine h_offu 48 rfl rfl rfl (by kernel_rfl) (by kernel_rfl) (by kernel_rfl) rfl hS ?_
                      refine h_offg 49 rfl rfl (gT g14_36) rfl (by kernel_rfl) (by kernel_rfl) (by kernel_rfl) rfl hS ?_
                      refine h_take 50 rfl (by kernel_rfl) (by kernel_rfl) (by kernel_rfl) (v_pickT (gT g14_36)) rfl hS ?_
                      refine h_done (by kernel_rfl) ?_
                      refine (?_ : C _ _ _ _ _ _ _ (Own w [] [Res.row b21 30 [.int .i64 now, .int .u64 (last : Nat), v2, v3], Res.vec 68 2 v2 b2.length (b2.flatMap BudD.cells), Res.vec 37 5 v3 l2.length (l2.flatMap LeaD.cells), Res.row b13 37 (LeaD.cells (nth ls j))])) _ hw
                      refine c_yes rfl ?_
                      refine c_reg ?_
                      refine l_as rfl ?_
                      refine l_as rfl ?_
                      refine l_end ?_
                      exact c_ret (ret2 (v := .pointer none) (v' := .bool false) rfl rfl rfl (fun w' hw => ⟨.pointer none, b21, v2, v3, b2, l2, (by first | rfl | rw [decide_eq_false (noLea (i := j) (by omega) (fun o => by have := o.2.2.2.2.2.2; omega))]), no_pv (noLea (i := j) (by omega) (fun o => by have := o.2.2.2.2.2.2; omega)), hw.sel [0, 1, 2] rfl (by decide)⟩))
                    ·
                      refine h_takeg 37 rfl rfl (gF g14_36) (by kernel_rfl) (by kernel_rfl) (by kernel_rfl) (v_mv) rfl hS ?_
                      refine h_takeg 38 rfl rfl (gF g14_36) (by kernel_rfl) (by kernel_rfl) (by kernel_rfl) (v_gtr rfl rfl) rfl hS ?_
                      refine h_takeg 39 rfl rfl (gF g14_36) (by kernel_rfl) (by kernel_rfl) (by kernel_rfl) (v_mv) rfl hS ?_
                      by_cases g14_39 : 0 < ((j : Nat) : Int)
                      ·
                        refine h_takeg 40 rfl rfl (gT g14_39) (by kernel_rfl) (by kernel_rfl) (by kernel_rfl) (v_mv) rfl hS ?_
                        refine h_takeg 41 rfl rfl (gT g14_39) (by kernel_rfl) (by kernel_rfl) (by kernel_rfl) (v_mv) rfl hS ?_
                        refine h_takeg 42 rfl rfl (gT g14_39) (by kernel_rfl) (by kernel_rfl) (by kernel_rfl) (v_sub rfl rfl (wi64 (by omega))) rfl hS ?_
                        refine h_takeg 43 rfl rfl (gT g14_39) (by kernel_rfl) (by kernel_rfl) (by kernel_rfl) (v_idxS (j := j - 1) (sz := 5) (len := ls.length) (cs := (ls.flatMap LeaD.cells)) rfl rfl (by kernel_rfl) (fun w' hw' => Own.rd hlv hw') (by omega) (by omega)) rfl hS ?_
                        refine h_takeg 44 rfl rfl (gT g14_39) (by kernel_rfl) (by kernel_rfl) (by kernel_rfl) (v_fld (o := 0) rfl (by kernel_rfl)) rfl hS ?_
                        refine h_takeg 45 rfl rfl (gT g14_39) (by kernel_rfl) (by kernel_rfl) (by kernel_rfl) (v_ldS (v := lv) (off := offV lv + (j - 1) * 5 + 0) ((j - 1) * 5 + 0) (cs := (ls.flatMap LeaD.cells)) rfl (by omega) (fun w' hw' => Own.rd hlv hw') (flat_at (sz := 5) (fun _ => rfl) (nth_some (by omega)) (i := 0) rfl) (by kernel_rfl)) rfl hS ?_
                        refine h_takeg 46 rfl rfl (gT g14_39) (by kernel_rfl) (by kernel_rfl) (by kernel_rfl) (v_fld (o := 0) rfl (by kernel_rfl)) rfl hS ?_
                        refine h_takeg 47 rfl rfl (gT g14_39) (by kernel_rfl) (by kernel_rfl) (by kernel_rfl) (v_ldo 3 (v := .int .u64 ((nth ls j).id : Nat)) rfl rfl rfl (by kernel_rfl)) rfl hS ?_
                        refine h_takeg 48 rfl rfl (gT g14_39) (by kernel_rfl) (by kernel_rfl) (by kernel_rfl) (v_geq rfl rfl) rfl hS ?_
                        refine h_takeg 49 rfl rfl (gF g14_36) (by kernel_rfl) (by kernel_rfl) (by kernel_rfl) (v_pickT (gT g14_39)) rfl hS ?_
                        refine h_take 50 rfl (by kernel_rfl) (by kernel_rfl) (by kernel_rfl) (v_pickF (gF g14_36)) rfl hS ?_
                        refine h_done (by kernel_rfl) ?_
                        refine (?_ : C _ _ _ _ _ _ _ (Own w [] [Res.row b21 30 [.int .i64 now, .int .u64 (last : Nat), v2, v3], Res.vec 68 2 v2 b2.length (b2.flatMap BudD.cells), Res.vec 37 5 v3 l2.length (l2.flatMap LeaD.cells), Res.row b13 37 (LeaD.cells (nth ls j))])) _ hw
                        refine c_dec rfl (fun c15 => ?_) (fun c15 => ?_)
                        ·
                          refine c_reg ?_
                          refine l_as rfl ?_
                          refine l_as rfl ?_
                          refine l_end ?_
                          exact c_ret (ret2 (v := .pointer none) (v' := .bool false) rfl rfl rfl (fun w' hw => ⟨.pointer none, b21, v2, v3, b2, l2, (by first | rfl | rw [decide_eq_false (noUp (i := j) (by omega) (by omega) (by omega))]), no_pv (noUp (i := j) (by omega) (by omega) (by omega)), hw.sel [0, 1, 2] rfl (by decide)⟩))
                        ·
                          refine c_skipC ?_
                          refine c_reg ?_
                          refine l_mv rfl ?_
                          refine l_fld (o := 2) rfl (by kernel_rfl) rfl ?_
                          refine l_ldo 3 (v := .string ((nth ls j).key)) rfl rfl rfl (by kernel_rfl) rfl ?_
                          refine l_call (by kernel_rfl) rfl rfl (fun w' hw => ?_)
                          refine (rlent_s b21 now last v2 v3 b2 l2 ((nth ls j).key) w' hQ (hw.give [0, 1, 2] rfl (by decide))).mono ?_
                          rintro _ w1 ⟨rfl, hO⟩
                          refine (?_ : CL _ _ _ _ _ _ (Own w [] [Res.row b13 37 (LeaD.cells (nth ls j)), Res.row b21 30 [.int .i64 now, .int .u64 (last : Nat), v2, v3], Res.vec 68 2 v2 b2.length (b2.flatMap BudD.cells), Res.vec 37 5 v3 l2.length (l2.flatMap LeaD.cells)])) w1 (hw.frameL [0, 1, 2] rfl hO)
                          refine l_mv rfl ?_
                          refine l_ext (vs := [.int .i64 (budOf ((nth ls j).key) b2), .int .i64 (lentW ((nth ls j).key) l2)]) rfl rfl rfl ?_
                          refine l_ext (vs := [.int .i64 (budOf ((nth ls j).key) b2), .int .i64 (lentW ((nth ls j).key) l2)]) rfl rfl rfl ?_
                          refine l_as rfl ?_
                          refine l_as rfl ?_
                          refine l_end ?_
                          refine c_reg ?_
                          refine l_mv rfl ?_
                          refine l_fld (o := 3) rfl (by kernel_rfl) rfl ?_
                          refine l_ldo 0 (v := .int .i64 ((nth ls j).amount)) rfl rfl rfl (by kernel_rfl) rfl ?_
                          refine l_call (by kernel_rfl) rfl rfl (fun w' hw => ?_)
                          refine (radd_s (lentW ((nth ls j).key) l2) ((nth ls j).amount) w' (hQ.lent0 _) ⟨by omega, (hli _ (nth_mem (by omega))).2⟩).mono ?_
                          rintro _ w1 ⟨n1_, e2_, rfl, hf17_3, hO⟩
                          refine (?_ : CL _ _ _ _ _ _ (Own w [] [Res.row b13 37 (LeaD.cells (nth ls j)), Res.row b21 30 [.int .i64 now, .int .u64 (last : Nat), v2, v3], Res.vec 68 2 v2 b2.length (b2.flatMap BudD.cells), Res.vec 37 5 v3 l2.length (l2.flatMap LeaD.cells)])) w1 (hw.frame0 hO)
                          refine l_mv rfl ?_
                          refine l_ext (vs := [.int .i64 n1_, .int .i64 e2_]) rfl rfl rfl ?_
                          refine l_ext (vs := [.int .i64 n1_, .int .i64 e2_]) rfl rfl rfl ?_
                          refine l_as rfl ?_
                          refine l_as rfl ?_
                          refine l_end ?_
                          refine c_seq ?_
                          refine c_reg ?_
                          refine l_mv rfl ?_
                          refine l_ne rfl rfl rfl ?_
                          refine l_end ?_
                          refine c_dec rfl (fun c16 => ?_) (fun c16 => ?_)
                          ·
                            refine c_reg ?_
                            refine l_as rfl ?_
                            refine l_as rfl ?_
                            refine l_end ?_
                            exact c_ret (ret2 (v := .pointer none) (v' := .bool false) rfl rfl rfl (fun w' hw => ⟨.pointer none, b21, v2, v3, b2, l2, (by first | rfl | rw [decide_eq_false (noSum (i := j) (by omega) (by have := tot_badR hf17_3 c16; rwa [hQ.lent, hl2] at this))]), no_pv (noSum (i := j) (by omega) (by have := tot_badR hf17_3 c16; rwa [hQ.lent, hl2] at this)), hw.sel [1, 2, 3] rfl (by decide)⟩))
                          ·
                            refine c_skipC ?_
                            refine c_heldo [0, 2] rfl (by decide) (by kernel_rfl) (fun w' hw hS => ?_)
                            refine h_take 0 rfl (by kernel_rfl) (by kernel_rfl) (by kernel_rfl) (v_mv) rfl hS ?_
                            refine h_take 1 rfl (by kernel_rfl) (by kernel_rfl) (by kernel_rfl) (v_mv) rfl hS ?_
                            refine h_take 2 rfl (by kernel_rfl) (by kernel_rfl) (by kernel_rfl) (v_nck rfl) rfl hS ?_
                            refine h_take 3 rfl (by kernel_rfl) (by kernel_rfl) (by kernel_rfl) (v_fld (o := 3) rfl (by kernel_rfl)) rfl hS ?_
                            refine h_take 5 rfl (by kernel_rfl) (by kernel_rfl) (by kernel_rfl) (v_ldr (cs := (LeaD.cells (nth ls j))) 0 rfl rfl (by kernel_rfl)) rfl hS ?_
                            refine h_pick2 (i := 4) (j := 6) (by kernel_rfl) ?_ ?_
                            ·
                              refine pk_of 4 rfl hw ?_
                              refine l_ldo 1 (v := v3) rfl rfl rfl (by kernel_rfl) rfl ?_
                              refine l_nil (fun w' hw => ?_)
                              have hS := hw.sel [0, 2] rfl (by decide)
                              refine ⟨hS, ?_⟩
                              refine h_one 6 (by kernel_rfl) rfl hw ?_
                              refine l_bsl (e := 37) (sz := 5) (vs := [.agg (LeaD.cells (nth ls j)).toArray]) (by kernel_rfl) rfl rfl (by simp [Value.cells, LeaD.cells]) (by decide) rfl (fun b173 => ?_)
                              refine l_nil (fun w' hw => ?_)
                              have hS := hw.sel [0, 2] rfl (by decide)
                              refine ⟨hS, ?_⟩
                              refine h_one 7 (by kernel_rfl) rfl hw ?_
                              refine l_appF (g := LeaD.cells) (sz := 5) (by' := 48) (fun _ => rfl) (l := l2) (l' := [(nth ls j)]) (by simp [cell1, LeaD.cells, vu]) 3 (by kernel_rfl) rfl rfl rfl (fun w' hw' => Vec.sl (Own.holds hw' 4 _ rfl)) (by first | omega | (simp; omega)) (by decide) rfl (fun v174 => ?_)
                              refine l_nil (fun w' hw => ?_)
                              have hS := hw.sel [0, 2] rfl (by decide)
                              refine ⟨hS, ?_⟩
                              refine h_take 8 rfl (by kernel_rfl) (by kernel_rfl) (by kernel_rfl) (v_nck rfl) rfl hS ?_
                              refine h_take 9 rfl (by kernel_rfl) (by kernel_rfl) (by kernel_rfl) (v_fld (o := 3) rfl (by kernel_rfl)) rfl hS ?_
                              refine h_one 10 (by kernel_rfl) rfl hw ?_
                              refine l_haveO (fun w' hw => Own.cell1Vec (i := 3) rfl hw) (fun hc8_ => ?_)
                              refine l_st (cs := [.int .i64 now, .int .u64 (last : Nat), v2, v3]) 1 rfl rfl rfl (by kernel_rfl) hc8_ (Nat.le_of_ble_eq_true rfl) ?_
                              refine l_nil (fun w' hw => ?_)
                              have hS := hw.sel [0, 2] rfl (by decide)
                              refine ⟨hS, ?_⟩
                              refine h_done (by kernel_rfl) ?_
                              refine (?_ : C _ _ _ _ _ _ _ (Own w [] [Res.row b13 37 (LeaD.cells (nth ls j)), Res.row b21 30 [.int .i64 now, .int .u64 (last : Nat), v2, v174], Res.vec 68 2 v2 b2.length (b2.flatMap BudD.cells), Res.vec 37 5 v174 (l2 ++ [(nth ls j)]).length ((l2 ++ [(nth ls j)]).flatMap LeaD.cells), Res.vec 37 5 (.slice (some ⟨b173, 0, none⟩) 1 1) [(nth ls j)].length ([(nth ls j)].flatMap LeaD.cells)])) _ hw
                              refine c_last ?_
                              refine l_mv rfl ?_
                              refine l_add rfl rfl (wi64 (by omega)) rfl ?_
                              refine l_as rfl ?_
                              exact l_nil (fun w' hw => ⟨j + 1, v174, l2 ++ [nth ls j], ⟨rfl, rfl, rfl, rfl, rfl, trivial⟩, ⟨by omega, lea_step hLI (by omega) ⟨by omega, by omega, by omega, Decidable.not_not.1 g14_20, by omega, by omega, by omega⟩ (by have := tot_okR hf17_3 c16; rwa [hQ.lent, hl2] at this) (fun _ => by omega), by rw [hl2, take_nth (by omega)]⟩, hw.sel [1, 2, 3] rfl (by decide), (by omega)⟩)
                            ·
                              refine pk_of 6 rfl hw ?_
                              refine l_bsl (e := 37) (sz := 5) (vs := [.agg (LeaD.cells (nth ls j)).toArray]) (by kernel_rfl) rfl rfl (by simp [Value.cells, LeaD.cells]) (by decide) rfl (fun b173 => ?_)
                              refine l_nil (fun w' hw => ?_)
                              have hS := hw.sel [0, 2] rfl (by decide)
                              refine ⟨hS, ?_⟩
                              refine h_one 4 (by kernel_rfl) rfl hw ?_
                              refine l_ldo 1 (v := v3) rfl rfl rfl (by kernel_rfl) rfl ?_
                              refine l_nil (fun w' hw => ?_)
                              have hS := hw.sel [0, 2] rfl (by decide)
                              refine ⟨hS, ?_⟩
                              refine h_one 7 (by kernel_rfl) rfl hw ?_
                              refine l_appF (g := LeaD.cells) (sz := 5) (by' := 48) (fun _ => rfl) (l := l2) (l' := [(nth ls j)]) (by simp [cell1, LeaD.cells, vu]) 3 (by kernel_rfl) rfl rfl rfl (fun w' hw' => Vec.sl (Own.holds hw' 4 _ rfl)) (by first | omega | (simp; omega)) (by decide) rfl (fun v174 => ?_)
                              refine l_nil (fun w' hw => ?_)
                              have hS := hw.sel [0, 2] rfl (by decide)
                              refine ⟨hS, ?_⟩
                              refine h_take 8 rfl (by kernel_rfl) (by kernel_rfl) (by kernel_rfl) (v_nck rfl) rfl hS ?_
                              refine h_take 9 rfl (by kernel_rfl) (by kernel_rfl) (by kernel_rfl) (v_fld (o := 3) rfl (by kernel_rfl)) rfl hS ?_
                              refine h_one 10 (by kernel_rfl) rfl hw ?_
                              refine l_haveO (fun w' hw => Own.cell1Vec (i := 3) rfl hw) (fun hc9_ => ?_)
                              refine l_st (cs := [.int .i64 now, .int .u64 (last : Nat), v2, v3]) 1 rfl rfl rfl (by kernel_rfl) hc9_ (Nat.le_of_ble_eq_true rfl) ?_
                              refine l_nil (fun w' hw => ?_)
                              have hS := hw.sel [0, 2] rfl (by decide)
                              refine ⟨hS, ?_⟩
                              refine h_done (by kernel_rfl) ?_
                              refine (?_ : C _ _ _ _ _ _ _ (Own w [] [Res.row b13 37 (LeaD.cells (nth ls j)), Res.row b21 30 [.int .i64 now, .int .u64 (last : Nat), v2, v174], Res.vec 68 2 v2 b2.length (b2.flatMap BudD.cells), Res.vec 37 5 v174 (l2 ++ [(nth ls j)]).length ((l2 ++ [(nth ls j)]).flatMap LeaD.cells), Res.vec 37 5 (.slice (some ⟨b173, 0, none⟩) 1 1) [(nth ls j)].length ([(nth ls j)].flatMap LeaD.cells)])) _ hw
                              refine c_last ?_
                              refine l_mv rfl ?_
                              refine l_add rfl rfl (wi64 (by omega)) rfl ?_
                              refine l_as rfl ?_
                              exact l_nil (fun w' hw => ⟨j + 1, v174, l2 ++ [nth ls j], ⟨rfl, rfl, rfl, rfl, rfl, trivial⟩, ⟨by omega, lea_step hLI (by omega) ⟨by omega, by omega, by omega, Decidable.not_not.1 g14_20, by omega, by omega, by omega⟩ (by have := tot_okR hf17_3 c16; rwa [hQ.lent, hl2] at this) (fun _ => by omega), by rw [hl2, take_nth (by omega)]⟩, hw.sel [1, 2, 3] rfl (by decide), (by omega)⟩)
                      ·
                        refine h_offg 40 rfl rfl (gF g14_39) rfl (by kernel_rfl) (by kernel_rfl) (by kernel_rfl) rfl hS ?_
                        refine h_offg 41 rfl rfl (gF g14_39) rfl (by kernel_rfl) (by kernel_rfl) (by kernel_rfl) rfl hS ?_
                        refine h_offg 42 rfl rfl (gF g14_39) rfl (by kernel_rfl) (by kernel_rfl) (by kernel_rfl) rfl hS ?_
                        refine h_offg 43 rfl rfl (gF g14_39) rfl (by kernel_rfl) (by kernel_rfl) (by kernel_rfl) rfl hS ?_
                        refine h_offg 44 rfl rfl (gF g14_39) rfl (by kernel_rfl) (by kernel_rfl) (by kernel_rfl) rfl hS ?_
                        refine h_offg 45 rfl rfl (gF g14_39) rfl (by kernel_rfl) (by kernel_rfl) (by kernel_rfl) rfl hS ?_
                        refine h_offg 46 rfl rfl (gF g14_39) rfl (by kernel_rfl) (by kernel_rfl) (by kernel_rfl) rfl hS ?_
                        refine h_offg 47 rfl rfl (gF g14_39) rfl (by kernel_rfl) (by kernel_rfl) (by kernel_rfl) rfl hS ?_
                        refine h_offg 48 rfl rfl (gF g14_39) rfl (by kernel_rfl) (by kernel_rfl) (by kernel_rfl) rfl hS ?_
                        refine h_takeg 49 rfl rfl (gF g14_36) (by kernel_rfl) (by kernel_rfl) (by kernel_rfl) (v_pickF (gF g14_39)) rfl hS ?_
                        refine h_take 50 rfl (by kernel_rfl) (by kernel_rfl) (by kernel_rfl) (v_pickF (gF g14_36)) rfl hS ?_
                        refine h_done (by kernel_rfl) ?_
                        refine (?_ : C _ _ _ _ _ _ _ (Own w [] [Res.row b21 30 [.int .i64 now, .int .u64 (last : Nat), v2, v3], Res.vec 68 2 v2 b2.length (b2.flatMap BudD.cells), Res.vec 37 5 v3 l2.length (l2.flatMap LeaD.cells), Res.row b13 37 (LeaD.cells (nth ls j))])) _ hw
                        refine c_no rfl ?_
                        refine c_skipC ?_
                        refine c_reg ?_
                        refine l_mv rfl ?_
                        refine l_fld (o := 2) rfl (by kernel_rfl) rfl ?_
                        refine l_ldo 3 (v := .string ((nth ls j).key)) rfl rfl rfl (by kernel_rfl) rfl ?_
                        refine l_call (by kernel_rfl) rfl rfl (fun w' hw => ?_)
                        refine (rlent_s b21 now last v2 v3 b2 l2 ((nth ls j).key) w' hQ (hw.give [0, 1, 2] rfl (by decide))).mono ?_
                        rintro _ w1 ⟨rfl, hO⟩
                        refine (?_ : CL _ _ _ _ _ _ (Own w [] [Res.row b13 37 (LeaD.cells (nth ls j)), Res.row b21 30 [.int .i64 now, .int .u64 (last : Nat), v2, v3], Res.vec 68 2 v2 b2.length (b2.flatMap BudD.cells), Res.vec 37 5 v3 l2.length (l2.flatMap LeaD.cells)])) w1 (hw.frameL [0, 1, 2] rfl hO)
                        refine l_mv rfl ?_
                        refine l_ext (vs := [.int .i64 (budOf ((nth ls j).key) b2), .int .i64 (lentW ((nth ls j).key) l2)]) rfl rfl rfl ?_
                        refine l_ext (vs := [.int .i64 (budOf ((nth ls j).key) b2), .int .i64 (lentW ((nth ls j).key) l2)]) rfl rfl rfl ?_
                        refine l_as rfl ?_
                        refine l_as rfl ?_
                        refine l_end ?_
                        refine c_reg ?_
                        refine l_mv rfl ?_
                        refine l_fld (o := 3) rfl (by kernel_rfl) rfl ?_
                        refine l_ldo 0 (v := .int .i64 ((nth ls j).amount)) rfl rfl rfl (by kernel_rfl) rfl ?_
                        refine l_call (by kernel_rfl) rfl rfl (fun w' hw => ?_)
                        refine (radd_s (lentW ((nth ls j).key) l2) ((nth ls j).amount) w' (hQ.lent0 _) ⟨by omega, (hli _ (nth_mem (by omega))).2⟩).mono ?_
                        rintro _ w1 ⟨n3_, e4_, rfl, hf17_3, hO⟩
                        refine (?_ : CL _ _ _ _ _ _ (Own w [] [Res.row b13 37 (LeaD.cells (nth ls j)), Res.row b21 30 [.int .i64 now, .int .u64 (last : Nat), v2, v3], Res.vec 68 2 v2 b2.length (b2.flatMap BudD.cells), Res.vec 37 5 v3 l2.length (l2.flatMap LeaD.cells)])) w1 (hw.frame0 hO)
                        refine l_mv rfl ?_
                        refine l_ext (vs := [.int .i64 n3_, .int .i64 e4_]) rfl rfl rfl ?_
                        refine l_ext (vs := [.int .i64 n3_, .int .i64 e4_]) rfl rfl rfl ?_
                        refine l_as rfl ?_
                        refine l_as rfl ?_
                        refine l_end ?_
                        refine c_seq ?_
                        refine c_reg ?_
                        refine l_mv rfl ?_
                        refine l_ne rfl rfl rfl ?_
                        refine l_end ?_
                        refine c_dec rfl (fun c18 => ?_) (fun c18 => ?_)
                        ·
                          refine c_reg ?_
                          refine l_as rfl ?_
                          refine l_as rfl ?_
                          refine l_end ?_
                          exact c_ret (ret2 (v := .pointer none) (v' := .bool false) rfl rfl rfl (fun w' hw => ⟨.pointer none, b21, v2, v3, b2, l2, (by first | rfl | rw [decide_eq_false (noSum (i := j) (by omega) (by have := tot_badR hf17_3 c18; rwa [hQ.lent, hl2] at this))]), no_pv (noSum (i := j) (by omega) (by have := tot_badR hf17_3 c18; rwa [hQ.lent, hl2] at this)), hw.sel [1, 2, 3] rfl (by decide)⟩))
                        ·
                          refine c_skipC ?_
                          refine c_heldo [0, 2] rfl (by decide) (by kernel_rfl) (fun w' hw hS => ?_)
                          refine h_take 0 rfl (by kernel_rfl) (by kernel_rfl) (by kernel_rfl) (v_mv) rfl hS ?_
                          refine h_take 1 rfl (by kernel_rfl) (by kernel_rfl) (by kernel_rfl) (v_mv) rfl hS ?_
                          refine h_take 2 rfl (by kernel_rfl) (by kernel_rfl) (by kernel_rfl) (v_nck rfl) rfl hS ?_
                          refine h_take 3 rfl (by kernel_rfl) (by kernel_rfl) (by kernel_rfl) (v_fld (o := 3) rfl (by kernel_rfl)) rfl hS ?_
                          refine h_take 5 rfl (by kernel_rfl) (by kernel_rfl) (by kernel_rfl) (v_ldr (cs := (LeaD.cells (nth ls j))) 0 rfl rfl (by kernel_rfl)) rfl hS ?_
                          refine h_pick2 (i := 4) (j := 6) (by kernel_rfl) ?_ ?_
                          ·
                            refine pk_of 4 rfl hw ?_
                            refine l_ldo 1 (v := v3) rfl rfl rfl (by kernel_rfl) rfl ?_
                            refine l_nil (fun w' hw => ?_)
                            have hS := hw.sel [0, 2] rfl (by decide)
                            refine ⟨hS, ?_⟩
                            refine h_one 6 (by kernel_rfl) rfl hw ?_
                            refine l_bsl (e := 37) (sz := 5) (vs := [.agg (LeaD.cells (nth ls j)).toArray]) (by kernel_rfl) rfl rfl (by simp [Value.cells, LeaD.cells]) (by decide) rfl (fun b173 => ?_)
                            refine l_nil (fun w' hw => ?_)
                            have hS := hw.sel [0, 2] rfl (by decide)
                            refine ⟨hS, ?_⟩
                            refine h_one 7 (by kernel_rfl) rfl hw ?_
                            refine l_appF (g := LeaD.cells) (sz := 5) (by' := 48) (fun _ => rfl) (l := l2) (l' := [(nth ls j)]) (by simp [cell1, LeaD.cells, vu]) 3 (by kernel_rfl) rfl rfl rfl (fun w' hw' => Vec.sl (Own.holds hw' 4 _ rfl)) (by first | omega | (simp; omega)) (by decide) rfl (fun v174 => ?_)
                            refine l_nil (fun w' hw => ?_)
                            have hS := hw.sel [0, 2] rfl (by decide)
                            refine ⟨hS, ?_⟩
                            refine h_take 8 rfl (by kernel_rfl) (by kernel_rfl) (by kernel_rfl) (v_nck rfl) rfl hS ?_
                            refine h_take 9 rfl (by kernel_rfl) (by kernel_rfl) (by kernel_rfl) (v_fld (o := 3) rfl (by kernel_rfl)) rfl hS ?_
                            refine h_one 10 (by kernel_rfl) rfl hw ?_
                            refine l_haveO (fun w' hw => Own.cell1Vec (i := 3) rfl hw) (fun hc11_ => ?_)
                            refine l_st (cs := [.int .i64 now, .int .u64 (last : Nat), v2, v3]) 1 rfl rfl rfl (by kernel_rfl) hc11_ (Nat.le_of_ble_eq_true rfl) ?_
                            refine l_nil (fun w' hw => ?_)
                            have hS := hw.sel [0, 2] rfl (by decide)
                            refine ⟨hS, ?_⟩
                            refine h_done (by kernel_rfl) ?_
                            refine (?_ : C _ _ _ _ _ _ _ (Own w [] [Res.row b13 37 (LeaD.cells (nth ls j)), Res.row b21 30 [.int .i64 now, .int .u64 (last : Nat), v2, v174], Res.vec 68 2 v2 b2.length (b2.flatMap BudD.cells), Res.vec 37 5 v174 (l2 ++ [(nth ls j)]).length ((l2 ++ [(nth ls j)]).flatMap LeaD.cells), Res.vec 37 5 (.slice (some ⟨b173, 0, none⟩) 1 1) [(nth ls j)].length ([(nth ls j)].flatMap LeaD.cells)])) _ hw
                            refine c_last ?_
                            refine l_mv rfl ?_
                            refine l_add rfl rfl (wi64 (by omega)) rfl ?_
                            refine l_as rfl ?_
                            exact l_nil (fun w' hw => ⟨j + 1, v174, l2 ++ [nth ls j], ⟨rfl, rfl, rfl, rfl, rfl, trivial⟩, ⟨by omega, lea_step hLI (by omega) ⟨by omega, by omega, by omega, Decidable.not_not.1 g14_20, by omega, by omega, by omega⟩ (by have := tot_okR hf17_3 c18; rwa [hQ.lent, hl2] at this) (fun _ => by omega), by rw [hl2, take_nth (by omega)]⟩, hw.sel [1, 2, 3] rfl (by decide), (by omega)⟩)
                          ·
                            refine pk_of 6 rfl hw ?_
                            refine l_bsl (e := 37) (sz := 5) (vs := [.agg (LeaD.cells (nth ls j)).toArray]) (by kernel_rfl) rfl rfl (by simp [Value.cells, LeaD.cells]) (by decide) rfl (fun b173 => ?_)
                            refine l_nil (fun w' hw => ?_)
                            have hS := hw.sel [0, 2] rfl (by decide)
                            refine ⟨hS, ?_⟩
                            refine h_one 4 (by kernel_rfl) rfl hw ?_
                            refine l_ldo 1 (v := v3) rfl rfl rfl (by kernel_rfl) rfl ?_
                            refine l_nil (fun w' hw => ?_)
                            have hS := hw.sel [0, 2] rfl (by decide)
                            refine ⟨hS, ?_⟩
                            refine h_one 7 (by kernel_rfl) rfl hw ?_
                            refine l_appF (g := LeaD.cells) (sz := 5) (by' := 48) (fun _ => rfl) (l := l2) (l' := [(nth ls j)]) (by simp [cell1, LeaD.cells, vu]) 3 (by kernel_rfl) rfl rfl rfl (fun w' hw' => Vec.sl (Own.holds hw' 4 _ rfl)) (by first | omega | (simp; omega)) (by decide) rfl (fun v174 => ?_)
                            refine l_nil (fun w' hw => ?_)
                            have hS := hw.sel [0, 2] rfl (by decide)
                            refine ⟨hS, ?_⟩
                            refine h_take 8 rfl (by kernel_rfl) (by kernel_rfl) (by kernel_rfl) (v_nck rfl) rfl hS ?_
                            refine h_take 9 rfl (by kernel_rfl) (by kernel_rfl) (by kernel_rfl) (v_fld (o := 3) rfl (by kernel_rfl)) rfl hS ?_
                            refine h_one 10 (by kernel_rfl) rfl hw ?_
                            refine l_haveO (fun w' hw => Own.cell1Vec (i := 3) rfl hw) (fun hc12_ => ?_)
                            refine l_st (cs := [.int .i64 now, .int .u64 (last : Nat), v2, v3]) 1 rfl rfl rfl (by kernel_rfl) hc12_ (Nat.le_of_ble_eq_true rfl) ?_
                            refine l_nil (fun w' hw => ?_)
                            have hS := hw.sel [0, 2] rfl (by decide)
                            refine ⟨hS, ?_⟩
                            refine h_done (by kernel_rfl) ?_
                            refine (?_ : C _ _ _ _ _ _ _ (Own w [] [Res.row b13 37 (LeaD.cells (nth ls j)), Res.row b21 30 [.int .i64 now, .int .u64 (last : Nat), v2, v174], Res.vec 68 2 v2 b2.length (b2.flatMap BudD.cells), Res.vec 37 5 v174 (l2 ++ [(nth ls j)]).length ((l2 ++ [(nth ls j)]).flatMap LeaD.cells), Res.vec 37 5 (.slice (some ⟨b173, 0, none⟩) 1 1) [(nth ls j)].length ([(nth ls j)].flatMap LeaD.cells)])) _ hw
                            refine c_last ?_
                            refine l_mv rfl ?_
                            refine l_add rfl rfl (wi64 (by omega)) rfl ?_
                            refine l_as rfl ?_
                            exact l_nil (fun w' hw => ⟨j + 1, v174, l2 ++ [nth ls j], ⟨rfl, rfl, rfl, rfl, rfl, trivial⟩, ⟨by omega, lea_step hLI (by omega) ⟨by omega, by omega, by omega, Decidable.not_not.1 g14_20, by omega, by omega, by omega⟩ (by have := tot_okR hf17_3 c18; rwa [hQ.lent, hl2] at this) (fun _ => by omega), by rw [hl2, take_nth (by omega)]⟩, hw.sel [1, 2, 3] rfl (by decide), (by omega)⟩)
      ·
        refine c_exitC rfl ?_
        refine c_reg ?_
        refine l_mv rfl ?_
        refine l_as rfl ?_
        refine l_as rfl ?_
        refine l_end ?_
        exact c_ret (ret2 (v := .pointer (some ⟨b21, 0, none⟩)) (v' := .bool true) rfl rfl rfl (fun w' hw => ⟨.pointer (some ⟨b21, 0, none⟩), b21, v2, v3, b2, l2, (by rw [decide_eq_true (⟨⟨by omega, by omega⟩, by omega, by omega, (by have := hBI; rwa [List.take_of_length_le (by omega)] at this), (by have := hLI; rwa [List.take_of_length_le (by omega)] at this)⟩ : LoadOk now last bs ls)]), fun _ => ⟨rfl, hbb, by rw [hl2, List.take_of_length_le (by omega)]⟩, hw⟩))
theorem quotaLoads_s (time : Int) (last : Nat) (ub : Value) (us : List BudD) (ul : Value) (uls : List LeaD) (v : Value) (acts : List QActD) (w : World) (hl : acts.length ≤ 100000000) (hwf : ∀ a ∈ acts, a.wf) (hbl : us.length ≤ 2000000) (hll : uls.length ≤ 2000000) (hbi : ∀ b ∈ us, isI b.amount) (hli : ∀ l ∈ uls, isI l.amount) (hub : Rd w [] (Res.sl ub us.length (us.flatMap BudD.cells))) (hul : Rd w [] (Res.sl ul uls.length (uls.flatMap LeaD.cells))) (hv : Rd w [] (Res.sl v acts.length (acts.flatMap QActD.cells))) : Rets Try.prog 7 #[.int .i64 time, .int .u64 (last : Nat), ub, ul, v] w fun u_ w' => u_ = .bool true ∧ Own w [] [] w' := by
  refine fn_enter (args := [.int .i64 time, .int .u64 (last : Nat), ub, ul, v]) Try.func7 rfl Try.ntmps7 rfl (Own.start w) ?_
  refine c_reg ?_
  refine l_as rfl ?_
  refine l_end ?_
  refine c_reg ?_
  refine l_call (by kernel_rfl) rfl rfl (fun w' hw => ?_)
  refine (new_s w').mono ?_
  rintro _ w1 ⟨b1_, bm2_, lm3_, rfl, hO⟩
  refine (?_ : CL _ _ _ _ _ _ (Own w [] [Res.row b1_ 64 [.map (some bm2_), .map (some lm3_), .int .i64 0, .int .u64 (0 : Nat)], Res.mp Value.string ekI bm2_ ([] : List (ByteArray × Int)), Res.mp ekU leaV lm3_ ([] : List (Nat × LeaD))])) w1 (hw.frame0 hO)
  refine l_bld (cs := [.int .i64 0, .int .u64 (0 : Nat), .slice none 0 0, .slice none 0 0]) (z := [.int .i64 0, .int .u64 (0 : Nat), .slice none 0 0, .slice none 0 0]) (pl := [(0, 1), (1, 1), (2, 1), (3, 1)]) (by kernel_rfl) (by kernel_rfl) rfl ?_
  refine l_box rfl rfl (fun b19 => ?_)
  refine l_as rfl ?_
  refine l_as rfl ?_
  refine l_end ?_
  refine c_seq ?_
  refine c_reg ?_
  refine l_as rfl ?_
  refine l_end ?_
  refine c_block ?_
  refine c_loop9 (fun (i : Nat) (now : Int) (cnt : Nat) (kb : List (ByteArray × Int)) (kl : List (Nat × LeaD)) (bv lv : Value) (bs : List BudD) (ls : List LeaD) => [(0, .int .i64 time), (1, .int .u64 (last : Nat)), (2, ub), (3, ul), (4, v), (11, .pointer (some ⟨b1_, 0, none⟩)), (12, .pointer (some ⟨b19, 0, none⟩)), (13, .int .i64 (i : Nat))]) (fun (i : Nat) (now : Int) (cnt : Nat) (kb : List (ByteArray × Int)) (kl : List (Nat × LeaD)) (bv lv : Value) (bs : List BudD) (ls : List LeaD) => (i ≤ acts.length ∧ i ≤ 100) ∧ Grown i now cnt kb kl bs ls ∧ QSrt bs) (fun (i : Nat) (now : Int) (cnt : Nat) (kb : List (ByteArray × Int)) (kl : List (Nat × LeaD)) (bv lv : Value) (bs : List BudD) (ls : List LeaD) => [Res.row b1_ 64 [.map (some bm2_), .map (some lm3_), .int .i64 now, .int .u64 (cnt : Nat)], Res.mp Value.string ekI bm2_ kb, Res.mp ekU leaV lm3_ kl, Res.row b19 30 [.int .i64 now, .int .u64 (cnt : Nat), bv, lv], Res.vec 68 2 bv bs.length (bs.flatMap BudD.cells), Res.vec 37 5 lv ls.length (ls.flatMap LeaD.cells)]) (fun (i : Nat) (now : Int) (cnt : Nat) (kb : List (ByteArray × Int)) (kl : List (Nat × LeaD)) (bv lv : Value) (bs : List BudD) (ls : List LeaD) => acts.length - i) (fun w' hw => ⟨0, 0, 0, [], [], .slice none 0 0, .slice none 0 0, [], [], ⟨rfl, rfl, rfl, rfl, rfl, rfl, rfl, rfl, trivial⟩, ⟨by omega, ⟨QOk.start, QRel.start, by omega⟩, QSrt.start⟩, (own_nil (own_nil hw 68 2) 37 5)⟩) (fun i now cnt kb kl bv lv bs ls g hΦ => ?_)
  have hi := hΦ.1
  have ho := hΦ.2.1.ok
  have hr := hΦ.2.1.rel
  have hcn := hΦ.2.1.cnt
  have ht := ho.time
  have hs := hΦ.2.2
  refine c_seq ?_
  refine c_reg ?_
  refine l_mv rfl ?_
  refine l_mv rfl ?_
  refine l_lenS (len := acts.length) (cs := (acts.flatMap QActD.cells)) (by kernel_rfl) rfl (fun w' hw' => Own.rd hv hw') rfl ?_
  refine l_lss rfl rfl rfl ?_
  refine l_mv rfl ?_
  refine l_band (q := ((i : Nat) : Int) < ((acts.length : Nat) : Int)) 2 4 [26, 25] (((i : Nat) : Int) < 100) rfl rfl rfl rfl rfl rfl trivial rfl (fun h3_4 => ?_) (fun g3_7 => ?_)
  ·
    refine l_on rfl (gT h3_4) ?_
    refine l_mv rfl ?_
    refine l_on rfl (gT h3_4) ?_
    refine l_lss rfl rfl rfl ?_
    exact l_nil (fun w' hw => ⟨(by repeat (first | exact Out.refl _ _ | refine Out.upd rfl ?_ | refine Out.msk rfl ?_)), rfl, hw⟩)
  refine l_mv rfl ?_
  refine l_band (q := (((i : Nat) : Int) < ((acts.length : Nat) : Int)) ∧ (((i : Nat) : Int) < 100)) 2 8 [30, 29] (true = true) rfl rfl rfl rfl rfl rfl trivial rfl (fun h3_8 => ?_) (fun g3_11 => ?_)
  ·
    refine l_on rfl (gT h3_8) ?_
    refine l_mv rfl ?_
    refine l_on rfl (gT h3_8) ?_
    refine l_nilnp (by kernel_rfl) rfl rfl rfl ?_
    exact l_nil (fun w' hw => ⟨(by repeat (first | exact Out.refl _ _ | refine Out.upd rfl ?_ | refine Out.msk rfl ?_)), (bool_dec _), hw⟩)
  refine l_end ?_
  refine c_dec rfl (fun c1 => ?_) (fun c1 => ?_)
  ·
    refine c_skipC ?_
    refine c_seq ?_
    refine c_block ?_
    refine c_last ?_
    refine l_mv rfl ?_
    refine l_mv rfl ?_
    refine l_mv rfl ?_
    refine l_mv rfl ?_
    refine l_idxS (j := i) (sz := 6) (len := acts.length) (cs := (acts.flatMap QActD.cells)) rfl rfl (by kernel_rfl) (fun w' hw' => Own.rd hv hw') rfl (by omega) rfl ?_
    refine l_ldSN (v := v) (off := offV v + i * 6) (i * 6 + 0) (cs := (acts.flatMap QActD.cells)) (QActD.cells (nth acts i)) rfl (by omega) (fun w' hw' => Own.rd hv hw') (flat_atN (sz := 6) (fun _ => rfl) (nth_some (by omega)) (o := 0) (us := (QActD.cells (nth acts i))) (fun k u h => by rw [Nat.zero_add]; exact h)) (by kernel_rfl) rfl ?_
    refine l_call (by kernel_rfl) rfl rfl (fun w' hw => ?_)
    refine (qact_s b1_ bm2_ lm3_ b19 now cnt kb kl bv lv bs ls (nth acts i) w' ho hr (hwf _ (nth_mem (by omega))) (by omega) (hw.give [0, 1, 2, 3, 4, 5] rfl (by decide))).mono ?_
    rintro _ w1 ⟨now'4_, cnt'5_, kb'6_, kl'7_, bv'8_, lv'9_, bs'10_, ls'11_, rfl, hf5_6, hf5_6_1, hf5_6_2, hf5_6_3, hf5_6_4, hO⟩
    refine (?_ : CL _ _ _ _ _ _ (Own w [] [Res.row b1_ 64 [.map (some bm2_), .map (some lm3_), .int .i64 now'4_, .int .u64 (cnt'5_ : Nat)], Res.mp Value.string ekI bm2_ kb'6_, Res.mp ekU leaV lm3_ kl'7_, Res.row b19 30 [.int .i64 now'4_, .int .u64 (cnt'5_ : Nat), bv'8_, lv'9_], Res.vec 68 2 bv'8_ bs'10_.length (bs'10_.flatMap BudD.cells), Res.vec 37 5 lv'9_ ls'11_.length (ls'11_.flatMap LeaD.cells)])) w1 (hw.frameL [0, 1, 2, 3, 4, 5] rfl hO)
    refine l_end ?_
    refine c_last ?_
    refine l_mv rfl ?_
    refine l_add rfl rfl (wi64 (by omega)) rfl ?_
    refine l_as rfl ?_
    exact l_nil (fun w' hw => ⟨i + 1, now'4_, cnt'5_, kb'6_, kl'7_, bv'8_, lv'9_, bs'10_, ls'11_, ⟨rfl, rfl, rfl, rfl, rfl, rfl, rfl, rfl, trivial⟩, ⟨by omega, ⟨hf5_6, hf5_6_1, by have := hf5_6_2; omega⟩, hf5_6_4 hs⟩, hw, (by omega)⟩)
  ·
    refine c_exitC rfl ?_
    refine c_seq ?_
    refine c_reg ?_
    refine l_call (by kernel_rfl) rfl rfl (fun w' hw => ?_)
    refine (answers_s w').mono ?_
    rintro _ w1 ⟨rfl, hO⟩
    refine (?_ : CL _ _ _ _ _ _ (Own w [] [Res.row b1_ 64 [.map (some bm2_), .map (some lm3_), .int .i64 now, .int .u64 (cnt : Nat)], Res.mp Value.string ekI bm2_ kb, Res.mp ekU leaV lm3_ kl, Res.row b19 30 [.int .i64 now, .int .u64 (cnt : Nat), bv, lv], Res.vec 68 2 bv bs.length (bs.flatMap BudD.cells), Res.vec 37 5 lv ls.length (ls.flatMap LeaD.cells)])) w1 (hw.frame0 hO)
    refine l_not (b := true) rfl rfl ?_
    refine l_mv rfl ?_
    refine l_on rfl rfl ?_
    refine l_mv rfl ?_
    refine l_on rfl rfl ?_
    refine l_nilp (by kernel_rfl) rfl rfl rfl ?_
    refine l_pickF rfl rfl ?_
    refine l_end ?_
    refine c_no rfl ?_
    refine c_skipC ?_
    refine c_reg ?_
    refine l_mv rfl ?_
    refine l_mv rfl ?_
    refine l_mv rfl ?_
    refine l_bsl (e := 68) (sz := 2) (vs := []) (by kernel_rfl) rfl rfl (by simp [Value.cells, BudD.cells]) (by decide) rfl (fun b50 => ?_)
    refine l_mv rfl ?_
    refine l_appF (g := BudD.cells) (sz := 2) (by' := 24) (fun _ => rfl) (l := []) (l' := us) (by simp [cell1, BudD.cells, vu]) 6 (by kernel_rfl) rfl rfl rfl (fun w' hw' => Own.rd hub hw') (by first | omega | (simp; omega)) (by decide) rfl (fun v52 => ?_)
    refine l_bsl (e := 37) (sz := 5) (vs := []) (by kernel_rfl) rfl rfl (by simp [Value.cells, LeaD.cells]) (by decide) rfl (fun b53 => ?_)
    refine l_mv rfl ?_
    refine l_appF (g := LeaD.cells) (sz := 5) (by' := 48) (fun _ => rfl) (l := []) (l' := uls) (by simp [cell1, LeaD.cells, vu]) 7 (by kernel_rfl) rfl rfl rfl (fun w' hw' => Own.rd hul hw') (by first | omega | (simp; omega)) (by decide) rfl (fun v55 => ?_)
    refine l_call (by kernel_rfl) rfl rfl (fun w' hw => ?_)
    refine (load_s b1_ bm2_ lm3_ now cnt kb kl time last v52 us v55 uls w' (by first | assumption | omega | (simp <;> omega) | (constructor <;> (first | omega | (simp only [LenOk]; omega) | (simp <;> omega)))) (by first | assumption | omega | (simp <;> omega) | (constructor <;> (first | omega | (simp only [LenOk]; omega) | (simp <;> omega)))) (by first | assumption | omega | (simp <;> omega) | (constructor <;> (first | omega | (simp only [LenOk]; omega) | (simp <;> omega)))) (by first | assumption | omega | (simp <;> omega) | (constructor <;> (first | omega | (simp only [LenOk]; omega) | (simp <;> omega)))) (hw.rdVec 6 rfl [0, 1, 2] rfl rfl) (hw.rdVec 7 rfl [0, 1, 2] rfl rfl) (hw.give [0, 1, 2] rfl (by decide))).mono ?_
    rintro _ w1 ⟨bm'12_, lm'13_, now'14_, cnt'15_, kb'16_, kl'17_, e18_, rfl, hf8_9, hO⟩
    refine (?_ : CL _ _ _ _ _ _ (Own w [] [Res.row b19 30 [.int .i64 now, .int .u64 (cnt : Nat), bv, lv], Res.vec 68 2 bv bs.length (bs.flatMap BudD.cells), Res.vec 37 5 lv ls.length (ls.flatMap LeaD.cells), Res.vec 68 2 v52 us.length (us.flatMap BudD.cells), Res.vec 37 5 v55 uls.length (uls.flatMap LeaD.cells), Res.row b1_ 64 [.map (some bm'12_), .map (some lm'13_), .int .i64 now'14_, .int .u64 (cnt'15_ : Nat)], Res.mp Value.string ekI bm'12_ kb'16_, Res.mp ekU leaV lm'13_ kl'17_])) w1 (hw.frameL [0, 1, 2] rfl hO)
    refine l_as rfl ?_
    refine l_end ?_
    refine c_reg ?_
    refine l_mv rfl ?_
    refine l_mv rfl ?_
    refine l_mv rfl ?_
    refine l_mv rfl ?_
    refine l_call (by kernel_rfl) rfl rfl (fun w' hw => ?_)
    refine (tableOf_s time last ub us ul uls w' (by first | assumption | omega | (simp <;> omega) | (constructor <;> (first | omega | (simp only [LenOk]; omega) | (simp <;> omega)))) (by first | assumption | omega | (simp <;> omega) | (constructor <;> (first | omega | (simp only [LenOk]; omega) | (simp <;> omega)))) (by first | assumption | omega | (simp <;> omega) | (constructor <;> (first | omega | (simp only [LenOk]; omega) | (simp <;> omega)))) (by first | assumption | omega | (simp <;> omega) | (constructor <;> (first | omega | (simp only [LenOk]; omega) | (simp <;> omega)))) (hw.rd0 hub) (hw.rd0 hul)).mono ?_
    rintro _ w1 ⟨pv19_, wb20_, bv'21_, lv'22_, bs'23_, ls'24_, rfl, hf9_4, hO⟩
    have hld := hf8_9
    have htf := hf9_4
    refine (?_ : CL _ _ _ _ _ _ (Own w [] [Res.row b19 30 [.int .i64 now, .int .u64 (cnt : Nat), bv, lv], Res.vec 68 2 bv bs.length (bs.flatMap BudD.cells), Res.vec 37 5 lv ls.length (ls.flatMap LeaD.cells), Res.vec 68 2 v52 us.length (us.flatMap BudD.cells), Res.vec 37 5 v55 uls.length (uls.flatMap LeaD.cells), Res.row b1_ 64 [.map (some bm'12_), .map (some lm'13_), .int .i64 now'14_, .int .u64 (cnt'15_ : Nat)], Res.mp Value.string ekI bm'12_ kb'16_, Res.mp ekU leaV lm'13_ kl'17_, Res.row wb20_ 30 [.int .i64 time, .int .u64 (last : Nat), bv'21_, lv'22_], Res.vec 68 2 bv'21_ bs'23_.length (bs'23_.flatMap BudD.cells), Res.vec 37 5 lv'22_ ls'24_.length (ls'24_.flatMap LeaD.cells)])) w1 (hw.frame0 hO)
    refine l_mv rfl ?_
    refine l_ext (vs := [pv19_, .bool (decide (LoadOk time last us uls))]) rfl rfl rfl ?_
    refine l_ext (vs := [pv19_, .bool (decide (LoadOk time last us uls))]) rfl rfl rfl ?_
    refine l_as rfl ?_
    refine l_as rfl ?_
    refine l_end ?_
    refine c_seq ?_
    refine c_reg ?_
    refine l_mv rfl ?_
    refine l_notp (q := LoadOk time last us uls) rfl rfl ?_
    refine l_end ?_
    refine c_dec rfl (fun c3 => ?_) (fun c3 => ?_)
    ·
      refine c_reg ?_
      refine l_mv rfl ?_
      refine l_eq rfl rfl rfl ?_
      refine l_mv rfl ?_
      refine l_band (q := e18_ = 2) 3 2 [72, 71, 70] (true = true) rfl rfl rfl rfl rfl rfl trivial rfl (fun h11_2 => ?_) (fun g11_6 => ?_)
      ·
        refine l_on rfl (gT h11_2) ?_
        refine l_mv rfl ?_
        refine l_on rfl (gT h11_2) ?_
        refine l_mv rfl ?_
        refine l_on rfl (gT h11_2) ?_
        refine l_call (by kernel_rfl) rfl rfl (fun w' hw => ?_)
        refine (alike_s b1_ bm'12_ lm'13_ b19 now'14_ now cnt'15_ cnt kb'16_ kl'17_ bv lv bs ls w' ((loadQ_no hld c3).2.1) ((loadQ_no hld c3).2.2.1) ho (by rw [(loadQ_no hld c3).2.2.2.1, (loadQ_no hld c3).2.2.2.2]; exact hr) hs (hw.give [5, 6, 7, 0, 1, 2] rfl (by decide))).mono ?_
        rintro _ w1 ⟨rfl, hO⟩
        refine (?_ : CL _ _ _ _ _ _ (Own w [] [Res.vec 68 2 v52 us.length (us.flatMap BudD.cells), Res.vec 37 5 v55 uls.length (uls.flatMap LeaD.cells), Res.row wb20_ 30 [.int .i64 time, .int .u64 (last : Nat), bv'21_, lv'22_], Res.vec 68 2 bv'21_ bs'23_.length (bs'23_.flatMap BudD.cells), Res.vec 37 5 lv'22_ ls'24_.length (ls'24_.flatMap LeaD.cells), Res.row b1_ 64 [.map (some bm'12_), .map (some lm'13_), .int .i64 now'14_, .int .u64 (cnt'15_ : Nat)], Res.mp Value.string ekI bm'12_ kb'16_, Res.mp ekU leaV lm'13_ kl'17_, Res.row b19 30 [.int .i64 now, .int .u64 (cnt : Nat), bv, lv], Res.vec 68 2 bv bs.length (bs.flatMap BudD.cells), Res.vec 37 5 lv ls.length (ls.flatMap LeaD.cells)])) w1 (hw.frameL [5, 6, 7, 0, 1, 2] rfl hO)
        exact l_nil (fun w' hw => ⟨(by repeat (first | exact Out.refl _ _ | refine Out.upd rfl ?_ | refine Out.msk rfl ?_)), (bool_dec _), hw.sel [8, 9, 10, 0, 1, 5, 6, 7, 2, 3, 4] rfl (by decide)⟩)
      refine l_as rfl ?_
      refine l_end ?_
      exact c_ret (ret1 (v := .bool (decide ((e18_ = 2) ∧ (true = true)))) rfl rfl (fun w' hw => ⟨(by congr 1; exact decide_eq_true ⟨(loadQ_no hld c3).1, rfl⟩), hw.drop⟩))
    ·
      refine c_skipC ?_
      have hL := Decidable.not_not.1 c3
      have hpv := (htf hL).1
      have hb' := (htf hL).2.1
      have hl' := (htf hL).2.2
      subst hpv
      refine c_reg ?_
      refine l_mv rfl ?_
      refine l_eq rfl rfl rfl ?_
      refine l_mv rfl ?_
      refine l_band (q := e18_ = 0) 3 2 [79, 78, 77] (true = true) rfl rfl rfl rfl rfl rfl trivial rfl (fun h12_2 => ?_) (fun g12_6 => ?_)
      ·
        refine l_on rfl (gT h12_2) ?_
        refine l_mv rfl ?_
        refine l_on rfl (gT h12_2) ?_
        refine l_mv rfl ?_
        refine l_on rfl (gT h12_2) ?_
        refine l_call (by kernel_rfl) rfl rfl (fun w' hw => ?_)
        refine (alike_s b1_ bm'12_ lm'13_ wb20_ now'14_ time cnt'15_ last kb'16_ kl'17_ bv'21_ lv'22_ bs'23_ ls'24_ w' ((loadQ_yes hld hL).2.1) ((loadQ_yes hld hL).2.2.1) (by rw [hb', hl']; exact (hL.ok hbi).1) (by rw [hb', hl', (loadQ_yes hld hL).2.2.2.1, (loadQ_yes hld hL).2.2.2.2]; exact ⟨.refl _, .refl _⟩) (by rw [hb']; exact (hL.ok hbi).2) (hw.give [5, 6, 7, 8, 9, 10] rfl (by decide))).mono ?_
        rintro _ w1 ⟨rfl, hO⟩
        refine (?_ : CL _ _ _ _ _ _ (Own w [] [Res.row b19 30 [.int .i64 now, .int .u64 (cnt : Nat), bv, lv], Res.vec 68 2 bv bs.length (bs.flatMap BudD.cells), Res.vec 37 5 lv ls.length (ls.flatMap LeaD.cells), Res.vec 68 2 v52 us.length (us.flatMap BudD.cells), Res.vec 37 5 v55 uls.length (uls.flatMap LeaD.cells), Res.row b1_ 64 [.map (some bm'12_), .map (some lm'13_), .int .i64 now'14_, .int .u64 (cnt'15_ : Nat)], Res.mp Value.string ekI bm'12_ kb'16_, Res.mp ekU leaV lm'13_ kl'17_, Res.row wb20_ 30 [.int .i64 time, .int .u64 (last : Nat), bv'21_, lv'22_], Res.vec 68 2 bv'21_ bs'23_.length (bs'23_.flatMap BudD.cells), Res.vec 37 5 lv'22_ ls'24_.length (ls'24_.flatMap LeaD.cells)])) w1 (hw.frameL [5, 6, 7, 8, 9, 10] rfl hO)
        exact l_nil (fun w' hw => ⟨(by repeat (first | exact Out.refl _ _ | refine Out.upd rfl ?_ | refine Out.msk rfl ?_)), (bool_dec _), hw⟩)
      refine l_as rfl ?_
      refine l_end ?_
      exact c_ret (ret1 (v := .bool (decide ((e18_ = 0) ∧ (true = true)))) rfl rfl (fun w' hw => ⟨(by congr 1; exact decide_eq_true ⟨(loadQ_yes hld hL).1, rfl⟩), hw.drop⟩))
end Go.Proofs.Ytgkeoenbcjfeaaa
