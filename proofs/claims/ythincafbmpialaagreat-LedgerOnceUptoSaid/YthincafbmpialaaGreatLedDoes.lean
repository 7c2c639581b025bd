/-
  LedgerDoes and LedgerOnce, walked.
-/
import Derived.Test.YthincafbmpialaaGreatLedL
set_option linter.unusedVariables false
set_option maxRecDepth 10000
namespace Go.Proofs.YthincafbmpialaaGreat
open Go Go.Sc Go.Proofs

instance : Inhabited CmdD := ⟨cmd1⟩
theorem get_put_self {kr : List (Nat × RepD)} {k : Nat} {v : RepD} (hn : KNd kr) : getA k (putA k v kr) = some v := getA_of hn.put ((putA_perm hn).mem_iff.2 List.mem_cons_self)
theorem get_put_other {kr : List (Nat × RepD)} {j k : Nat} {v x : RepD} (hn : KNd kr) (hj : j ≠ k) (h : getA j kr = some x) : getA j (putA k v kr) = some x :=
  getA_of hn.put ((putA_perm hn).mem_iff.2 (List.mem_cons_of_mem _ (List.mem_filter.2 ⟨getA_mem h, by simpa using hj⟩)))
section
variable {now : Int} {cnt cnt' : Nat} {kb kb' : List (ByteArray × Int)} {kl kl' : List (Nat × LeaD)} {kr kr' : List (Nat × RepD)} {c : CmdD} {r s : RepD} {did : Bool}
theorem tab_ok (h : TabK now cnt kb kl c r cnt' kb' kl') : r.session = c.session ∧ r.seq = c.seq ∧ r.ok := by
  have hl : ∀ x e, 0 ≤ e ∧ e ≤ 20 → (leaR c x e).session = c.session ∧ (leaR c x e).seq = c.seq ∧ (leaR c x e).ok := fun x e he => by
    unfold leaR failR; split
    · exact ⟨rfl, rfl, he⟩
    · exact ⟨rfl, rfl, by show (0 : Int) ≤ 0 ∧ (0 : Int) ≤ 20; decide⟩
  rcases h with h | ⟨_, x, e, h1, _, h, _⟩ | ⟨_, x, e, h1, h, _⟩ | ⟨_, x, e, h1, h, _⟩ | h
  · rw [h.2.1]
    refine ⟨rfl, rfl, ?_⟩
    show 0 ≤ setEK c.key c.amount kb ∧ setEK c.key c.amount kb ≤ 20
    unfold setEK; split
    · decide
    · split <;> decide
  · rw [h]; refine hl x e ?_
    rw [h1]; unfold lendEK
    repeat (first | decide | split)
  · rw [h]; refine hl x e ?_
    rcases h1 with h1 | h1 | ⟨_, l, _, _, h1 | h1⟩
    · rw [h1.2.1]; decide
    · rw [h1.2.2.1]; decide
    · rw [h1.2.1]; decide
    · rw [h1.2.1]; decide
  · rw [h]; refine hl x e ?_
    rcases h1 with h1 | ⟨l, _, _, h1, _⟩
    · rw [h1.2.1]; decide
    · rw [h1]; decide
  · rw [h.2.1]; exact ⟨rfl, rfl, by show (0 : Int) ≤ 0 ∧ (0 : Int) ≤ 20; decide⟩
theorem did_ok (hd : did = true) (h : DoK now cnt kb kl kr c r did cnt' kb' kl' kr') : (c.ok ∧ c.session ≠ 0 ∧ c.seq ≠ 0) ∧ r.session = c.session ∧ r.seq = c.seq ∧ kr' = putA c.session r kr := by
  rcases h with ⟨_, h, _⟩ | ⟨h1, h2, _, h4⟩
  · rw [hd] at h; cases h
  · have hk := tab_ok h2
    refine ⟨h1.1, hk.1, hk.2.1, ?_⟩
    rw [h4, doneK, if_pos ⟨hk.2.2, by rw [hk.1, hk.2.1]; exact h1.2⟩, hk.1]
theorem keep_ok {k : Nat} {x : RepD} (hn : KNd kr) (hk : c.session ≠ k) (hg : getA k kr = some x) (h : DoK now cnt kb kl kr c r did cnt' kb' kl' kr') : getA k kr' = some x := by
  rcases h with ⟨_, _, _, _, _, h⟩ | ⟨h1, h2, h3, h4⟩
  · rw [h]; exact hg
  · rw [(did_ok h3 (.inr ⟨h1, h2, h3, h4⟩)).2.2.2]; exact get_put_other hn (fun q => hk q.symm) hg
theorem again_ok (hc : c.ok ∧ c.session ≠ 0 ∧ c.seq ≠ 0) (hg : getA c.session kr = some r) (hq : r.seq = c.seq) (h : DoK now cnt kb kl kr c s did cnt' kb' kl' kr') : (s = r ∧ did = false) ∧ cnt' = cnt ∧ kb' = kb ∧ kl' = kl ∧ kr' = kr := by
  have hf : findK kr c.session c.seq = (r, 0) := by
    unfold findK
    rw [if_neg (by rintro (q | q); exact hc.2.1 q; exact hc.2.2 q), hg]
    dsimp only
    rw [if_neg (by omega), if_neg (by omega)]
  rcases h with ⟨h, h2, h3⟩ | ⟨h, _⟩
  · refine ⟨⟨?_, h2⟩, h3⟩
    rw [hf] at h
    rcases h with h | h | h | h
    · exact absurd hc.1 h.1
    · exact absurd h.2.1 hc.2.1
    · exact absurd h.2.2.1 hc.2.2
    · rw [h.2.2]; exact if_pos rfl
  · rw [hf] at h; exact absurd h.2 (by show ¬ ((0 : Int) = 8); decide)
theorem LSt.eqs {idx : Nat} {idx2 : Nat} {now2 : Int} {cnt2 : Nat} {bs : List BudD} {ls : List LeaD} {rs : List RepD} (h : LSt idx now cnt kb kl kr idx2 now2 cnt2 bs ls rs) (e : cnt' = cnt ∧ kb' = kb ∧ kl' = kl ∧ kr' = kr) : LSt idx now cnt' kb' kl' kr' idx2 now2 cnt2 bs ls rs := by
  obtain ⟨rfl, rfl, rfl, rfl⟩ := e; exact h
end
theorem ledgerDoes_s (v : Value) (l : List EntD) (u : Value) (c : List CmdD) (w : World) (hel : ∀ x ∈ l, EntOk x) (hl : l.length ≤ 10000000) (hc : ∀ x ∈ c, x.wf) (hlc : c.length ≤ 10000000) (hv : Rd w [] (Res.sl v l.length (l.flatMap EntD.cells))) (all_hv : ∀ p ∈ l, EntD.rd p w []) (hu : Rd w [] (Res.sl u c.length (c.flatMap CmdD.cells))) : Rets Tryz.prog 4 #[v, u] w fun u_ w' => u_ = .bool true ∧ Own w [] [] w' := by
  refine fn_own Tryz.func4 rfl Tryz.ntmps4 (Own.start w) ?_
  refine c_reg (l_as rfl (l_end (c_reg (a_call rfl rfl (fun w' hw => (lnew_s w').mono ?_)))))
  rintro _ w1 ⟨b1_, tb2_, cb3_, bm4_, lm5_, rm6_, rfl, hO⟩
  refine (?_ : CL _ _ _ _ _ _ (Own w [] [Res.row b1_ 66 [.pointer (some ⟨tb2_, 0, none⟩), .pointer (some ⟨cb3_, 0, none⟩), Vn 0], Res.row tb2_ 111 [.map (some bm4_), .map (some lm5_), Vi 0, Vn 0], Res.mp Value.string ekI bm4_ ([] : List (ByteArray × Int)), Res.mp ekU leaV lm5_ ([] : List (Nat × LeaD)), Res.row cb3_ 114 [.map (some rm6_)], Res.mp ekR repA rm6_ ([] : List (Nat × RepD))])) w1 (hw.frame0 hO)
  refine l_bld (cs := [Vi 0, Vn 0, .slice none 0 0, .slice none 0 0, .slice none 0 0, Vn 0]) (z := [Vi 0, Vn 0, .slice none 0 0, .slice none 0 0, .slice none 0 0, Vn 0]) (pl := [(0, 4), (4, 1), (5, 1)]) (by kernel_rfl) (by kernel_rfl) rfl (l_box rfl rfl (fun b14 => l_as rfl (l_as rfl (l_end (c_seq (c_reg (a_call rfl rfl (fun w' hw => (answers_s w').mono ?_))))))))
  rintro _ w1 ⟨rfl, hO⟩
  refine (?_ : CL _ _ _ _ _ _ (Own w [] [Res.row b1_ 66 [.pointer (some ⟨tb2_, 0, none⟩), .pointer (some ⟨cb3_, 0, none⟩), Vn 0], Res.row tb2_ 111 [.map (some bm4_), .map (some lm5_), Vi 0, Vn 0], Res.mp Value.string ekI bm4_ ([] : List (ByteArray × Int)), Res.mp ekU leaV lm5_ ([] : List (Nat × LeaD)), Res.row cb3_ 114 [.map (some rm6_)], Res.mp ekR repA rm6_ ([] : List (Nat × RepD)), Res.row b14 37 [Vi 0, Vn 0, .slice none 0 0, .slice none 0 0, .slice none 0 0, Vn 0]])) w1 (hw.frame0 hO)
  refine l_not (b := true) rfl rfl (l_mv rfl (l_on rfl rfl (l_mv rfl (l_on rfl rfl (l_nilp (by kernel_rfl) rfl rfl rfl (l_pickF rfl rfl (l_mv rfl (l_on rfl rfl (l_mv rfl (l_on rfl rfl (l_mv rfl (l_on rfl rfl ?_))))))))))))
  refine l_mv rfl (l_on rfl rfl (a_call rfl rfl (fun w' hw => (follow_s v l w' ‹_› (by first | omega | (simp <;> omega)) (hw.rd0 hv) (fun p hp => EntD.rd.at0 (all_hv p hp) hw)).mono ?_)))
  rintro r7_ w1 ⟨_, es8_, rfl, hf2_10, hf2_10_1, hO⟩
  refine (?_ : CL _ _ _ _ _ _ (Own w [] [Res.row b1_ 66 [.pointer (some ⟨tb2_, 0, none⟩), .pointer (some ⟨cb3_, 0, none⟩), Vn 0], Res.row tb2_ 111 [.map (some bm4_), .map (some lm5_), Vi 0, Vn 0], Res.mp Value.string ekI bm4_ ([] : List (ByteArray × Int)), Res.mp ekU leaV lm5_ ([] : List (Nat × LeaD)), Res.row cb3_ 114 [.map (some rm6_)], Res.mp ekR repA rm6_ ([] : List (Nat × RepD)), Res.row b14 37 [Vi 0, Vn 0, .slice none 0 0, .slice none 0 0, .slice none 0 0, Vn 0], Res.vec 57 5 r7_ es8_.length (es8_.flatMap EntD.cells), Res.star (es8_.map EntD.dres)])) w1 (hw.frame0 hO)
  refine l_on rfl rfl ?_
  refine l_addnil 93 2 ?_
  refine l_addnil 76 5 ?_
  refine l_addnil 43 6 ?_
  refine a_call rfl rfl (fun w' hw => (apply_s r7_ es8_ b1_ tb2_ cb3_ bm4_ lm5_ rm6_ 0 0 0 [] [] [] b14 0 0 0 (.slice none 0 0) (.slice none 0 0) (.slice none 0 0) [] [] [] w' LSt.start hf2_10_1 (by have := hf2_10; omega) (by have := hf2_10; omega) (hw.give [0, 1, 2, 3, 4, 5, 6, 9, 10, 11] rfl (by decide)) (hw.rdVec 7 rfl [0, 1, 2, 3, 4, 5, 6, 9, 10, 11] rfl rfl) (EntD.rd.star 8 rfl [0, 1, 2, 3, 4, 5, 6, 9, 10, 11] rfl rfl hw)).mono ?_)
  rintro _ w1 ⟨idx'9_, now'10_, cnt'11_, kb'12_, kl'13_, kr'14_, idx315_, now316_, cnt317_, bv'18_, lv'19_, rv'20_, bs'21_, ls'22_, rs'23_, rfl, hf2_11, hf2_11_1, hf2_11_2, hO⟩
  refine (?_ : CL _ _ _ _ _ _ (Own w [] [Res.vec 57 5 r7_ es8_.length (es8_.flatMap EntD.cells), Res.star (es8_.map EntD.dres), Res.row b1_ 66 [.pointer (some ⟨tb2_, 0, none⟩), .pointer (some ⟨cb3_, 0, none⟩), Vn idx'9_], Res.row tb2_ 111 [.map (some bm4_), .map (some lm5_), Vi now'10_, Vn cnt'11_], Res.mp Value.string ekI bm4_ kb'12_, Res.mp ekU leaV lm5_ kl'13_, Res.row cb3_ 114 [.map (some rm6_)], Res.mp ekR repA rm6_ kr'14_, Res.row b14 37 [Vi now316_, Vn cnt317_, bv'18_, lv'19_, rv'20_, Vn idx315_], Res.vec 93 2 bv'18_ bs'21_.length (bs'21_.flatMap BudD.cells), Res.vec 76 5 lv'19_ ls'22_.length (ls'22_.flatMap LeaD.cells), Res.vec 43 6 rv'20_ rs'23_.length (rs'23_.flatMap RepD.cells)])) w1 (hw.frameL [0, 1, 2, 3, 4, 5, 6, 9, 10, 11] rfl hO)
  refine l_on rfl rfl (l_not (b := true) rfl rfl (l_pickF rfl rfl (l_end (c_no rfl (c_skipC (c_seq (c_reg (l_as rfl (l_end (c_block ?_))))))))))
  refine c_loop16 (fun (i : Nat) (idx' : Nat) (now' : Int) (cnt' : Nat) (kb' : List (ByteArray × Int)) (kl' : List (Nat × LeaD)) (kr' : List (Nat × RepD)) (idx3 : Nat) (now3 : Int) (cnt3 : Nat) (bv' lv' rv' : Value) (bs' : List BudD) (ls' : List LeaD) (rs' : List RepD) => [(1, u), (5, .pointer (some ⟨b1_, 0, none⟩)), (6, .pointer (some ⟨b14, 0, none⟩)), (7, Vj i)]) (fun (i : Nat) (idx' : Nat) (now' : Int) (cnt' : Nat) (kb' : List (ByteArray × Int)) (kl' : List (Nat × LeaD)) (kr' : List (Nat × RepD)) (idx3 : Nat) (now3 : Int) (cnt3 : Nat) (bv' lv' rv' : Value) (bs' : List BudD) (ls' : List LeaD) (rs' : List RepD) => (i ≤ c.length ∧ i ≤ 100 ∧ cnt3 ≤ 200 + i) ∧ LSt idx' now' cnt' kb' kl' kr' idx3 now3 cnt3 bs' ls' rs') (fun (i : Nat) (idx' : Nat) (now' : Int) (cnt' : Nat) (kb' : List (ByteArray × Int)) (kl' : List (Nat × LeaD)) (kr' : List (Nat × RepD)) (idx3 : Nat) (now3 : Int) (cnt3 : Nat) (bv' lv' rv' : Value) (bs' : List BudD) (ls' : List LeaD) (rs' : List RepD) => [Res.row b1_ 66 [.pointer (some ⟨tb2_, 0, none⟩), .pointer (some ⟨cb3_, 0, none⟩), Vn idx'], Res.row tb2_ 111 [.map (some bm4_), .map (some lm5_), Vi now', Vn cnt'], Res.mp Value.string ekI bm4_ kb', Res.mp ekU leaV lm5_ kl', Res.row cb3_ 114 [.map (some rm6_)], Res.mp ekR repA rm6_ kr', Res.row b14 37 [Vi now3, Vn cnt3, bv', lv', rv', Vn idx3], Res.vec 93 2 bv' bs'.length (bs'.flatMap BudD.cells), Res.vec 76 5 lv' ls'.length (ls'.flatMap LeaD.cells), Res.vec 43 6 rv' rs'.length (rs'.flatMap RepD.cells)]) (fun (i : Nat) (idx' : Nat) (now' : Int) (cnt' : Nat) (kb' : List (ByteArray × Int)) (kl' : List (Nat × LeaD)) (kr' : List (Nat × RepD)) (idx3 : Nat) (now3 : Int) (cnt3 : Nat) (bv' lv' rv' : Value) (bs' : List BudD) (ls' : List LeaD) (rs' : List RepD) => c.length - i) (fun w' hw => ⟨0, idx'9_, now'10_, cnt'11_, kb'12_, kl'13_, kr'14_, idx315_, now316_, cnt317_, bv'18_, lv'19_, rv'20_, bs'21_, ls'22_, rs'23_, ⟨rfl, rfl, rfl, rfl, trivial⟩, ⟨⟨by omega, by omega, by have := hf2_11_1; have := hf2_10; omega⟩, hf2_11⟩, hw.sel [2, 3, 4, 5, 6, 7, 8, 9, 10, 11] rfl (by decide)⟩) (fun i idx' now' cnt' kb' kl' kr' idx3 now3 cnt3 bv' lv' rv' bs' ls' rs' g hΦ => ?_)
  have hi1 := hΦ.1
  have hs2 := hΦ.2
  refine c_seq (c_reg (l_mv rfl (l_mv rfl (a_lenP (pR hu) rfl rfl (l_lss rfl rfl rfl (l_mv rfl (l_band (q := ((i : Nat) : Int) < ((c.length : Nat) : Int)) 2 4 [35, 34] (((i : Nat) : Int) < 100) rfl rfl rfl rfl rfl rfl trivial rfl (fun h5_4 => ?_) (fun g5_7 => ?_))))))))
  ·
   refine l_on rfl (gT h5_4) (l_mv rfl (l_on rfl (gT h5_4) (l_lss rfl rfl rfl ?_)))
   exact l_gp rfl (fun _ hw => hw)
  refine l_end (c_dec rfl (fun c2 => ?_) (fun c2 => ?_))
  ·
   refine c_skipC (c_seq (c_block (c_reg (l_mv rfl (l_mv rfl (l_mv rfl (a_idxP (pR hu) 7 i rfl rfl rfl (by omega) rfl (a_ldAP (pR hu) 7 i (off := offV u + i * 7) (fun _ => rfl) rfl rfl (by omega) rfl (a_call rfl rfl (fun w' hw => (ldo_s b1_ tb2_ cb3_ bm4_ lm5_ rm6_ idx' now' cnt' kb' kl' kr' (nth c i) w' (hc _ (nth_mem (by omega))) hs2.ht (by rw [hs2.c]; omega) (hs2.lent1 _) (hs2.kl0 (by omega)) (hw.give [0, 1, 2, 3, 4, 5] rfl (by decide))).mono ?_))))))))))
   rintro _ w1 ⟨r24_, did25_, cnt'26_, kb'27_, kl'28_, kr'29_, rfl, hf7_5, hO⟩
   refine (?_ : CL _ _ _ _ _ _ (Own w [] [Res.row b14 37 [Vi now3, Vn cnt3, bv', lv', rv', Vn idx3], Res.vec 93 2 bv' bs'.length (bs'.flatMap BudD.cells), Res.vec 76 5 lv' ls'.length (ls'.flatMap LeaD.cells), Res.vec 43 6 rv' rs'.length (rs'.flatMap RepD.cells), Res.row b1_ 66 [.pointer (some ⟨tb2_, 0, none⟩), .pointer (some ⟨cb3_, 0, none⟩), Vn idx'], Res.row tb2_ 111 [.map (some bm4_), .map (some lm5_), Vi now', Vn cnt'26_], Res.mp Value.string ekI bm4_ kb'27_, Res.mp ekU leaV lm5_ kl'28_, Res.row cb3_ 114 [.map (some rm6_)], Res.mp ekR repA rm6_ kr'29_])) w1 (hw.frameL [0, 1, 2, 3, 4, 5] rfl hO)
   refine l_mv rfl (l_ext (vs := [.agg (RepD.cells r24_).toArray, .bool did25_]) rfl rfl rfl (l_ext (vs := [.agg (RepD.cells r24_).toArray, .bool did25_]) rfl rfl rfl (l_new (v := .agg #[Vn 0, Vn 0, Vi 0, Vn 0, Vi 0, Vi 0]) (by kernel_rfl) rfl (fun b8 => a_stN 10 rfl rfl rfl (allc rfl) rfl (l_as rfl (l_end (c_reg (l_mv rfl (l_mv rfl (l_mv rfl (a_idxP (pR hu) 7 i rfl rfl rfl (by omega) rfl (a_ldAP (pR hu) 7 i (off := offV u + i * 7) (fun _ => rfl) rfl rfl (by omega) rfl ?_))))))))))))
   refine a_call rfl rfl (fun w' hw => (rdo_s b14 (37) ([]) now3 cnt3 bv' lv' rv' bs' ls' rs' idx3 (nth c i) w' hs2.h (hc _ (nth_mem (by omega))) (hw.give [0, 1, 2, 3] rfl (by decide))).mono ?_)
   rintro _ w1 ⟨r30_, did31_, cnt'32_, bv'33_, lv'34_, rv'35_, bs'36_, ls'37_, rs'38_, rfl, hf8_5, hO⟩
   have hdo := hs2.do (hc _ (nth_mem (by omega))) (by omega) hf7_5 hf8_5
   refine (?_ : CL _ _ _ _ _ _ (Own w [] [Res.row b1_ 66 [.pointer (some ⟨tb2_, 0, none⟩), .pointer (some ⟨cb3_, 0, none⟩), Vn idx'], Res.row tb2_ 111 [.map (some bm4_), .map (some lm5_), Vi now', Vn cnt'26_], Res.mp Value.string ekI bm4_ kb'27_, Res.mp ekU leaV lm5_ kl'28_, Res.row cb3_ 114 [.map (some rm6_)], Res.mp ekR repA rm6_ kr'29_, Res.row b8 43 (RepD.cells r24_), Res.row b14 (37) [Vi now3, Vn cnt'32_, bv'33_, lv'34_, rv'35_, Vn idx3], Res.vec 93 2 bv'33_ bs'36_.length (bs'36_.flatMap BudD.cells), Res.vec 76 5 lv'34_ ls'37_.length (ls'37_.flatMap LeaD.cells), Res.vec 43 6 rv'35_ rs'38_.length (rs'38_.flatMap RepD.cells)])) w1 (hw.frameL [0, 1, 2, 3] rfl hO)
   refine l_mv rfl (l_ext (vs := [.agg (RepD.cells r30_).toArray, .bool did31_]) rfl rfl rfl (l_ext (vs := [.agg (RepD.cells r30_).toArray, .bool did31_]) rfl rfl rfl (l_new (v := .agg #[Vn 0, Vn 0, Vi 0, Vn 0, Vi 0, Vi 0]) (by kernel_rfl) rfl (fun b10 => a_stN 11 rfl rfl rfl (allc rfl) rfl (l_as rfl (l_end (c_reg (a_ldr (cs := (RepD.cells r24_)) 6 rfl rfl rfl (a_ldr (cs := (RepD.cells r30_)) 11 rfl rfl rfl (l_val rfl (v_stq (RepDEq r24_ r30_) (by kernel_rfl) (by kernel_rfl) rfl rfl rfl rfl) (l_mv rfl (l_bor (q := ¬ (r24_ = r30_)) 3 3 [63, 62, 61] (¬ ((did25_ = true) ↔ (did31_ = true))) rfl rfl rfl rfl rfl rfl trivial rfl (fun h9_3 => ?_) (fun g9_7 => ?_)))))))))))))
   ·
    refine l_on rfl (gF h9_3) (l_mv rfl (l_on rfl (gF h9_3) (l_mv rfl (l_on rfl (gF h9_3) (l_bnep (by kernel_rfl) (bool_dec _) (bool_dec _) rfl ?_)))))
    exact l_gp rfl (fun _ hw => hw)
   refine l_mv rfl (l_bor (q := (¬ (r24_ = r30_)) ∨ (¬ ((did25_ = true) ↔ (did31_ = true)))) 4 8 [69, 68, 67, 66] (false = true) rfl rfl rfl rfl rfl rfl trivial rfl (fun h9_8 => ?_) (fun g9_13 => ?_))
   ·
    refine l_on rfl (gF h9_8) (l_mv rfl (l_on rfl (gF h9_8) (l_mv rfl (l_on rfl (gF h9_8) (a_call rfl rfl (fun w' hw => (lalike_s b1_ tb2_ cb3_ bm4_ lm5_ idx' now' cnt'26_ kb'27_ kl'28_ _ b14 idx3 now3 cnt'32_ bv'33_ lv'34_ rv'35_ bs'36_ ls'37_ rs'38_ w' hdo.2.1 (hw.give [0, 1, 2, 3, 7, 8, 9, 10] rfl (by decide))).mono ?_))))))
    rintro _ w1 ⟨rfl, hO⟩
    refine (?_ : CL _ _ _ _ _ _ (Own w [] [Res.row cb3_ 114 [.map (some rm6_)], Res.mp ekR repA rm6_ kr'29_, Res.row b8 43 (RepD.cells r24_), Res.row b10 43 (RepD.cells r30_), Res.row b1_ 66 [.pointer (some ⟨tb2_, 0, none⟩), .pointer (some ⟨cb3_, 0, none⟩), Vn idx'], Res.row tb2_ 111 [.map (some bm4_), .map (some lm5_), Vi now', Vn cnt'26_], Res.mp Value.string ekI bm4_ kb'27_, Res.mp ekU leaV lm5_ kl'28_, Res.row b14 37 [Vi now3, Vn cnt'32_, bv'33_, lv'34_, rv'35_, Vn idx3], Res.vec 93 2 bv'33_ bs'36_.length (bs'36_.flatMap BudD.cells), Res.vec 76 5 lv'34_ ls'37_.length (ls'37_.flatMap LeaD.cells), Res.vec 43 6 rv'35_ rs'38_.length (rs'38_.flatMap RepD.cells)])) w1 (hw.frameL [0, 1, 2, 3, 7, 8, 9, 10] rfl hO)
    refine l_on rfl (gF h9_8) (l_not (b := true) rfl rfl ?_)
    exact l_gp (bool_dec _) (fun _ hw => hw.sel [4, 5, 6, 7, 0, 1, 2, 8, 9, 10, 11, 3] rfl (by decide))
   refine l_end (c_decF rfl (fun q => by rcases q with (q | q) | q; exact q hdo.1.1; exact q (by rw [hdo.1.2]); exact absurd q Bool.false_ne_true) (c_skipC (c_last (l_mv rfl (l_add rfl rfl (wi64 (by omega)) rfl (l_as rfl ?_))))))
   exact l_nil (fun w' hw => ⟨i + 1, idx', now', cnt'26_, kb'27_, kl'28_, kr'29_, idx3, now3, cnt'32_, bv'33_, lv'34_, rv'35_, bs'36_, ls'37_, rs'38_, ⟨rfl, rfl, rfl, rfl, trivial⟩, ⟨by have := hdo.2.2.1; omega, hdo.2.1⟩, hw.sel [0, 1, 2, 3, 4, 5, 7, 8, 9, 10] rfl (by decide), (by omega)⟩)
  ·
   refine c_exitC rfl (c_reg (l_as rfl (l_end ?_)))
   exact c_ret (ret1 (v := .bool true) rfl rfl (fun w' hw => ⟨rfl, hw.drop⟩))
theorem ledgerOnce_s (v : Value) (l : List EntD) (c : CmdD) (u : Value) (m : List CmdD) (w : World) (hel : ∀ x ∈ l, EntOk x) (hl : l.length ≤ 10000000) (hcw : c.wf) (hc : ∀ x ∈ m, x.wf) (hlc : m.length ≤ 10000000) (hv : Rd w [] (Res.sl v l.length (l.flatMap EntD.cells))) (all_hv : ∀ p ∈ l, EntD.rd p w []) (hu : Rd w [] (Res.sl u m.length (m.flatMap CmdD.cells))) : Rets Tryz.prog 5 #[v, .agg (CmdD.cells c).toArray, u] w fun u_ w' => u_ = .bool true ∧ Own w [] [] w' := by
  refine fn_own Tryz.func5 rfl Tryz.ntmps5 (Own.start w) ?_
  refine c_reg (l_box rfl rfl (fun b4 => l_as rfl (l_end (c_reg (a_call rfl rfl (fun w' hw => (lnew_s w').mono ?_))))))
  rintro _ w1 ⟨b1_, tb2_, cb3_, bm4_, lm5_, rm6_, rfl, hO⟩
  refine (?_ : CL _ _ _ _ _ _ (Own w [] [Res.row b4 47 (CmdD.cells c), Res.row b1_ 66 [.pointer (some ⟨tb2_, 0, none⟩), .pointer (some ⟨cb3_, 0, none⟩), Vn 0], Res.row tb2_ 111 [.map (some bm4_), .map (some lm5_), Vi 0, Vn 0], Res.mp Value.string ekI bm4_ ([] : List (ByteArray × Int)), Res.mp ekU leaV lm5_ ([] : List (Nat × LeaD)), Res.row cb3_ 114 [.map (some rm6_)], Res.mp ekR repA rm6_ ([] : List (Nat × RepD))])) w1 (hw.frame0 hO)
  refine l_bld (cs := [Vi 0, Vn 0, .slice none 0 0, .slice none 0 0, .slice none 0 0, Vn 0]) (z := [Vi 0, Vn 0, .slice none 0 0, .slice none 0 0, .slice none 0 0, Vn 0]) (pl := [(0, 4), (4, 1), (5, 1)]) (by kernel_rfl) (by kernel_rfl) rfl (l_box rfl rfl (fun b16 => l_as rfl (l_as rfl (l_end (c_seq (c_reg (a_call rfl rfl (fun w' hw => (answers_s w').mono ?_))))))))
  rintro _ w1 ⟨rfl, hO⟩
  refine (?_ : CL _ _ _ _ _ _ (Own w [] [Res.row b4 47 (CmdD.cells c), Res.row b1_ 66 [.pointer (some ⟨tb2_, 0, none⟩), .pointer (some ⟨cb3_, 0, none⟩), Vn 0], Res.row tb2_ 111 [.map (some bm4_), .map (some lm5_), Vi 0, Vn 0], Res.mp Value.string ekI bm4_ ([] : List (ByteArray × Int)), Res.mp ekU leaV lm5_ ([] : List (Nat × LeaD)), Res.row cb3_ 114 [.map (some rm6_)], Res.mp ekR repA rm6_ ([] : List (Nat × RepD)), Res.row b16 37 [Vi 0, Vn 0, .slice none 0 0, .slice none 0 0, .slice none 0 0, Vn 0]])) w1 (hw.frame0 hO)
  refine l_not (b := true) rfl rfl (l_mv rfl (l_on rfl rfl (l_mv rfl (l_on rfl rfl (l_nilp (by kernel_rfl) rfl rfl rfl (l_pickF rfl rfl (l_mv rfl (l_on rfl rfl (l_mv rfl (l_on rfl rfl (l_mv rfl (l_on rfl rfl ?_))))))))))))
  refine l_mv rfl (l_on rfl rfl (a_call rfl rfl (fun w' hw => (follow_s v l w' ‹_› (by first | omega | (simp <;> omega)) (hw.rd0 hv) (fun p hp => EntD.rd.at0 (all_hv p hp) hw)).mono ?_)))
  rintro r7_ w1 ⟨_, es8_, rfl, hf2_10, hf2_10_1, hO⟩
  refine (?_ : CL _ _ _ _ _ _ (Own w [] [Res.row b4 47 (CmdD.cells c), Res.row b1_ 66 [.pointer (some ⟨tb2_, 0, none⟩), .pointer (some ⟨cb3_, 0, none⟩), Vn 0], Res.row tb2_ 111 [.map (some bm4_), .map (some lm5_), Vi 0, Vn 0], Res.mp Value.string ekI bm4_ ([] : List (ByteArray × Int)), Res.mp ekU leaV lm5_ ([] : List (Nat × LeaD)), Res.row cb3_ 114 [.map (some rm6_)], Res.mp ekR repA rm6_ ([] : List (Nat × RepD)), Res.row b16 37 [Vi 0, Vn 0, .slice none 0 0, .slice none 0 0, .slice none 0 0, Vn 0], Res.vec 57 5 r7_ es8_.length (es8_.flatMap EntD.cells), Res.star (es8_.map EntD.dres)])) w1 (hw.frame0 hO)
  refine l_on rfl rfl ?_
  refine l_addnil 93 2 ?_
  refine l_addnil 76 5 ?_
  refine l_addnil 43 6 ?_
  refine a_call rfl rfl (fun w' hw => (apply_s r7_ es8_ b1_ tb2_ cb3_ bm4_ lm5_ rm6_ 0 0 0 [] [] [] b16 0 0 0 (.slice none 0 0) (.slice none 0 0) (.slice none 0 0) [] [] [] w' LSt.start hf2_10_1 (by have := hf2_10; omega) (by have := hf2_10; omega) (hw.give [1, 2, 3, 4, 5, 6, 7, 10, 11, 12] rfl (by decide)) (hw.rdVec 8 rfl [1, 2, 3, 4, 5, 6, 7, 10, 11, 12] rfl rfl) (EntD.rd.star 9 rfl [1, 2, 3, 4, 5, 6, 7, 10, 11, 12] rfl rfl hw)).mono ?_)
  rintro _ w1 ⟨idx'9_, now'10_, cnt'11_, kb'12_, kl'13_, kr'14_, idx315_, now316_, cnt317_, bv'18_, lv'19_, rv'20_, bs'21_, ls'22_, rs'23_, rfl, hf2_11, hf2_11_1, hf2_11_2, hO⟩
  have hs1 := hf2_11
  have hn1 := hf2_11_1
  have hn0 := hf2_10
  refine (?_ : CL _ _ _ _ _ _ (Own w [] [Res.row b4 47 (CmdD.cells c), Res.vec 57 5 r7_ es8_.length (es8_.flatMap EntD.cells), Res.star (es8_.map EntD.dres), Res.row b1_ 66 [.pointer (some ⟨tb2_, 0, none⟩), .pointer (some ⟨cb3_, 0, none⟩), Vn idx'9_], Res.row tb2_ 111 [.map (some bm4_), .map (some lm5_), Vi now'10_, Vn cnt'11_], Res.mp Value.string ekI bm4_ kb'12_, Res.mp ekU leaV lm5_ kl'13_, Res.row cb3_ 114 [.map (some rm6_)], Res.mp ekR repA rm6_ kr'14_, Res.row b16 37 [Vi now316_, Vn cnt317_, bv'18_, lv'19_, rv'20_, Vn idx315_], Res.vec 93 2 bv'18_ bs'21_.length (bs'21_.flatMap BudD.cells), Res.vec 76 5 lv'19_ ls'22_.length (ls'22_.flatMap LeaD.cells), Res.vec 43 6 rv'20_ rs'23_.length (rs'23_.flatMap RepD.cells)])) w1 (hw.frameL [1, 2, 3, 4, 5, 6, 7, 10, 11, 12] rfl hO)
  refine l_on rfl rfl (l_not (b := true) rfl rfl (l_pickF rfl rfl (l_end (c_no rfl (c_skipC (c_reg (l_mv rfl (a_ldr (cs := (CmdD.cells c)) 0 rfl rfl rfl (a_call rfl rfl (fun w' hw => (ldo_s b1_ tb2_ cb3_ bm4_ lm5_ rm6_ idx'9_ now'10_ cnt'11_ kb'12_ kl'13_ kr'14_ c w' hcw hs1.ht (by rw [hs1.c]; omega) (hs1.lent1 _) (hs1.kl0 (by omega)) (hw.give [3, 4, 5, 6, 7, 8] rfl (by decide))).mono ?_))))))))))
  rintro _ w1 ⟨r24_, did25_, cnt'26_, kb'27_, kl'28_, kr'29_, rfl, hf4_2, hO⟩
  refine (?_ : CL _ _ _ _ _ _ (Own w [] [Res.row b4 47 (CmdD.cells c), Res.vec 57 5 r7_ es8_.length (es8_.flatMap EntD.cells), Res.star (es8_.map EntD.dres), Res.row b16 37 [Vi now316_, Vn cnt317_, bv'18_, lv'19_, rv'20_, Vn idx315_], Res.vec 93 2 bv'18_ bs'21_.length (bs'21_.flatMap BudD.cells), Res.vec 76 5 lv'19_ ls'22_.length (ls'22_.flatMap LeaD.cells), Res.vec 43 6 rv'20_ rs'23_.length (rs'23_.flatMap RepD.cells), Res.row b1_ 66 [.pointer (some ⟨tb2_, 0, none⟩), .pointer (some ⟨cb3_, 0, none⟩), Vn idx'9_], Res.row tb2_ 111 [.map (some bm4_), .map (some lm5_), Vi now'10_, Vn cnt'26_], Res.mp Value.string ekI bm4_ kb'27_, Res.mp ekU leaV lm5_ kl'28_, Res.row cb3_ 114 [.map (some rm6_)], Res.mp ekR repA rm6_ kr'29_])) w1 (hw.frameL [3, 4, 5, 6, 7, 8] rfl hO)
  refine l_mv rfl (l_ext (vs := [.agg (RepD.cells r24_).toArray, .bool did25_]) rfl rfl rfl (l_ext (vs := [.agg (RepD.cells r24_).toArray, .bool did25_]) rfl rfl rfl (l_new (v := .agg #[Vn 0, Vn 0, Vi 0, Vn 0, Vi 0, Vi 0]) (by kernel_rfl) rfl (fun b9 => a_stN 13 rfl rfl rfl (allc rfl) rfl (l_as rfl (l_end (c_reg (l_mv rfl (a_ldr (cs := (CmdD.cells c)) 0 rfl rfl rfl (a_call rfl rfl (fun w' hw => (rdo_s b16 (37) ([]) now316_ cnt317_ bv'18_ lv'19_ rv'20_ bs'21_ ls'22_ rs'23_ idx315_ c w' hs1.h hcw (hw.give [3, 4, 5, 6] rfl (by decide))).mono ?_)))))))))))
  rintro _ w1 ⟨r30_, did31_, cnt'32_, bv'33_, lv'34_, rv'35_, bs'36_, ls'37_, rs'38_, rfl, hf5_2, hO⟩
  have hdo1 := hs1.do hcw (by omega) hf4_2 hf5_2
  have hn2 := hdo1.2.2.1
  refine (?_ : CL _ _ _ _ _ _ (Own w [] [Res.row b4 47 (CmdD.cells c), Res.vec 57 5 r7_ es8_.length (es8_.flatMap EntD.cells), Res.star (es8_.map EntD.dres), Res.row b1_ 66 [.pointer (some ⟨tb2_, 0, none⟩), .pointer (some ⟨cb3_, 0, none⟩), Vn idx'9_], Res.row tb2_ 111 [.map (some bm4_), .map (some lm5_), Vi now'10_, Vn cnt'26_], Res.mp Value.string ekI bm4_ kb'27_, Res.mp ekU leaV lm5_ kl'28_, Res.row cb3_ 114 [.map (some rm6_)], Res.mp ekR repA rm6_ kr'29_, Res.row b9 43 (RepD.cells r24_), Res.row b16 (37) [Vi now316_, Vn cnt'32_, bv'33_, lv'34_, rv'35_, Vn idx315_], Res.vec 93 2 bv'33_ bs'36_.length (bs'36_.flatMap BudD.cells), Res.vec 76 5 lv'34_ ls'37_.length (ls'37_.flatMap LeaD.cells), Res.vec 43 6 rv'35_ rs'38_.length (rs'38_.flatMap RepD.cells)])) w1 (hw.frameL [3, 4, 5, 6] rfl hO)
  refine l_end (c_seq (c_reg (l_mv rfl (l_not (b := did25_) rfl rfl (l_end (c_if rfl (fun c2 => ?_) (fun c2 => ?_)))))))
  ·
   refine c_reg (l_as rfl (l_end ?_))
   exact c_ret (ret1 (v := .bool true) rfl rfl (fun w' hw => ⟨rfl, hw.drop⟩))
  ·
   have hdid : did25_ = true := by revert c2; cases did25_ <;> simp
   have hok1 := did_ok hdid hf4_2
   refine c_skipC (c_seq (c_reg (l_as rfl (l_end (c_block ?_)))))
   refine c_loop16 (fun (i : Nat) (idx' : Nat) (now' : Int) (cnt' : Nat) (kb' : List (ByteArray × Int)) (kl' : List (Nat × LeaD)) (kr' : List (Nat × RepD)) (idx3 : Nat) (now3 : Int) (cnt3 : Nat) (bv' lv' rv' : Value) (bs' : List BudD) (ls' : List LeaD) (rs' : List RepD) => [(2, u), (4, .pointer (some ⟨b4, 0, none⟩)), (7, .pointer (some ⟨b1_, 0, none⟩)), (8, .pointer (some ⟨b16, 0, none⟩)), (9, .pointer (some ⟨b9, 0, none⟩)), (11, Vj i)]) (fun (i : Nat) (idx' : Nat) (now' : Int) (cnt' : Nat) (kb' : List (ByteArray × Int)) (kl' : List (Nat × LeaD)) (kr' : List (Nat × RepD)) (idx3 : Nat) (now3 : Int) (cnt3 : Nat) (bv' lv' rv' : Value) (bs' : List BudD) (ls' : List LeaD) (rs' : List RepD) => (i ≤ m.length ∧ i ≤ 50 ∧ cnt3 ≤ 201 + i) ∧ LSt idx' now' cnt' kb' kl' kr' idx3 now3 cnt3 bs' ls' rs' ∧ getA c.session kr' = some r24_) (fun (i : Nat) (idx' : Nat) (now' : Int) (cnt' : Nat) (kb' : List (ByteArray × Int)) (kl' : List (Nat × LeaD)) (kr' : List (Nat × RepD)) (idx3 : Nat) (now3 : Int) (cnt3 : Nat) (bv' lv' rv' : Value) (bs' : List BudD) (ls' : List LeaD) (rs' : List RepD) => [Res.row b4 47 (CmdD.cells c), Res.row b9 43 (RepD.cells r24_), Res.row b1_ 66 [.pointer (some ⟨tb2_, 0, none⟩), .pointer (some ⟨cb3_, 0, none⟩), Vn idx'], Res.row tb2_ 111 [.map (some bm4_), .map (some lm5_), Vi now', Vn cnt'], Res.mp Value.string ekI bm4_ kb', Res.mp ekU leaV lm5_ kl', Res.row cb3_ 114 [.map (some rm6_)], Res.mp ekR repA rm6_ kr', Res.row b16 37 [Vi now3, Vn cnt3, bv', lv', rv', Vn idx3], Res.vec 93 2 bv' bs'.length (bs'.flatMap BudD.cells), Res.vec 76 5 lv' ls'.length (ls'.flatMap LeaD.cells), Res.vec 43 6 rv' rs'.length (rs'.flatMap RepD.cells)]) (fun (i : Nat) (idx' : Nat) (now' : Int) (cnt' : Nat) (kb' : List (ByteArray × Int)) (kl' : List (Nat × LeaD)) (kr' : List (Nat × RepD)) (idx3 : Nat) (now3 : Int) (cnt3 : Nat) (bv' lv' rv' : Value) (bs' : List BudD) (ls' : List LeaD) (rs' : List RepD) => m.length - i) (fun w' hw => ⟨0, idx'9_, now'10_, cnt'26_, kb'27_, kl'28_, kr'29_, idx315_, now316_, cnt'32_, bv'33_, lv'34_, rv'35_, bs'36_, ls'37_, rs'38_, ⟨rfl, rfl, rfl, rfl, rfl, rfl, trivial⟩, ⟨⟨by omega, by omega, by omega⟩, hdo1.2.1, by rw [hok1.2.2.2]; exact get_put_self hs1.krn⟩, hw.sel [0, 9, 3, 4, 5, 6, 7, 8, 10, 11, 12, 13] rfl (by decide)⟩) (fun i idx' now' cnt' kb' kl' kr' idx3 now3 cnt3 bv' lv' rv' bs' ls' rs' g hΦ => ?_)
   have hi1 := hΦ.1
   have hs2 := hΦ.2.1
   have hg2 := hΦ.2.2
   refine c_seq (c_reg (l_mv rfl (l_mv rfl (a_lenP (pR hu) rfl rfl (l_lss rfl rfl rfl (l_mv rfl (l_band (q := ((i : Nat) : Int) < ((m.length : Nat) : Int)) 2 4 [48, 47] (((i : Nat) : Int) < 50) rfl rfl rfl rfl rfl rfl trivial rfl (fun h9_4 => ?_) (fun g9_7 => ?_))))))))
   ·
    refine l_on rfl (gT h9_4) (l_mv rfl (l_on rfl (gT h9_4) (l_lss rfl rfl rfl ?_)))
    exact l_gp rfl (fun _ hw => hw)
   refine l_end (c_dec rfl (fun c3 => ?_) (fun c3 => ?_))
   ·
    refine c_skipC (c_seq (c_block (c_quiets (by kernel_rfl) (by kernel_rfl) (q_val rfl (v_mv) (q_val rfl (v_mv) (q_val rfl (w_idxP (pR hu) 7 i rfl rfl rfl (by omega)) (q_val rfl (w_fld (o := 0) rfl) (q_val rfl (w_ldP (pR hu) 7 i 0 (off := offV u + i * 7 + 0) (fun _ => rfl) rfl (by omega) (by omega) rfl) (q_val rfl (w_fld (o := 0) rfl) (q_val rfl (w_ldo 0 (v := Vn c.session) rfl rfl rfl) (q_val rfl (v_ne rfl rfl) (q_end ?_))))))))))))
    refine c_dec rfl (fun c4 => ?_) (fun c4 => ?_)
    ·
     refine c_reg (l_mv rfl (l_mv rfl (l_mv rfl (a_idxP (pR hu) 7 i rfl rfl rfl (by omega) rfl (a_ldAP (pR hu) 7 i (off := offV u + i * 7) (fun _ => rfl) rfl rfl (by omega) rfl (a_call rfl rfl (fun w' hw => (ldo_s b1_ tb2_ cb3_ bm4_ lm5_ rm6_ idx' now' cnt' kb' kl' kr' (nth m i) w' (hc _ (nth_mem (by omega))) hs2.ht (by rw [hs2.c]; omega) (hs2.lent1 _) (hs2.kl0 (by omega)) (hw.give [2, 3, 4, 5, 6, 7] rfl (by decide))).mono ?_)))))))
     rintro _ w1 ⟨r39_, did40_, cnt'41_, kb'42_, kl'43_, kr'44_, rfl, hf12_5, hO⟩
     refine (?_ : CL _ _ _ _ _ _ (Own w [] [Res.row b4 47 (CmdD.cells c), Res.row b9 43 (RepD.cells r24_), Res.row b16 37 [Vi now3, Vn cnt3, bv', lv', rv', Vn idx3], Res.vec 93 2 bv' bs'.length (bs'.flatMap BudD.cells), Res.vec 76 5 lv' ls'.length (ls'.flatMap LeaD.cells), Res.vec 43 6 rv' rs'.length (rs'.flatMap RepD.cells), Res.row b1_ 66 [.pointer (some ⟨tb2_, 0, none⟩), .pointer (some ⟨cb3_, 0, none⟩), Vn idx'], Res.row tb2_ 111 [.map (some bm4_), .map (some lm5_), Vi now', Vn cnt'41_], Res.mp Value.string ekI bm4_ kb'42_, Res.mp ekU leaV lm5_ kl'43_, Res.row cb3_ 114 [.map (some rm6_)], Res.mp ekR repA rm6_ kr'44_])) w1 (hw.frameL [2, 3, 4, 5, 6, 7] rfl hO)
     refine l_end (c_last (l_mv rfl (l_mv rfl (l_mv rfl (a_idxP (pR hu) 7 i rfl rfl rfl (by omega) rfl (a_ldAP (pR hu) 7 i (off := offV u + i * 7) (fun _ => rfl) rfl rfl (by omega) rfl (a_call rfl rfl (fun w' hw => (rdo_s b16 (37) ([]) now3 cnt3 bv' lv' rv' bs' ls' rs' idx3 (nth m i) w' hs2.h (hc _ (nth_mem (by omega))) (hw.give [2, 3, 4, 5] rfl (by decide))).mono ?_))))))))
     rintro _ w1 ⟨r45_, did46_, cnt'47_, bv'48_, lv'49_, rv'50_, bs'51_, ls'52_, rs'53_, rfl, hf13_5, hO⟩
     have hdo := hs2.do (hc _ (nth_mem (by omega))) (by omega) hf12_5 hf13_5
     have hn3 := hdo.2.2.1
     refine (?_ : CL _ _ _ _ _ _ (Own w [] [Res.row b4 47 (CmdD.cells c), Res.row b9 43 (RepD.cells r24_), Res.row b1_ 66 [.pointer (some ⟨tb2_, 0, none⟩), .pointer (some ⟨cb3_, 0, none⟩), Vn idx'], Res.row tb2_ 111 [.map (some bm4_), .map (some lm5_), Vi now', Vn cnt'41_], Res.mp Value.string ekI bm4_ kb'42_, Res.mp ekU leaV lm5_ kl'43_, Res.row cb3_ 114 [.map (some rm6_)], Res.mp ekR repA rm6_ kr'44_, Res.row b16 (37) [Vi now3, Vn cnt'47_, bv'48_, lv'49_, rv'50_, Vn idx3], Res.vec 93 2 bv'48_ bs'51_.length (bs'51_.flatMap BudD.cells), Res.vec 76 5 lv'49_ ls'52_.length (ls'52_.flatMap LeaD.cells), Res.vec 43 6 rv'50_ rs'53_.length (rs'53_.flatMap RepD.cells)])) w1 (hw.frameL [2, 3, 4, 5] rfl hO)
     refine l_end (c_last (l_mv rfl (l_add rfl rfl (wi64 (by omega)) rfl (l_as rfl ?_))))
     exact l_nil (fun w' hw => ⟨i + 1, idx', now', cnt'41_, kb'42_, kl'43_, kr'44_, idx3, now3, cnt'47_, bv'48_, lv'49_, rv'50_, bs'51_, ls'52_, rs'53_, ⟨rfl, rfl, rfl, rfl, rfl, rfl, trivial⟩, ⟨by omega, hdo.2.1, keep_ok hs2.krn (fun q => c4 (by rw [q])) hg2 hf12_5⟩, hw, (by omega)⟩)
    ·
     refine c_skipC (c_last (l_mv rfl (l_add rfl rfl (wi64 (by omega)) rfl (l_as rfl ?_))))
     exact l_nil (fun w' hw => ⟨i + 1, idx', now', cnt', kb', kl', kr', idx3, now3, cnt3, bv', lv', rv', bs', ls', rs', ⟨rfl, rfl, rfl, rfl, rfl, rfl, trivial⟩, ⟨by omega, hs2, hg2⟩, hw, (by omega)⟩)
   ·
    refine c_exitC rfl (c_reg (l_mv rfl (a_ldr (cs := (CmdD.cells c)) 0 rfl rfl rfl (a_call rfl rfl (fun w' hw => (ldo_s b1_ tb2_ cb3_ bm4_ lm5_ rm6_ idx' now' cnt' kb' kl' kr' c w' hcw hs2.ht (by rw [hs2.c]; omega) (hs2.lent1 _) (hs2.kl0 (by omega)) (hw.give [2, 3, 4, 5, 6, 7] rfl (by decide))).mono ?_)))))
    rintro _ w1 ⟨r54_, did55_, cnt'56_, kb'57_, kl'58_, kr'59_, rfl, hf14_2, hO⟩
    have hag := again_ok hok1.1 hg2 hok1.2.2.1 hf14_2
    have hs4 := hs2.eqs hag.2
    refine (?_ : CL _ _ _ _ _ _ (Own w [] [Res.row b4 47 (CmdD.cells c), Res.row b9 43 (RepD.cells r24_), Res.row b16 37 [Vi now3, Vn cnt3, bv', lv', rv', Vn idx3], Res.vec 93 2 bv' bs'.length (bs'.flatMap BudD.cells), Res.vec 76 5 lv' ls'.length (ls'.flatMap LeaD.cells), Res.vec 43 6 rv' rs'.length (rs'.flatMap RepD.cells), Res.row b1_ 66 [.pointer (some ⟨tb2_, 0, none⟩), .pointer (some ⟨cb3_, 0, none⟩), Vn idx'], Res.row tb2_ 111 [.map (some bm4_), .map (some lm5_), Vi now', Vn cnt'56_], Res.mp Value.string ekI bm4_ kb'57_, Res.mp ekU leaV lm5_ kl'58_, Res.row cb3_ 114 [.map (some rm6_)], Res.mp ekR repA rm6_ kr'59_])) w1 (hw.frameL [2, 3, 4, 5, 6, 7] rfl hO)
    refine l_mv rfl (l_ext (vs := [.agg (RepD.cells r54_).toArray, .bool did55_]) rfl rfl rfl (l_ext (vs := [.agg (RepD.cells r54_).toArray, .bool did55_]) rfl rfl rfl (l_new (v := .agg #[Vn 0, Vn 0, Vi 0, Vn 0, Vi 0, Vi 0]) (by kernel_rfl) rfl (fun b12 => a_stN 12 rfl rfl rfl (allc rfl) rfl (l_as rfl (l_end (c_reg (a_ldr (cs := (RepD.cells r54_)) 12 rfl rfl rfl (a_ldr (cs := (RepD.cells r24_)) 1 rfl rfl rfl (l_val rfl (v_stp (RepDEq r54_ r24_) (by kernel_rfl) (by kernel_rfl) rfl rfl rfl rfl) (l_mv rfl (l_band (q := r54_ = r24_) 2 3 [83, 82] ((!did55_) = true) rfl rfl rfl rfl rfl rfl trivial rfl (fun h15_3 => ?_) (fun g15_6 => ?_)))))))))))))
    ·
     refine l_on rfl (gT h15_3) (l_mv rfl (l_on rfl (gT h15_3) (l_not (b := did55_) rfl rfl ?_)))
     exact l_gp (bool_dec _) (fun _ hw => hw)
    refine l_mv rfl (l_band (q := (r54_ = r24_) ∧ ((!did55_) = true)) 3 7 [88, 87, 86] (true = true) rfl rfl rfl rfl rfl rfl trivial rfl (fun h15_7 => ?_) (fun g15_11 => ?_))
    ·
     refine l_on rfl (gT h15_7) (l_mv rfl (l_on rfl (gT h15_7) (l_mv rfl (l_on rfl (gT h15_7) (a_call rfl rfl (fun w' hw => (lalike_s b1_ tb2_ cb3_ bm4_ lm5_ idx' now' cnt'56_ kb'57_ kl'58_ _ b16 idx3 now3 cnt3 bv' lv' rv' bs' ls' rs' w' hs4 (hw.give [6, 7, 8, 9, 2, 3, 4, 5] rfl (by decide))).mono ?_))))))
     rintro _ w1 ⟨rfl, hO⟩
     refine (?_ : CL _ _ _ _ _ _ (Own w [] [Res.row b4 47 (CmdD.cells c), Res.row b9 43 (RepD.cells r24_), Res.row cb3_ 114 [.map (some rm6_)], Res.mp ekR repA rm6_ kr'59_, Res.row b12 43 (RepD.cells r54_), Res.row b1_ 66 [.pointer (some ⟨tb2_, 0, none⟩), .pointer (some ⟨cb3_, 0, none⟩), Vn idx'], Res.row tb2_ 111 [.map (some bm4_), .map (some lm5_), Vi now', Vn cnt'56_], Res.mp Value.string ekI bm4_ kb'57_, Res.mp ekU leaV lm5_ kl'58_, Res.row b16 37 [Vi now3, Vn cnt3, bv', lv', rv', Vn idx3], Res.vec 93 2 bv' bs'.length (bs'.flatMap BudD.cells), Res.vec 76 5 lv' ls'.length (ls'.flatMap LeaD.cells), Res.vec 43 6 rv' rs'.length (rs'.flatMap RepD.cells)])) w1 (hw.frameL [6, 7, 8, 9, 2, 3, 4, 5] rfl hO)
     exact l_gp (bool_dec _) (fun _ hw => hw.sel [0, 1, 9, 10, 11, 12, 5, 6, 7, 8, 2, 3, 4] rfl (by decide))
    refine l_as rfl (l_end ?_)
    exact c_ret (ret1 (v := .bool (decide (((r54_ = r24_) ∧ ((!did55_) = true)) ∧ (true = true)))) rfl rfl (fun w' hw => ⟨(by congr 1; exact decide_eq_true ⟨⟨hag.1.1, by rw [hag.1.2]; rfl⟩, rfl⟩), hw.drop⟩))
end Go.Proofs.YthincafbmpialaaGreat
