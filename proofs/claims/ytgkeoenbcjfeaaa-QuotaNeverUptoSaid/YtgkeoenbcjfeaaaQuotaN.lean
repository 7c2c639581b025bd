/-
  THE LAW QuotaNever.
-/
import Derived.Test.YtgkeoenbcjfeaaaQuotaL
set_option linter.unusedVariables false
set_option maxRecDepth 10000
namespace Go.Proofs.Ytgkeoenbcjfeaaa
open Go Go.Sc Go.Proofs

def OfIs (ls : List LeaD) (i j : Nat) (o : ByteArray) : Prop := ∀ l ∈ ls.take j, l.id = i → o = l.key
/-- What a step leaves behind. -/
structure Step (cnt : Nat) (key : ByteArray) (kind : Int) (ls : List LeaD) (now' : Int) (cnt' : Nat) (kb' : List (ByteArray × Int)) (kl' : List (Nat × LeaD)) (bs' : List BudD) (ls' : List LeaD) (e : Int) (o : ByteArray) : Prop where
  ok : QOk now' cnt' bs' ls'
  rel : QRel kb' kl' bs' ls'
  cnt : cnt' ≤ cnt + 1
  fit : e = 0 ∧ o = key → lentS key ls' ≤ budOf key bs'
  keep : ¬ (e = 0 ∧ o = key) → lentS key ls' ≤ lentS key ls
  less : kind ≠ 3 → lentS key ls' ≤ lentS key ls
theorem OfIs.yes {ls : List LeaD} {i j : Nat} {o : ByteArray} (h : OfIs ls i j o) {now : Int} {cnt : Nat} {bs : List BudD} (hj : j < ls.length) (ho : QOk now cnt bs ls) (hi : (nth ls j).id = i) : OfIs ls i (j + 1) (nth ls j).key := fun l hl hli => by
  rw [ho.uniq (List.mem_of_mem_take hl) (nth_mem hj) (by omega)]
theorem OfIs.no {ls : List LeaD} {i j : Nat} {o : ByteArray} (h : OfIs ls i j o) (hj : j < ls.length) (hi : ¬ (nth ls j).id = i) : OfIs ls i (j + 1) o := fun l hl hli => by
  rw [take_nth hj] at hl
  rcases List.mem_append.1 hl with q | q
  · exact h l q hli
  · rw [List.mem_singleton.1 q] at hli; exact absurd hli hi
theorem OfIs.all {ls : List LeaD} {i j : Nat} {o : ByteArray} (h : OfIs ls i j o) (hj : ls.length ≤ j) : ∀ l ∈ ls, l.id = i → o = l.key := fun l hl => h l (by rw [List.take_of_length_le hj]; exact hl)
section
variable {now : Int} {cnt : Nat} {bs : List BudD} {ls : List LeaD} {kb : List (ByteArray × Int)} {kl : List (Nat × LeaD)}
theorem step_lend {key k : ByteArray} {kind : Int} {s : Nat} {a sp e e' : Int} {x x' : LeaD} {c c' : Nat} {kl' : List (Nat × LeaD)} {ls' : List LeaD} (ho : QOk now cnt bs ls) (hr : QRel kb kl bs ls) (h3 : kind = 3)
    (h1 : e = lendEK s k a sp kb kl) (hx : x = lendX e cnt s k a (now + sp)) (hc : c = lendC e cnt) (hkl : kl' = lendK e x kl) (h1' : e' = lendE s k a sp bs ls) (hx' : x' = lendX e' cnt s k a (now + sp)) (hc' : c' = lendC e' cnt) (hls : ls' = lendL e' x' ls) :
    c = c' ∧ Step cnt key kind ls now c' kb kl' bs ls' e k := by
  have he : e = e' := h1.trans ((lendE_eq ho hr _ _ _ _).trans h1'.symm)
  subst he
  have hxx : x = x' := hx.trans hx'.symm
  subst hxx
  refine ⟨hc.trans hc'.symm, ⟨?_, ?_, ?_, ?_, ?_, fun q => absurd h3 q⟩⟩
  · rw [hc', hls, hx]; exact ho.lend h1'
  · rw [hkl, hls]; exact QRel.lend ho hr fun h0 => by rw [hx]; unfold lendX; rw [if_pos h0]
  · rw [hc']; unfold lendC; split <;> omega
  · rintro ⟨h0, rfl⟩
    rw [hls, hx]; exact lendL_lent h1' ho h0
  · intro q
    by_cases h0 : e = 0
    · have hk : k ≠ key := fun h => q ⟨h0, h⟩
      rw [hls, hx, lendL_other hk]; exact Int.le_refl _
    · rw [hls]; unfold lendL; rw [if_neg h0]; exact Int.le_refl _
theorem step_renew {key o : ByteArray} {kind : Int} {s i : Nat} {sp e e' : Int} {x x' : LeaD} {kl' : List (Nat × LeaD)} {ls' : List LeaD} (ho : QOk now cnt bs ls) (hr : QRel kb kl bs ls) (h1 : RenewK now kb kl s i sp x e kl') (h2 : RenewR now bs ls s i sp x' e' ls') (hof : ∀ l ∈ ls, l.id = i → o = l.key) :
    Step cnt key kind ls now cnt kb kl' bs ls' e o := by
  obtain ⟨_, he, hr', ho'⟩ := renew_rel ho hr h1 h2
  have hl := renew_lent ho h2
  refine ⟨ho', hr', by omega, ?_, fun _ => Int.le_of_eq (hl key), fun _ => Int.le_of_eq (hl key)⟩
  rintro ⟨h0, rfl⟩
  rw [he] at h0; subst h0
  obtain ⟨l, hm, hi, hb⟩ := renew_fits ho h2
  rw [hof l hm hi, hl]; exact hb
end
structure Nev (i : Nat) (key : ByteArray) (now : Int) (cnt : Nat) (kb : List (ByteArray × Int)) (kl : List (Nat × LeaD)) (bs : List BudD) (ls : List LeaD) (most : Int) : Prop where
  ok : QOk now cnt bs ls
  rel : QRel kb kl bs ls
  cnt : cnt ≤ i
  most : lentS key ls ≤ most
theorem quotaNever_s (key : ByteArray) (v : Value) (acts : List QActD) (w : World) (hl : acts.length ≤ 100000000) (hwf : ∀ a ∈ acts, a.wf) (hv : Rd w [] (Res.sl v acts.length (acts.flatMap QActD.cells))) : Rets Try.prog 3 #[.string key, v] w fun u_ w' => u_ = .bool true ∧ Own w [] [] w' := by
  refine fn_enter (args := [.string key, v]) Try.func3 rfl Try.ntmps3 rfl (Own.start w) ?_
  refine c_reg ?_
  refine l_as rfl ?_
  refine l_end ?_
  refine c_reg ?_
  refine l_call (by kernel_rfl) rfl rfl (fun w' hw => ?_)
  refine (new_s w').mono ?_
  rintro _ w1 ⟨b1_, bm2_, lm3_, rfl, hO⟩
  refine (?_ : CL _ _ _ _ _ _ (Own w [] [Res.row b1_ 64 [.map (some bm2_), .map (some lm3_), .int .i64 0, .int .u64 (0 : Nat)], Res.mp Value.string ekI bm2_ ([] : List (ByteArray × Int)), Res.mp ekU leaV lm3_ ([] : List (Nat × LeaD))])) w1 (hw.frame0 hO)
  refine l_bld (cs := [.int .i64 0, .int .u64 (0 : Nat), .slice none 0 0, .slice none 0 0]) (z := [.int .i64 0, .int .u64 (0 : Nat), .slice none 0 0, .slice none 0 0]) (pl := [(0, 1), (1, 1), (2, 1), (3, 1)]) (by kernel_rfl) (by kernel_rfl) rfl ?_
  refine l_box rfl rfl (fun b19 => ?_)
  refine l_as rfl ?_
  refine l_as rfl ?_
  refine l_end ?_
  refine c_seq ?_
  refine c_reg ?_
  refine l_call (by kernel_rfl) rfl rfl (fun w' hw => ?_)
  refine (answers_s w').mono ?_
  rintro _ w1 ⟨rfl, hO⟩
  refine (?_ : CL _ _ _ _ _ _ (Own w [] [Res.row b1_ 64 [.map (some bm2_), .map (some lm3_), .int .i64 0, .int .u64 (0 : Nat)], Res.mp Value.string ekI bm2_ ([] : List (ByteArray × Int)), Res.mp ekU leaV lm3_ ([] : List (Nat × LeaD)), Res.row b19 30 [.int .i64 0, .int .u64 (0 : Nat), .slice none 0 0, .slice none 0 0]])) w1 (hw.frame0 hO)
  refine l_not (b := true) rfl rfl ?_
  refine l_mv rfl ?_
  refine l_on rfl rfl ?_
  refine l_mv rfl ?_
  refine l_on rfl rfl ?_
  refine l_nilp (by kernel_rfl) rfl rfl rfl ?_
  refine l_pickF rfl rfl ?_
  refine l_end ?_
  refine c_no rfl ?_
  refine c_skipC ?_
  refine c_reg ?_
  refine l_as rfl ?_
  refine l_end ?_
  refine c_seq ?_
  refine c_reg ?_
  refine l_as rfl ?_
  refine l_end ?_
  refine c_block ?_
  refine c_loop10 (fun (i : Nat) (most : Int) (now : Int) (cnt : Nat) (kb : List (ByteArray × Int)) (kl : List (Nat × LeaD)) (bv lv : Value) (bs : List BudD) (ls : List LeaD) => [(0, .string key), (1, v), (5, .pointer (some ⟨b1_, 0, none⟩)), (6, .pointer (some ⟨b19, 0, none⟩)), (7, .int .i64 most), (8, .int .i64 (i : Nat))]) (fun (i : Nat) (most : Int) (now : Int) (cnt : Nat) (kb : List (ByteArray × Int)) (kl : List (Nat × LeaD)) (bv lv : Value) (bs : List BudD) (ls : List LeaD) => (i ≤ acts.length ∧ i ≤ 300) ∧ Nev i key now cnt kb kl bs ls most) (fun (i : Nat) (most : Int) (now : Int) (cnt : Nat) (kb : List (ByteArray × Int)) (kl : List (Nat × LeaD)) (bv lv : Value) (bs : List BudD) (ls : List LeaD) => [Res.row b1_ 64 [.map (some bm2_), .map (some lm3_), .int .i64 now, .int .u64 (cnt : Nat)], Res.mp Value.string ekI bm2_ kb, Res.mp ekU leaV lm3_ kl, Res.row b19 30 [.int .i64 now, .int .u64 (cnt : Nat), bv, lv], Res.vec 68 2 bv bs.length (bs.flatMap BudD.cells), Res.vec 37 5 lv ls.length (ls.flatMap LeaD.cells)]) (fun (i : Nat) (most : Int) (now : Int) (cnt : Nat) (kb : List (ByteArray × Int)) (kl : List (Nat × LeaD)) (bv lv : Value) (bs : List BudD) (ls : List LeaD) => acts.length - i) (fun w' hw => ⟨0, 0, 0, 0, [], [], .slice none 0 0, .slice none 0 0, [], [], ⟨rfl, rfl, rfl, rfl, rfl, rfl, trivial⟩, ⟨by omega, ⟨QOk.start, QRel.start, Nat.le_refl _, Int.le_refl _⟩⟩, (own_nil (own_nil hw 68 2) 37 5)⟩) (fun i most now cnt kb kl bv lv bs ls g hΦ => ?_)
  have hi := hΦ.1
  have ho := hΦ.2.ok
  have hr := hΦ.2.rel
  have hcn := hΦ.2.cnt
  have hmost := hΦ.2.most
  refine c_seq ?_
  refine c_reg ?_
  refine l_mv rfl ?_
  refine l_mv rfl ?_
  refine l_lenS (len := acts.length) (cs := (acts.flatMap QActD.cells)) (by kernel_rfl) rfl (fun w' hw' => Own.rd hv hw') rfl ?_
  refine l_lss rfl rfl rfl ?_
  refine l_mv rfl ?_
  refine l_band (q := ((i : Nat) : Int) < ((acts.length : Nat) : Int)) 2 4 [32, 31] (((i : Nat) : Int) < 300) rfl rfl rfl rfl rfl rfl trivial rfl (fun h6_4 => ?_) (fun g6_7 => ?_)
  ·
    refine l_on rfl (gT h6_4) ?_
    refine l_mv rfl ?_
    refine l_on rfl (gT h6_4) ?_
    refine l_lss rfl rfl rfl ?_
    exact l_nil (fun w' hw => ⟨(by repeat (first | exact Out.refl _ _ | refine Out.upd rfl ?_ | refine Out.msk rfl ?_)), rfl, hw⟩)
  refine l_end ?_
  refine c_dec rfl (fun c2 => ?_) (fun c2 => ?_)
  ·
    refine c_skipC ?_
    refine c_seq ?_
    refine c_block ?_
    refine c_reg ?_
    refine l_mv rfl ?_
    refine l_mv rfl ?_
    refine l_idxS (j := i) (sz := 6) (len := acts.length) (cs := (acts.flatMap QActD.cells)) rfl rfl (by kernel_rfl) (fun w' hw' => Own.rd hv hw') rfl (by omega) rfl ?_
    refine l_ldSN (v := v) (off := offV v + i * 6) (i * 6 + 0) (cs := (acts.flatMap QActD.cells)) (QActD.cells (nth acts i)) rfl (by omega) (fun w' hw' => Own.rd hv hw') (flat_atN (sz := 6) (fun _ => rfl) (nth_some (by omega)) (o := 0) (us := (QActD.cells (nth acts i))) (fun k u h => by rw [Nat.zero_add]; exact h)) (by kernel_rfl) rfl ?_
    refine l_new (v := .agg #[.int .i64 0, .string (⟨#[]⟩ : ByteArray), .int .i64 0, .int .i64 0, .int .u64 (0 : Nat), .int .u64 (0 : Nat)]) (by kernel_rfl) rfl (fun b9 => ?_)
    refine l_stN (cs := [.int .i64 0, .string (⟨#[]⟩ : ByteArray), .int .i64 0, .int .i64 0, .int .u64 (0 : Nat), .int .u64 (0 : Nat)]) (vs := [.int .i64 ((nth acts i).kind), .string ((nth acts i).key), .int .i64 ((nth acts i).n), .int .i64 ((nth acts i).span), .int .u64 ((nth acts i).session : Nat), .int .u64 ((nth acts i).id : Nat)]) 6 rfl rfl rfl (by kernel_rfl) (allc_cons rfl (allc_cons rfl (allc_cons rfl (allc_cons rfl (allc_cons rfl (allc_cons rfl allc_nil)))))) (Nat.le_of_ble_eq_true rfl) ?_
    refine l_end ?_
    refine c_reg ?_
    refine l_mv rfl ?_
    refine l_mv rfl ?_
    refine l_call (by kernel_rfl) rfl rfl (fun w' hw => ?_)
    refine (rlent_s b19 now cnt bv lv bs ls key w' (by first | assumption | omega | (simp <;> omega) | (constructor <;> (first | omega | (simp only [LenOk]; omega) | (simp <;> omega)))) (hw.give [3, 4, 5] rfl (by decide))).mono ?_
    rintro _ w1 ⟨rfl, hO⟩
    refine (?_ : CL _ _ _ _ _ _ (Own w [] [Res.row b1_ 64 [.map (some bm2_), .map (some lm3_), .int .i64 now, .int .u64 (cnt : Nat)], Res.mp Value.string ekI bm2_ kb, Res.mp ekU leaV lm3_ kl, Res.row b9 33 (QActD.cells (nth acts i)), Res.row b19 30 [.int .i64 now, .int .u64 (cnt : Nat), bv, lv], Res.vec 68 2 bv bs.length (bs.flatMap BudD.cells), Res.vec 37 5 lv ls.length (ls.flatMap LeaD.cells)])) w1 (hw.frameL [3, 4, 5] rfl hO)
    refine l_mv rfl ?_
    refine l_ext (vs := [.int .i64 (budOf key bs), .int .i64 (lentW key ls)]) rfl rfl rfl ?_
    refine l_ext (vs := [.int .i64 (budOf key bs), .int .i64 (lentW key ls)]) rfl rfl rfl ?_
    refine l_as rfl ?_
    refine l_as rfl ?_
    refine l_end ?_
    refine c_reg ?_
    refine l_as rfl ?_
    refine l_end ?_
    refine c_seq ?_
    refine c_reg ?_
    refine l_as rfl ?_
    refine l_end ?_
    refine c_block ?_
    refine c_loop2 (fun (j : Nat) (o : ByteArray) => [(0, .string key), (1, v), (5, .pointer (some ⟨b1_, 0, none⟩)), (6, .pointer (some ⟨b19, 0, none⟩)), (7, .int .i64 most), (8, .int .i64 (i : Nat)), (9, .pointer (some ⟨b9, 0, none⟩)), (11, .int .i64 (lentW key ls)), (12, .string o), (13, .int .i64 (j : Nat))]) (fun (j : Nat) (o : ByteArray) => j ≤ ls.length ∧ OfIs ls (nth acts i).id j o) (fun (j : Nat) (o : ByteArray) => [Res.row b1_ 64 [.map (some bm2_), .map (some lm3_), .int .i64 now, .int .u64 (cnt : Nat)], Res.mp Value.string ekI bm2_ kb, Res.mp ekU leaV lm3_ kl, Res.row b9 33 (QActD.cells (nth acts i)), Res.row b19 30 [.int .i64 now, .int .u64 (cnt : Nat), bv, lv], Res.vec 68 2 bv bs.length (bs.flatMap BudD.cells), Res.vec 37 5 lv ls.length (ls.flatMap LeaD.cells)]) (fun (j : Nat) (o : ByteArray) => ls.length - j) (fun w' hw => ⟨0, ⟨#[]⟩, ⟨rfl, rfl, rfl, rfl, rfl, rfl, rfl, rfl, rfl, rfl, trivial⟩, ⟨Nat.zero_le _, by simp [OfIs]⟩, hw⟩) (fun j o g hΦ => ?_)
    have hj := hΦ.1
    have hof := hΦ.2
    have hll := ho.llen
    refine c_seq ?_
    refine c_reg ?_
    refine l_mv rfl ?_
    refine l_mv rfl ?_
    refine l_nck rfl rfl ?_
    refine l_fld (o := 3) rfl (by kernel_rfl) rfl ?_
    refine l_ldo 4 (v := lv) rfl rfl rfl (by kernel_rfl) rfl ?_
    refine l_lenS (len := ls.length) (cs := (ls.flatMap LeaD.cells)) (by kernel_rfl) rfl (fun w' hw' => Vec.sl (Own.holds hw' 6 _ rfl)) rfl ?_
    refine l_lss rfl rfl rfl ?_
    refine l_end ?_
    refine c_dec rfl (fun c3 => ?_) (fun c3 => ?_)
    ·
      refine c_skipC ?_
      refine c_seq ?_
      refine c_block ?_
      refine c_quiets (by kernel_rfl) (by kernel_rfl) ?_
      refine q_val rfl (v_mv) ?_
      refine q_val rfl (v_nck rfl) ?_
      refine q_val rfl (v_fld (o := 3) rfl (by kernel_rfl)) ?_
      refine q_val rfl (v_ldo 4 (v := lv) rfl rfl rfl (by kernel_rfl)) ?_
      refine q_val rfl (v_mv) ?_
      refine q_val rfl (v_idxS (j := j) (sz := 5) (len := ls.length) (cs := (ls.flatMap LeaD.cells)) rfl rfl (by kernel_rfl) (fun w' hw' => Vec.sl (Own.holds hw' 6 _ rfl)) rfl (by omega)) ?_
      refine q_val rfl (v_fld (o := 0) rfl (by kernel_rfl)) ?_
      refine q_val rfl (v_ldS (v := lv) (off := offV lv + j * 5 + 0) (j * 5 + 0) (cs := (ls.flatMap LeaD.cells)) rfl (by omega) (fun w' hw' => Vec.sl (Own.holds hw' 6 _ rfl)) (flat_at (sz := 5) (fun _ => rfl) (nth_some (by omega)) (i := 0) rfl) (by kernel_rfl)) ?_
      refine q_val rfl (v_fld (o := 5) rfl (by kernel_rfl)) ?_
      refine q_val rfl (v_ldo 3 (v := .int .u64 ((nth acts i).id : Nat)) rfl rfl rfl (by kernel_rfl)) ?_
      refine q_val rfl (v_eq rfl rfl) ?_
      refine q_end ?_
      refine c_dec rfl (fun c4 => ?_) (fun c4 => ?_)
      ·
        refine c_last ?_
        refine l_mv rfl ?_
        refine l_nck rfl rfl ?_
        refine l_fld (o := 3) rfl (by kernel_rfl) rfl ?_
        refine l_ldo 4 (v := lv) rfl rfl rfl (by kernel_rfl) rfl ?_
        refine l_mv rfl ?_
        refine l_idxS (j := j) (sz := 5) (len := ls.length) (cs := (ls.flatMap LeaD.cells)) rfl rfl (by kernel_rfl) (fun w' hw' => Vec.sl (Own.holds hw' 6 _ rfl)) rfl (by omega) rfl ?_
        refine l_fld (o := 2) rfl (by kernel_rfl) rfl ?_
        refine l_ldS (v := lv) (off := offV lv + j * 5 + 2) (j * 5 + 2) (cs := (ls.flatMap LeaD.cells)) rfl (by omega) (fun w' hw' => Vec.sl (Own.holds hw' 6 _ rfl)) (flat_at (sz := 5) (fun _ => rfl) (nth_some (by omega)) (i := 2) rfl) (by kernel_rfl) rfl ?_
        refine l_as rfl ?_
        refine l_end ?_
        refine c_last ?_
        refine l_mv rfl ?_
        refine l_add rfl rfl (wi64 (by omega)) rfl ?_
        refine l_as rfl ?_
        exact l_nil (fun w' hw => ⟨j + 1, (nth ls j).key, ⟨rfl, rfl, rfl, rfl, rfl, rfl, rfl, rfl, rfl, rfl, trivial⟩, ⟨by omega, hof.yes (by omega) ho (by omega)⟩, hw, (by omega)⟩)
      ·
        refine c_skipC ?_
        refine c_last ?_
        refine l_mv rfl ?_
        refine l_add rfl rfl (wi64 (by omega)) rfl ?_
        refine l_as rfl ?_
        exact l_nil (fun w' hw => ⟨j + 1, o, ⟨rfl, rfl, rfl, rfl, rfl, rfl, rfl, rfl, rfl, rfl, trivial⟩, ⟨by omega, hof.no (by omega) (by omega)⟩, hw, (by omega)⟩)
    ·
      refine c_exitC rfl ?_
      refine c_reg ?_
      refine l_as rfl ?_
      refine l_end ?_
      refine c_cut10 (fun (o2 : ByteArray) (e2 now2 : Int) (cnt2 : Nat) (kb2 : List (ByteArray × Int)) (kl2 : List (Nat × LeaD)) (bv2 lv2 : Value) (bs2 : List BudD) (ls2 : List LeaD) => [(0, .string key), (1, v), (5, .pointer (some ⟨b1_, 0, none⟩)), (6, .pointer (some ⟨b19, 0, none⟩)), (7, .int .i64 most), (8, .int .i64 (i : Nat)), (9, .pointer (some ⟨b9, 0, none⟩)), (11, .int .i64 (lentW key ls)), (12, .string o2), (14, .int .i64 e2)]) (fun (o2 : ByteArray) (e2 now2 : Int) (cnt2 : Nat) (kb2 : List (ByteArray × Int)) (kl2 : List (Nat × LeaD)) (bv2 lv2 : Value) (bs2 : List BudD) (ls2 : List LeaD) => Step cnt key (nth acts i).kind ls now2 cnt2 kb2 kl2 bs2 ls2 e2 o2) (fun (o2 : ByteArray) (e2 now2 : Int) (cnt2 : Nat) (kb2 : List (ByteArray × Int)) (kl2 : List (Nat × LeaD)) (bv2 lv2 : Value) (bs2 : List BudD) (ls2 : List LeaD) => [Res.row b1_ 64 [.map (some bm2_), .map (some lm3_), .int .i64 now2, .int .u64 (cnt2 : Nat)], Res.mp Value.string ekI bm2_ kb2, Res.mp ekU leaV lm3_ kl2, Res.row b19 30 [.int .i64 now2, .int .u64 (cnt2 : Nat), bv2, lv2], Res.vec 68 2 bv2 bs2.length (bs2.flatMap BudD.cells), Res.vec 37 5 lv2 ls2.length (ls2.flatMap LeaD.cells), Res.row b9 33 (QActD.cells (nth acts i))]) ?_ (fun o2 e2 now2 cnt2 kb2 kl2 bv2 lv2 bs2 ls2 g hΦ => ?_)
      ·
        refine c_reg ?_
        refine l_fld (o := 0) rfl (by kernel_rfl) rfl ?_
        refine l_ldo 3 (v := .int .i64 ((nth acts i).kind)) rfl rfl rfl (by kernel_rfl) rfl ?_
        refine l_end ?_
        refine c_block ?_
        refine c_reg ?_
        refine l_eq rfl rfl rfl ?_
        refine l_as rfl ?_
        refine l_end ?_
        refine c_dec rfl (fun c5 => ?_) (fun c5 => ?_)
        ·
          refine c_reg ?_
          refine l_mv rfl ?_
          refine l_fld (o := 4) rfl (by kernel_rfl) rfl ?_
          refine l_ldo 3 (v := .int .u64 ((nth acts i).session : Nat)) rfl rfl rfl (by kernel_rfl) rfl ?_
          refine l_fld (o := 1) rfl (by kernel_rfl) rfl ?_
          refine l_ldo 3 (v := .string ((nth acts i).key)) rfl rfl rfl (by kernel_rfl) rfl ?_
          refine l_fld (o := 2) rfl (by kernel_rfl) rfl ?_
          refine l_ldo 3 (v := .int .i64 ((nth acts i).n)) rfl rfl rfl (by kernel_rfl) rfl ?_
          refine l_fld (o := 3) rfl (by kernel_rfl) rfl ?_
          refine l_ldo 3 (v := .int .i64 ((nth acts i).span)) rfl rfl rfl (by kernel_rfl) rfl ?_
          refine l_call (by kernel_rfl) rfl rfl (fun w' hw => ?_)
          refine (lend_s b1_ bm2_ lm3_ now cnt kb kl ((nth acts i).session) ((nth acts i).key) ((nth acts i).n) ((nth acts i).span) w' (by rw [hr.lent]; exact ho.lent0 _) ((hwf _ (nth_mem (by omega))).n) ho.time (by omega) (hw.give [0, 1, 2] rfl (by decide))).mono ?_
          rintro _ w1 ⟨x4_, e5_, cnt'6_, kl'7_, rfl, hf20_9, hf20_9_1, hf20_9_2, hf20_9_3, hO⟩
          refine (?_ : CL _ _ _ _ _ _ (Own w [] [Res.row b9 33 (QActD.cells (nth acts i)), Res.row b19 30 [.int .i64 now, .int .u64 (cnt : Nat), bv, lv], Res.vec 68 2 bv bs.length (bs.flatMap BudD.cells), Res.vec 37 5 lv ls.length (ls.flatMap LeaD.cells), Res.row b1_ 64 [.map (some bm2_), .map (some lm3_), .int .i64 now, .int .u64 (cnt'6_ : Nat)], Res.mp Value.string ekI bm2_ kb, Res.mp ekU leaV lm3_ kl'7_])) w1 (hw.frameL [0, 1, 2] rfl hO)
          refine l_mv rfl ?_
          refine l_ext (vs := [.agg (LeaD.cells x4_).toArray, .int .i64 e5_]) rfl rfl rfl ?_
          refine l_ext (vs := [.agg (LeaD.cells x4_).toArray, .int .i64 e5_]) rfl rfl rfl ?_
          refine l_as rfl ?_
          refine l_end ?_
          refine c_reg ?_
          refine l_mv rfl ?_
          refine l_fld (o := 4) rfl (by kernel_rfl) rfl ?_
          refine l_ldo 0 (v := .int .u64 ((nth acts i).session : Nat)) rfl rfl rfl (by kernel_rfl) rfl ?_
          refine l_fld (o := 1) rfl (by kernel_rfl) rfl ?_
          refine l_ldo 0 (v := .string ((nth acts i).key)) rfl rfl rfl (by kernel_rfl) rfl ?_
          refine l_fld (o := 2) rfl (by kernel_rfl) rfl ?_
          refine l_ldo 0 (v := .int .i64 ((nth acts i).n)) rfl rfl rfl (by kernel_rfl) rfl ?_
          refine l_fld (o := 3) rfl (by kernel_rfl) rfl ?_
          refine l_ldo 0 (v := .int .i64 ((nth acts i).span)) rfl rfl rfl (by kernel_rfl) rfl ?_
          refine l_call (by kernel_rfl) rfl rfl (fun w' hw => ?_)
          refine (rlend_s b19 now cnt bv lv bs ls ((nth acts i).session) ((nth acts i).key) ((nth acts i).n) ((nth acts i).span) w' ho ((hwf _ (nth_mem (by omega))).n) (by omega) (hw.give [1, 2, 3] rfl (by decide))).mono ?_
          rintro _ w1 ⟨x8_, e9_, cnt'10_, lv'11_, ls'12_, rfl, hf21_9, hf21_9_1, hf21_9_2, hf21_9_3, hO⟩
          have hst := step_lend (key := key) ho hr c5 hf20_9 hf20_9_1 hf20_9_2 hf20_9_3 hf21_9 hf21_9_1 hf21_9_2 hf21_9_3
          refine (?_ : CL _ _ _ _ _ _ (Own w [] [Res.row b9 33 (QActD.cells (nth acts i)), Res.row b1_ 64 [.map (some bm2_), .map (some lm3_), .int .i64 now, .int .u64 (cnt'6_ : Nat)], Res.mp Value.string ekI bm2_ kb, Res.mp ekU leaV lm3_ kl'7_, Res.row b19 30 [.int .i64 now, .int .u64 (cnt'10_ : Nat), bv, lv'11_], Res.vec 68 2 bv bs.length (bs.flatMap BudD.cells), Res.vec 37 5 lv'11_ ls'12_.length (ls'12_.flatMap LeaD.cells)])) w1 (hw.frameL [1, 2, 3] rfl hO)
          refine l_end ?_
          refine c_last ?_
          refine l_fld (o := 1) rfl (by kernel_rfl) rfl ?_
          refine l_ldo 0 (v := .string ((nth acts i).key)) rfl rfl rfl (by kernel_rfl) rfl ?_
          refine l_as rfl ?_
          exact l_nil (fun w' hw => ⟨(nth acts i).key, e5_, now, cnt'10_, kb, kl'7_, bv, lv'11_, bs, ls'12_, ⟨rfl, rfl, rfl, rfl, rfl, rfl, rfl, rfl, rfl, rfl, trivial⟩, hst.2, by rw [hst.1] at hw; exact hw.sel [1, 2, 3, 4, 5, 6, 0] rfl (by decide)⟩)
        ·
          refine c_reg ?_
          refine l_eq rfl rfl rfl ?_
          refine l_as rfl ?_
          refine l_end ?_
          refine c_dec rfl (fun c6 => ?_) (fun c6 => ?_)
          ·
            refine c_reg ?_
            refine l_mv rfl ?_
            refine l_fld (o := 4) rfl (by kernel_rfl) rfl ?_
            refine l_ldo 3 (v := .int .u64 ((nth acts i).session : Nat)) rfl rfl rfl (by kernel_rfl) rfl ?_
            refine l_fld (o := 5) rfl (by kernel_rfl) rfl ?_
            refine l_ldo 3 (v := .int .u64 ((nth acts i).id : Nat)) rfl rfl rfl (by kernel_rfl) rfl ?_
            refine l_fld (o := 3) rfl (by kernel_rfl) rfl ?_
            refine l_ldo 3 (v := .int .i64 ((nth acts i).span)) rfl rfl rfl (by kernel_rfl) rfl ?_
            refine l_call (by kernel_rfl) rfl rfl (fun w' hw => ?_)
            refine (renew_s b1_ bm2_ lm3_ now cnt kb kl ((nth acts i).session) ((nth acts i).id) ((nth acts i).span) w' ho.time (hw.give [0, 1, 2] rfl (by decide))).mono ?_
            rintro _ w1 ⟨x13_, e14_, kl'15_, rfl, hf24_7, hO⟩
            refine (?_ : CL _ _ _ _ _ _ (Own w [] [Res.row b9 33 (QActD.cells (nth acts i)), Res.row b19 30 [.int .i64 now, .int .u64 (cnt : Nat), bv, lv], Res.vec 68 2 bv bs.length (bs.flatMap BudD.cells), Res.vec 37 5 lv ls.length (ls.flatMap LeaD.cells), Res.row b1_ 64 [.map (some bm2_), .map (some lm3_), .int .i64 now, .int .u64 (cnt : Nat)], Res.mp Value.string ekI bm2_ kb, Res.mp ekU leaV lm3_ kl'15_])) w1 (hw.frameL [0, 1, 2] rfl hO)
            refine l_mv rfl ?_
            refine l_ext (vs := [.agg (LeaD.cells x13_).toArray, .int .i64 e14_]) rfl rfl rfl ?_
            refine l_ext (vs := [.agg (LeaD.cells x13_).toArray, .int .i64 e14_]) rfl rfl rfl ?_
            refine l_as rfl ?_
            refine l_end ?_
            refine c_last ?_
            refine l_mv rfl ?_
            refine l_fld (o := 4) rfl (by kernel_rfl) rfl ?_
            refine l_ldo 0 (v := .int .u64 ((nth acts i).session : Nat)) rfl rfl rfl (by kernel_rfl) rfl ?_
            refine l_fld (o := 5) rfl (by kernel_rfl) rfl ?_
            refine l_ldo 0 (v := .int .u64 ((nth acts i).id : Nat)) rfl rfl rfl (by kernel_rfl) rfl ?_
            refine l_fld (o := 3) rfl (by kernel_rfl) rfl ?_
            refine l_ldo 0 (v := .int .i64 ((nth acts i).span)) rfl rfl rfl (by kernel_rfl) rfl ?_
            refine l_call (by kernel_rfl) rfl rfl (fun w' hw => ?_)
            refine (rrenew_s b19 now cnt bv lv bs ls ((nth acts i).session) ((nth acts i).id) ((nth acts i).span) w' (by first | assumption | omega | (simp <;> omega) | (constructor <;> (first | omega | (simp only [LenOk]; omega) | (simp <;> omega)))) (hw.give [1, 2, 3] rfl (by decide))).mono ?_
            rintro _ w1 ⟨x16_, e17_, ls'18_, rfl, hf25_7, hO⟩
            refine (?_ : CL _ _ _ _ _ _ (Own w [] [Res.row b9 33 (QActD.cells (nth acts i)), Res.row b1_ 64 [.map (some bm2_), .map (some lm3_), .int .i64 now, .int .u64 (cnt : Nat)], Res.mp Value.string ekI bm2_ kb, Res.mp ekU leaV lm3_ kl'15_, Res.row b19 30 [.int .i64 now, .int .u64 (cnt : Nat), bv, lv], Res.vec 68 2 bv bs.length (bs.flatMap BudD.cells), Res.vec 37 5 lv ls'18_.length (ls'18_.flatMap LeaD.cells)])) w1 (hw.frameL [1, 2, 3] rfl hO)
            exact l_nil (fun w' hw => ⟨o, e14_, now, cnt, kb, kl'15_, bv, lv, bs, ls'18_, ⟨rfl, rfl, rfl, rfl, rfl, rfl, rfl, rfl, rfl, rfl, trivial⟩, step_renew ho hr hf24_7 hf25_7 (hof.all (by omega)), hw.sel [1, 2, 3, 4, 5, 6, 0] rfl (by decide)⟩)
          ·
            refine c_last ?_
            refine l_mv rfl ?_
            refine l_mv rfl ?_
            refine l_ldr (cs := (QActD.cells (nth acts i))) 3 rfl rfl (by kernel_rfl) rfl ?_
            refine l_call (by kernel_rfl) rfl rfl (fun w' hw => ?_)
            refine (qact_s b1_ bm2_ lm3_ b19 now cnt kb kl bv lv bs ls (nth acts i) w' ho hr (hwf _ (nth_mem (by omega))) (by omega) (hw.give [0, 1, 2, 4, 5, 6] rfl (by decide))).mono ?_
            rintro _ w1 ⟨now'19_, cnt'20_, kb'21_, kl'22_, bv'23_, lv'24_, bs'25_, ls'26_, rfl, hf18_3, hf18_3_1, hf18_3_2, hf18_3_3, hO⟩
            refine (?_ : CL _ _ _ _ _ _ (Own w [] [Res.row b9 33 (QActD.cells (nth acts i)), Res.row b1_ 64 [.map (some bm2_), .map (some lm3_), .int .i64 now'19_, .int .u64 (cnt'20_ : Nat)], Res.mp Value.string ekI bm2_ kb'21_, Res.mp ekU leaV lm3_ kl'22_, Res.row b19 30 [.int .i64 now'19_, .int .u64 (cnt'20_ : Nat), bv'23_, lv'24_], Res.vec 68 2 bv'23_ bs'25_.length (bs'25_.flatMap BudD.cells), Res.vec 37 5 lv'24_ ls'26_.length (ls'26_.flatMap LeaD.cells)])) w1 (hw.frameL [0, 1, 2, 4, 5, 6] rfl hO)
            exact l_nil (fun w' hw => ⟨o, 1, now'19_, cnt'20_, kb'21_, kl'22_, bv'23_, lv'24_, bs'25_, ls'26_, ⟨rfl, rfl, rfl, rfl, rfl, rfl, rfl, rfl, rfl, rfl, trivial⟩, ⟨hf18_3, hf18_3_1, hf18_3_2, fun q => absurd q.1 (by decide), fun _ => hf18_3_3 c5 key, fun _ => hf18_3_3 c5 key⟩, hw.sel [1, 2, 3, 4, 5, 6, 0] rfl (by decide)⟩)
      have hs := hΦ
      have hb2 := hs.ok.bud hs.rel key
      have hn0 := lentS_nn (k := key) hs.ok.pos
      have hle := ho.lent key
      have hless := hs.less
      refine c_reg ?_
      refine l_mv rfl ?_
      refine l_mv rfl ?_
      refine l_call (by kernel_rfl) rfl rfl (fun w' hw => ?_)
      refine (tlent_s b1_ bm2_ lm3_ now2 cnt2 kb2 kl2 key w' (hw.give [0, 1, 2] rfl (by decide))).mono ?_
      rintro _ w1 ⟨n27_, rfl, hf26_2, hO⟩
      have hn : n27_ = lentS key ls2 := hf26_2.trans ((hs.rel.lent key).trans (hs.ok.lent key))
      refine (?_ : CL _ _ _ _ _ _ (Own w [] [Res.row b19 30 [.int .i64 now2, .int .u64 (cnt2 : Nat), bv2, lv2], Res.vec 68 2 bv2 bs2.length (bs2.flatMap BudD.cells), Res.vec 37 5 lv2 ls2.length (ls2.flatMap LeaD.cells), Res.row b9 33 (QActD.cells (nth acts i)), Res.row b1_ 64 [.map (some bm2_), .map (some lm3_), .int .i64 now2, .int .u64 (cnt2 : Nat)], Res.mp Value.string ekI bm2_ kb2, Res.mp ekU leaV lm3_ kl2])) w1 (hw.frameL [0, 1, 2] rfl hO)
      refine l_mv rfl ?_
      refine l_ext (vs := [.int .i64 ((getA key kb2).getD 0), .int .i64 n27_]) rfl rfl rfl ?_
      refine l_ext (vs := [.int .i64 ((getA key kb2).getD 0), .int .i64 n27_]) rfl rfl rfl ?_
      refine l_as rfl ?_
      refine l_as rfl ?_
      refine l_end ?_
      refine c_seq ?_
      refine c_reg ?_
      refine l_mv rfl ?_
      refine l_eq rfl rfl rfl ?_
      refine l_mv rfl ?_
      refine l_band (q := e2 = 0) 3 2 [139, 138, 137] (o2 = key) rfl rfl rfl rfl rfl rfl trivial rfl (fun h27_2 => ?_) (fun g27_6 => ?_)
      ·
        refine l_on rfl (gT h27_2) ?_
        refine l_mv rfl ?_
        refine l_on rfl (gT h27_2) ?_
        refine l_mv rfl ?_
        refine l_on rfl (gT h27_2) ?_
        refine l_seq rfl rfl rfl ?_
        exact l_nil (fun w' hw => ⟨(by repeat (first | exact Out.refl _ _ | refine Out.upd rfl ?_ | refine Out.msk rfl ?_)), rfl, hw⟩)
      refine l_end ?_
      refine c_dec rfl (fun c7 => ?_) (fun c7 => ?_)
      ·
        have hfit := hs.fit c7
        refine c_reg ?_
        refine l_mv rfl ?_
        refine l_as rfl ?_
        refine l_end ?_
        refine c_reg ?_
        refine l_mv rfl ?_
        refine l_mv rfl ?_
        refine l_gtr rfl rfl rfl ?_
        refine l_end ?_
        refine c_dec rfl (fun c8 => ?_) (fun c8 => ?_)
        ·
          refine c_reg ?_
          refine l_as rfl ?_
          refine l_end ?_
          exact c_ret (ret1 (v := .bool false) rfl rfl (fun w' hw => ⟨(by exfalso; omega), hw.drop⟩))
        ·
          refine c_skipC ?_
          refine c_seq ?_
          refine c_reg ?_
          refine l_mv rfl ?_
          refine l_mv rfl ?_
          refine l_gtr rfl rfl rfl ?_
          refine l_end ?_
          refine c_dec rfl (fun c9 => ?_) (fun c9 => ?_)
          ·
            refine c_last ?_
            refine l_mv rfl ?_
            refine l_as rfl ?_
            refine l_end ?_
            refine c_reg ?_
            refine l_mv rfl ?_
            refine l_mv rfl ?_
            refine l_gtr rfl rfl rfl ?_
            refine l_mv rfl ?_
            refine l_bor (q := ((getA key kb2).getD 0) < n27_) 2 3 [154, 153] (n27_ < 0) rfl rfl rfl rfl rfl rfl trivial rfl (fun h33_3 => ?_) (fun g33_6 => ?_)
            ·
              refine l_on rfl (gF h33_3) ?_
              refine l_mv rfl ?_
              refine l_on rfl (gF h33_3) ?_
              refine l_lss rfl rfl rfl ?_
              exact l_nil (fun w' hw => ⟨(by repeat (first | exact Out.refl _ _ | refine Out.upd rfl ?_ | refine Out.msk rfl ?_)), rfl, hw⟩)
            refine l_mv rfl ?_
            refine l_bor (q := (((getA key kb2).getD 0) < n27_) ∨ (n27_ < 0)) 8 7 [164, 163, 162, 161, 160, 159, 158, 157] ((((nth acts i).kind) ≠ 3) ∧ ((lentW key ls) < n27_)) rfl rfl rfl rfl rfl rfl trivial rfl (fun h33_7 => ?_) (fun g33_16 => ?_)
            ·
              refine l_on rfl (gF h33_7) ?_
              refine l_fld (o := 0) rfl (by kernel_rfl) rfl ?_
              refine l_on rfl (gF h33_7) ?_
              refine l_ldo 3 (v := .int .i64 ((nth acts i).kind)) rfl rfl rfl (by kernel_rfl) rfl ?_
              refine l_on rfl (gF h33_7) ?_
              refine l_ne rfl rfl rfl ?_
              refine l_on rfl (gF h33_7) ?_
              refine l_mv rfl ?_
              refine l_band (q := ((nth acts i).kind) ≠ 3) 3 11 [163, 162, 161] ((lentW key ls) < n27_) rfl rfl rfl rfl rfl rfl ⟨_, rfl, rfl, gF h33_7⟩ rfl (fun h33_11 => ?_) (fun g33_15 => ?_)
              ·
                refine l_on rfl (gT h33_11) ?_
                refine l_mv rfl ?_
                refine l_on rfl (gT h33_11) ?_
                refine l_mv rfl ?_
                refine l_on rfl (gT h33_11) ?_
                refine l_gtr rfl rfl rfl ?_
                exact l_nil (fun w' hw => ⟨(by repeat (first | exact Out.refl _ _ | refine Out.upd rfl ?_ | refine Out.msk rfl ?_)), rfl, hw⟩)
              exact l_nil (fun w' hw => ⟨(by repeat (first | exact Out.refl _ _ | refine Out.upd rfl ?_ | refine Out.msk rfl ?_)), rfl, hw⟩)
            refine l_end ?_
            refine c_dec rfl (fun c10 => ?_) (fun c10 => ?_)
            ·
              refine c_reg ?_
              refine l_as rfl ?_
              refine l_end ?_
              exact c_ret (ret1 (v := .bool false) rfl rfl (fun w' hw => ⟨(by exfalso; omega), hw.drop⟩))
            ·
              refine c_skipC ?_
              refine c_last ?_
              refine l_mv rfl ?_
              refine l_add rfl rfl (wi64 (by omega)) rfl ?_
              refine l_as rfl ?_
              exact l_nil (fun w' hw => ⟨i + 1, (getA key kb2).getD 0, now2, cnt2, kb2, kl2, bv2, lv2, bs2, ls2, ⟨rfl, rfl, rfl, rfl, rfl, rfl, trivial⟩, ⟨by omega, ⟨hs.ok, hs.rel, by have := hs.cnt; omega, by omega⟩⟩, hw.sel [4, 5, 6, 0, 1, 2] rfl (by decide), (by omega)⟩)
          ·
            refine c_skipC ?_
            refine c_reg ?_
            refine l_mv rfl ?_
            refine l_mv rfl ?_
            refine l_gtr rfl rfl rfl ?_
            refine l_mv rfl ?_
            refine l_bor (q := ((getA key kb2).getD 0) < n27_) 2 3 [154, 153] (n27_ < 0) rfl rfl rfl rfl rfl rfl trivial rfl (fun h33_3 => ?_) (fun g33_6 => ?_)
            ·
              refine l_on rfl (gF h33_3) ?_
              refine l_mv rfl ?_
              refine l_on rfl (gF h33_3) ?_
              refine l_lss rfl rfl rfl ?_
              exact l_nil (fun w' hw => ⟨(by repeat (first | exact Out.refl _ _ | refine Out.upd rfl ?_ | refine Out.msk rfl ?_)), rfl, hw⟩)
            refine l_mv rfl ?_
            refine l_bor (q := (((getA key kb2).getD 0) < n27_) ∨ (n27_ < 0)) 8 7 [164, 163, 162, 161, 160, 159, 158, 157] ((((nth acts i).kind) ≠ 3) ∧ ((lentW key ls) < n27_)) rfl rfl rfl rfl rfl rfl trivial rfl (fun h33_7 => ?_) (fun g33_16 => ?_)
            ·
              refine l_on rfl (gF h33_7) ?_
              refine l_fld (o := 0) rfl (by kernel_rfl) rfl ?_
              refine l_on rfl (gF h33_7) ?_
              refine l_ldo 3 (v := .int .i64 ((nth acts i).kind)) rfl rfl rfl (by kernel_rfl) rfl ?_
              refine l_on rfl (gF h33_7) ?_
              refine l_ne rfl rfl rfl ?_
              refine l_on rfl (gF h33_7) ?_
              refine l_mv rfl ?_
              refine l_band (q := ((nth acts i).kind) ≠ 3) 3 11 [163, 162, 161] ((lentW key ls) < n27_) rfl rfl rfl rfl rfl rfl ⟨_, rfl, rfl, gF h33_7⟩ rfl (fun h33_11 => ?_) (fun g33_15 => ?_)
              ·
                refine l_on rfl (gT h33_11) ?_
                refine l_mv rfl ?_
                refine l_on rfl (gT h33_11) ?_
                refine l_mv rfl ?_
                refine l_on rfl (gT h33_11) ?_
                refine l_gtr rfl rfl rfl ?_
                exact l_nil (fun w' hw => ⟨(by repeat (first | exact Out.refl _ _ | refine Out.upd rfl ?_ | refine Out.msk rfl ?_)), rfl, hw⟩)
              exact l_nil (fun w' hw => ⟨(by repeat (first | exact Out.refl _ _ | refine Out.upd rfl ?_ | refine Out.msk rfl ?_)), rfl, hw⟩)
            refine l_end ?_
            refine c_dec rfl (fun c11 => ?_) (fun c11 => ?_)
            ·
              refine c_reg ?_
              refine l_as rfl ?_
              refine l_end ?_
              exact c_ret (ret1 (v := .bool false) rfl rfl (fun w' hw => ⟨(by exfalso; omega), hw.drop⟩))
            ·
              refine c_skipC ?_
              refine c_last ?_
              refine l_mv rfl ?_
              refine l_add rfl rfl (wi64 (by omega)) rfl ?_
              refine l_as rfl ?_
              exact l_nil (fun w' hw => ⟨i + 1, (getA key kb2).getD 0, now2, cnt2, kb2, kl2, bv2, lv2, bs2, ls2, ⟨rfl, rfl, rfl, rfl, rfl, rfl, trivial⟩, ⟨by omega, ⟨hs.ok, hs.rel, by have := hs.cnt; omega, by omega⟩⟩, hw.sel [4, 5, 6, 0, 1, 2] rfl (by decide), (by omega)⟩)
      ·
        have hkeep := hs.keep c7
        refine c_skipC ?_
        refine c_seq ?_
        refine c_reg ?_
        refine l_mv rfl ?_
        refine l_mv rfl ?_
        refine l_gtr rfl rfl rfl ?_
        refine l_end ?_
        refine c_dec rfl (fun c12 => ?_) (fun c12 => ?_)
        ·
          refine c_last ?_
          refine l_mv rfl ?_
          refine l_as rfl ?_
          refine l_end ?_
          refine c_reg ?_
          refine l_mv rfl ?_
          refine l_mv rfl ?_
          refine l_gtr rfl rfl rfl ?_
          refine l_mv rfl ?_
          refine l_bor (q := ((getA key kb2).getD 0) < n27_) 2 3 [154, 153] (n27_ < 0) rfl rfl rfl rfl rfl rfl trivial rfl (fun h33_3 => ?_) (fun g33_6 => ?_)
          ·
            refine l_on rfl (gF h33_3) ?_
            refine l_mv rfl ?_
            refine l_on rfl (gF h33_3) ?_
            refine l_lss rfl rfl rfl ?_
            exact l_nil (fun w' hw => ⟨(by repeat (first | exact Out.refl _ _ | refine Out.upd rfl ?_ | refine Out.msk rfl ?_)), rfl, hw⟩)
          refine l_mv rfl ?_
          refine l_bor (q := (((getA key kb2).getD 0) < n27_) ∨ (n27_ < 0)) 8 7 [164, 163, 162, 161, 160, 159, 158, 157] ((((nth acts i).kind) ≠ 3) ∧ ((lentW key ls) < n27_)) rfl rfl rfl rfl rfl rfl trivial rfl (fun h33_7 => ?_) (fun g33_16 => ?_)
          ·
            refine l_on rfl (gF h33_7) ?_
            refine l_fld (o := 0) rfl (by kernel_rfl) rfl ?_
            refine l_on rfl (gF h33_7) ?_
            refine l_ldo 3 (v := .int .i64 ((nth acts i).kind)) rfl rfl rfl (by kernel_rfl) rfl ?_
            refine l_on rfl (gF h33_7) ?_
            refine l_ne rfl rfl rfl ?_
            refine l_on rfl (gF h33_7) ?_
            refine l_mv rfl ?_
            refine l_band (q := ((nth acts i).kind) ≠ 3) 3 11 [163, 162, 161] ((lentW key ls) < n27_) rfl rfl rfl rfl rfl rfl ⟨_, rfl, rfl, gF h33_7⟩ rfl (fun h33_11 => ?_) (fun g33_15 => ?_)
            ·
              refine l_on rfl (gT h33_11) ?_
              refine l_mv rfl ?_
              refine l_on rfl (gT h33_11) ?_
              refine l_mv rfl ?_
              refine l_on rfl (gT h33_11) ?_
              refine l_gtr rfl rfl rfl ?_
              exact l_nil (fun w' hw => ⟨(by repeat (first | exact Out.refl _ _ | refine Out.upd rfl ?_ | refine Out.msk rfl ?_)), rfl, hw⟩)
            exact l_nil (fun w' hw => ⟨(by repeat (first | exact Out.refl _ _ | refine Out.upd rfl ?_ | refine Out.msk rfl ?_)), rfl, hw⟩)
          refine l_end ?_
          refine c_dec rfl (fun c13 => ?_) (fun c13 => ?_)
          ·
            refine c_reg ?_
            refine l_as rfl ?_
            refine l_end ?_
            exact c_ret (ret1 (v := .bool false) rfl rfl (fun w' hw => ⟨(by exfalso; omega), hw.drop⟩))
          ·
            refine c_skipC ?_
            refine c_last ?_
            refine l_mv rfl ?_
            refine l_add rfl rfl (wi64 (by omega)) rfl ?_
            refine l_as rfl ?_
            exact l_nil (fun w' hw => ⟨i + 1, (getA key kb2).getD 0, now2, cnt2, kb2, kl2, bv2, lv2, bs2, ls2, ⟨rfl, rfl, rfl, rfl, rfl, rfl, trivial⟩, ⟨by omega, ⟨hs.ok, hs.rel, by have := hs.cnt; omega, by omega⟩⟩, hw.sel [4, 5, 6, 0, 1, 2] rfl (by decide), (by omega)⟩)
        ·
          refine c_skipC ?_
          refine c_reg ?_
          refine l_mv rfl ?_
          refine l_mv rfl ?_
          refine l_gtr rfl rfl rfl ?_
          refine l_mv rfl ?_
          refine l_bor (q := most < n27_) 2 3 [154, 153] (n27_ < 0) rfl rfl rfl rfl rfl rfl trivial rfl (fun h33_3 => ?_) (fun g33_6 => ?_)
          ·
            refine l_on rfl (gF h33_3) ?_
            refine l_mv rfl ?_
            refine l_on rfl (gF h33_3) ?_
            refine l_lss rfl rfl rfl ?_
            exact l_nil (fun w' hw => ⟨(by repeat (first | exact Out.refl _ _ | refine Out.upd rfl ?_ | refine Out.msk rfl ?_)), rfl, hw⟩)
          refine l_mv rfl ?_
          refine l_bor (q := (most < n27_) ∨ (n27_ < 0)) 8 7 [164, 163, 162, 161, 160, 159, 158, 157] ((((nth acts i).kind) ≠ 3) ∧ ((lentW key ls) < n27_)) rfl rfl rfl rfl rfl rfl trivial rfl (fun h33_7 => ?_) (fun g33_16 => ?_)
          ·
            refine l_on rfl (gF h33_7) ?_
            refine l_fld (o := 0) rfl (by kernel_rfl) rfl ?_
            refine l_on rfl (gF h33_7) ?_
            refine l_ldo 3 (v := .int .i64 ((nth acts i).kind)) rfl rfl rfl (by kernel_rfl) rfl ?_
            refine l_on rfl (gF h33_7) ?_
            refine l_ne rfl rfl rfl ?_
            refine l_on rfl (gF h33_7) ?_
            refine l_mv rfl ?_
            refine l_band (q := ((nth acts i).kind) ≠ 3) 3 11 [163, 162, 161] ((lentW key ls) < n27_) rfl rfl rfl rfl rfl rfl ⟨_, rfl, rfl, gF h33_7⟩ rfl (fun h33_11 => ?_) (fun g33_15 => ?_)
            ·
              refine l_on rfl (gT h33_11) ?_
              refine l_mv rfl ?_
              refine l_on rfl (gT h33_11) ?_
              refine l_mv rfl ?_
              refine l_on rfl (gT h33_11) ?_
              refine l_gtr rfl rfl rfl ?_
              exact l_nil (fun w' hw => ⟨(by repeat (first | exact Out.refl _ _ | refine Out.upd rfl ?_ | refine Out.msk rfl ?_)), rfl, hw⟩)
            exact l_nil (fun w' hw => ⟨(by repeat (first | exact Out.refl _ _ | refine Out.upd rfl ?_ | refine Out.msk rfl ?_)), rfl, hw⟩)
          refine l_end ?_
          refine c_dec rfl (fun c14 => ?_) (fun c14 => ?_)
          ·
            refine c_reg ?_
            refine l_as rfl ?_
            refine l_end ?_
            exact c_ret (ret1 (v := .bool false) rfl rfl (fun w' hw => ⟨(by exfalso; omega), hw.drop⟩))
          ·
            refine c_skipC ?_
            refine c_last ?_
            refine l_mv rfl ?_
            refine l_add rfl rfl (wi64 (by omega)) rfl ?_
            refine l_as rfl ?_
            exact l_nil (fun w' hw => ⟨i + 1, most, now2, cnt2, kb2, kl2, bv2, lv2, bs2, ls2, ⟨rfl, rfl, rfl, rfl, rfl, rfl, trivial⟩, ⟨by omega, ⟨hs.ok, hs.rel, by have := hs.cnt; omega, by omega⟩⟩, hw.sel [4, 5, 6, 0, 1, 2] rfl (by decide), (by omega)⟩)
  ·
    refine c_exitC rfl ?_
    refine c_reg ?_
    refine l_as rfl ?_
    refine l_end ?_
    exact c_ret (ret1 (v := .bool true) rfl rfl (fun w' hw => ⟨rfl, hw.drop⟩))
end Go.Proofs.Ytgkeoenbcjfeaaa
