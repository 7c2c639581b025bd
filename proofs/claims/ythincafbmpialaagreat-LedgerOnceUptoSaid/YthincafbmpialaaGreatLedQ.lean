import Derived.Test.YthincafbmpialaaGreatLqS
import Derived.Test.YthincafbmpialaaGreatQuotaP
import Derived.Test.YthincafbmpialaaGreatLedP
/-
  BUDGETS AND LEASES, told in order.
-/
set_option linter.unusedVariables false
set_option maxRecDepth 10000
namespace Go.Proofs.YthincafbmpialaaGreat
open Go Go.Sc Go.Proofs

theorem LeaDEq (r s : LeaD) : eqL [(0, some (some .u64)), (1, some (some .u64)), (2, some none), (3, some (some .i64)), (4, some (some .i64))] r.cells s.cells = decide (r = s) := by
  obtain ⟨a, b, c, d, e⟩ := r
  obtain ⟨a', b', c', d', e'⟩ := s
  simp [eqL, LeaD.cells, eqC, LeaD.mk.injEq, Bool.decide_and]
  have h : ∀ m n : Nat, decide ((m : Int) = n) = decide (m = n) := fun m n => decide_eq_decide.2 (by omega)
  simp only [h]
theorem leases_s {S : List Nat} (b bm lm : Nat) (now : Int) (cnt : Nat) (kl : List (Nat × LeaD)) (w : World) (hl : kl.length ≤ 1000000) (hin : Own w S [Res.row b 111 [.map (some bm), .map (some lm), Vi now, Vn cnt], Res.mp ekU leaV lm kl] w) : Rets Tryz.prog 51 #[.pointer (some ⟨b, 0, none⟩)] w fun u_ w' => ∃ (v : Value) (l : List LeaD), u_ = v ∧ l.Perm (kl.map (·.2)) ∧ l.Pairwise (fun x y => ole x y) ∧ Own w S [Res.row b 111 [.map (some bm), .map (some lm), Vi now, Vn cnt], Res.mp ekU leaV lm kl, Res.vec 76 5 v l.length (l.flatMap LeaD.cells)] w' := by
  refine fn_own Tryz.func51 rfl Tryz.ntmps51 hin ?_
  refine c_reg (l_as rfl (l_end (c_seq (c_reg (l_mv rfl (l_nilp (by kernel_rfl) rfl rfl rfl (l_end (c_no rfl (c_skipC (c_reg (l_mv rfl (l_nck rfl rfl ?_))))))))))))
  refine a_fld (o := 1) rfl rfl (a_ldo 0 (v := .map (some lm)) rfl rfl rfl rfl (a_call rfl rfl (fun w' hw => (qvals_s lm kl w' (hw.give [1] rfl (by decide))).mono ?_)))
  rintro _ w1 ⟨b1_, rfl, hO⟩
  refine (?_ : CL _ _ _ _ _ _ (Own w S [Res.row b 111 [.map (some bm), .map (some lm), Vi now, Vn cnt], Res.mp ekU leaV lm kl, Res.row b1_ 109 [.map (some lm)]])) w1 (hw.frameL [1] rfl hO)
  refine a_call rfl rfl (fun w' hw => (sortedf_vl b1_ lm kl w' (by first | omega | (simp <;> omega)) (hw.give [2, 1] rfl (by decide))).mono ?_)
  rintro v'2_ w1 ⟨_, l'3_, rfl, hf3_5, hf3_5_1, hO⟩
  refine (?_ : CL _ _ _ _ _ _ (Own w S [Res.row b 111 [.map (some bm), .map (some lm), Vi now, Vn cnt], Res.row b1_ 109 [.map (some lm)], Res.mp ekU leaV lm kl, Res.vec 76 5 v'2_ l'3_.length (l'3_.flatMap LeaD.cells)])) w1 (hw.frameL [2, 1] rfl hO)
  refine l_as rfl (l_end ?_)
  exact c_ret (ret1 (v := v'2_) rfl rfl (fun w' hw => ⟨v'2_, l'3_, rfl, hf3_5, hf3_5_1, hw.sel [0, 2, 3] rfl (by decide)⟩))
theorem leas_eq {now : Int} {cnt : Nat} {bs : List BudD} {ls l : List LeaD} {kb : List (ByteArray × Int)} {kl : List (Nat × LeaD)} (h : QOk now cnt bs ls) (r : QRel kb kl bs ls) (h1 : l.Perm (kl.map (·.2))) (h2 : l.Pairwise fun x y => ole x y) : l = ls := by
  have hp : l.Perm ls := h1.trans ((r.l.map _).trans (by rw [KL_val]))
  refine hp.eq_of_pairwise (fun a b ha hb h3 h4 => ?_) h2 ((List.pairwise_map.1 h.lup).imp fun q => ?_)
  · have e1 : ¬ b.id < a.id := fun q => h3 (olt_lea.2 q)
    have e2 : ¬ a.id < b.id := fun q => h4 (olt_lea.2 q)
    exact h.uniq (hp.mem_iff.1 ha) hb (by omega)
  · exact fun k => by have := olt_lea.1 k; omega
theorem sameLeases_s (v : Value) (l : List LeaD) (u : Value) (m : List LeaD) (w : World) (hl : l.length ≤ 2000000) (hm : m.length ≤ 2000000) (hv : Rd w [] (Res.sl v l.length (l.flatMap LeaD.cells))) (hu : Rd w [] (Res.sl u m.length (m.flatMap LeaD.cells))) : Rets Tryz.prog 39 #[v, u] w fun u_ w' => u_ = .bool (decide (l = m)) ∧ Own w [] [] w' := by
  refine fn_own Tryz.func39 rfl Tryz.ntmps39 (Own.start w) ?_
  refine c_reg (l_as rfl (l_end (c_seq (c_reg (l_as rfl (l_end (c_block ?_)))))))
  refine c_loop1 (fun (k : Nat) => [(0, v), (1, u), (5, Vj k)]) (fun (k : Nat) => (k ≤ l.length ∧ k ≤ m.length) ∧ l.take k = m.take k) (fun (k : Nat) => []) (fun (k : Nat) => l.length - k) (fun w' hw => ⟨0, ⟨rfl, rfl, rfl, trivial⟩, ⟨by omega, rfl⟩, hw⟩) (fun k g hΦ => ?_)
  have hk1 := hΦ.1
  have hk2 := hΦ.2
  refine c_seq (c_reg (l_mv rfl (l_mv rfl (a_lenP (pR hv) rfl rfl (l_lss rfl rfl rfl (l_mv rfl (l_band (q := ((k : Nat) : Int) < ((l.length : Nat) : Int)) 4 4 [14, 13, 12, 11] (((k : Nat) : Int) < ((m.length : Nat) : Int)) rfl rfl rfl rfl rfl rfl trivial rfl (fun h2_4 => ?_) (fun g2_9 => ?_))))))))
  ·
   refine l_on rfl (gT h2_4) (l_mv rfl (l_on rfl (gT h2_4) (l_mv rfl (l_on rfl (gT h2_4) (a_lenP (pR hu) rfl rfl (l_on rfl (gT h2_4) (l_lss rfl rfl rfl ?_)))))))
   exact l_gp rfl (fun _ hw => hw)
  refine l_end (c_dec rfl (fun c1 => ?_) (fun c1 => ?_))
  ·
   refine c_skipC (c_seq (c_block (c_quiets (by kernel_rfl) (by kernel_rfl) (q_val rfl (v_mv) (q_val rfl (v_mv) (q_val rfl (w_idxP (pR hv) 5 k rfl rfl rfl (by omega)) (q_val rfl (w_ldAP (pR hv) 5 k (off := offV v + k * 5) (fun _ => rfl) rfl rfl (by omega)) (q_val rfl (v_mv) (q_val rfl (v_mv) (q_val rfl (w_idxP (pR hu) 5 k rfl rfl rfl (by omega)) (q_val rfl (w_ldAP (pR hu) 5 k (off := offV u + k * 5) (fun _ => rfl) rfl rfl (by omega)) (q_val rfl (v_stq (LeaDEq (nth l k) (nth m k)) (by kernel_rfl) (by kernel_rfl) rfl rfl rfl rfl) ?_))))))))))))
   refine q_end (c_dec rfl (fun c2 => ?_) (fun c2 => ?_))
   ·
    refine c_reg (l_as rfl (l_end ?_))
    exact c_ret (ret1 (v := .bool false) rfl rfl (fun w' hw => ⟨(by rw [decide_eq_false]; rintro rfl; exact c2 rfl), hw.drop⟩))
   ·
    refine c_skipC (c_last (l_mv rfl (l_add rfl rfl (wi64 (by omega)) rfl (l_as rfl ?_))))
    exact l_nil (fun w' hw => ⟨k + 1, ⟨rfl, rfl, rfl, trivial⟩, ⟨by omega, by rw [take_nth (by omega), take_nth (by omega), hk2, Decidable.not_not.1 c2]⟩, hw, (by omega)⟩)
  ·
   refine c_exitC rfl (c_reg (l_mv rfl (a_lenP (pR hv) rfl rfl (l_mv rfl (a_lenP (pR hu) rfl rfl (l_eq rfl rfl rfl (l_as rfl (l_end ?_))))))))
   exact c_ret (ret1 (v := .bool (decide (((l.length : Nat) : Int) = ((m.length : Nat) : Int)))) rfl rfl (fun w' hw => ⟨(by congr 1; exact decide_eq_decide.2 ⟨fun h => by have h2 := hk2; rw [List.take_of_length_le (by omega), List.take_of_length_le (by omega)] at h2; exact h2, fun h => by rw [h]⟩), hw.drop⟩))
end Go.Proofs.YthincafbmpialaaGreat

/-
  A LEDGER OF THE PROGRAM AND ONE OF THE REFERENCE that have the same. Plain.
-/
set_option linter.unusedVariables false
set_option maxRecDepth 10000
namespace Go.Proofs.YthincafbmpialaaGreat
open Go Go.Sc Go.Proofs

structure LSt (idx : Nat) (now : Int) (cnt : Nat) (kb : List (ByteArray × Int)) (kl : List (Nat × LeaD)) (kr : List (Nat × RepD)) (idx2 : Nat) (now2 : Int) (cnt2 : Nat) (bs : List BudD) (ls : List LeaD) (rs : List RepD) : Prop where
  i : idx = idx2
  n : now = now2
  c : cnt = cnt2
  h : LOkR now2 cnt2 bs ls rs
  r : LRel kb kl kr bs ls rs
theorem kl_wf {now : Int} {cnt : Nat} {bs : List BudD} {ls : List LeaD} {kb : List (ByteArray × Int)} {kl : List (Nat × LeaD)} (ho : QOk now cnt bs ls) (hc : cnt ≤ 1000000000) (hr : QRel kb kl bs ls) : ∀ i l, getA i kl = some l → l.id < 18446744073709551616 ∧ isI l.amount ∧ isI l.until_ := fun i l h => leas_wf ho hc l ((ho.look hr).1 h).1
section
variable {idx : Nat} {now : Int} {cnt : Nat} {kb : List (ByteArray × Int)} {kl : List (Nat × LeaD)} {kr : List (Nat × RepD)} {idx2 : Nat} {now2 : Int} {cnt2 : Nat} {bs : List BudD} {ls : List LeaD} {rs : List RepD}
theorem LSt.ht (h : LSt idx now cnt kb kl kr idx2 now2 cnt2 bs ls rs) : 0 ≤ now ∧ now ≤ 2305843009213693952 := by rw [h.n]; exact h.h.q.time
theorem LSt.nd (h : LSt idx now cnt kb kl kr idx2 now2 cnt2 bs ls rs) : KNd kl := h.h.q.knl h.r.q
theorem LSt.len (h : LSt idx now cnt kb kl kr idx2 now2 cnt2 bs ls rs) : kl.length ≤ 128 := by rw [h.r.q.llen]; exact h.h.q.llen
theorem LSt.pt (h : LSt idx now cnt kb kl kr idx2 now2 cnt2 bs ls rs) {d : Int} (hd : isI d) : 0 ≤ passN now d ∧ passN now d ≤ 2305843009213693952 := by rw [h.n]; exact (h.h.q.pass d hd).time
theorem LSt.lent (h : LSt idx now cnt kb kl kr idx2 now2 cnt2 bs ls rs) {d : Int} (hd : isI d) (k : ByteArray) : 0 ≤ lentK k (passLK now d kl) ∧ lentK k (passLK now d kl) ≤ 9223372036854775807 := by
  rw [h.n, (h.r.q.pass d).lent]; exact (h.h.q.pass d hd).lent0 k
theorem LSt.klw (h : LSt idx now cnt kb kl kr idx2 now2 cnt2 bs ls rs) {d : Int} (hd : isI d) (hc : cnt2 ≤ 1000000000) : ∀ i l, getA i (passLK now d kl) = some l → l.id < 18446744073709551616 ∧ isI l.amount ∧ isI l.until_ := by
  rw [h.n]; exact kl_wf (h.h.q.pass d hd) hc (h.r.q.pass d)
theorem LSt.lent1 (h : LSt idx now cnt kb kl kr idx2 now2 cnt2 bs ls rs) (k : ByteArray) : 0 ≤ lentK k kl ∧ lentK k kl ≤ 9223372036854775807 := by
  rw [h.r.q.lent]; exact h.h.q.lent0 k
theorem LSt.start : LSt 0 0 0 [] [] [] 0 0 0 [] [] [] := ⟨rfl, rfl, rfl, LOkR.start, LRel.start⟩
theorem LSt.do (h : LSt idx now cnt kb kl kr idx2 now2 cnt2 bs ls rs) {c : CmdD} {r s : RepD} {did did2 : Bool} {cnt' cnt3 : Nat} {kb' : List (ByteArray × Int)} {kl' : List (Nat × LeaD)} {kr' : List (Nat × RepD)} {bs' : List BudD} {ls' : List LeaD} {rs' : List RepD} (hc : c.wf) (hn : cnt2 < 1000000000) (h1 : DoK now cnt kb kl kr c r did cnt' kb' kl' kr') (h2 : DoR now2 cnt2 bs ls rs c s did2 cnt3 bs' ls' rs') :
    (r = s ∧ did = did2) ∧ LSt idx now cnt' kb' kl' kr' idx2 now2 cnt3 bs' ls' rs' ∧ cnt3 ≤ cnt2 + 1 ∧ r.wf := by
  obtain ⟨rfl, rfl, rfl, ho, hr⟩ := h
  obtain ⟨q1, q2, q3, q4, q5, q6, q7⟩ := do_rel ho hr hc hn h1 h2
  exact ⟨⟨q1, q2⟩, ⟨rfl, rfl, q3, q5, q4⟩, q7, q6⟩
end
section
variable {now : Int} {cnt : Nat} {kb : List (ByteArray × Int)} {kl : List (Nat × LeaD)} {kr : List (Nat × RepD)}
theorem LSt.krn {idx : Nat} {idx2 : Nat} {now2 : Int} {cnt2 : Nat} {bs : List BudD} {ls : List LeaD} {rs : List RepD} (h : LSt idx now cnt kb kl kr idx2 now2 cnt2 bs ls rs) : KNd kr := h.h.c.nd h.r.c
theorem LSt.kl0 {idx : Nat} {idx2 : Nat} {now2 : Int} {cnt2 : Nat} {bs : List BudD} {ls : List LeaD} {rs : List RepD} (h : LSt idx now cnt kb kl kr idx2 now2 cnt2 bs ls rs) (hc : cnt2 ≤ 1000000000) : ∀ i l, getA i kl = some l → l.id < 18446744073709551616 ∧ isI l.amount ∧ isI l.until_ := kl_wf h.h.q hc h.r.q
end
def cmd1 : CmdD := { session := 1, seq := 1, op := 1, key := (⟨#[107]⟩ : ByteArray), amount := 5, span := 0, lease := 0 }
theorem cmd1_wf : cmd1.wf := ⟨by decide, by decide, by decide, by unfold isI; decide, by unfold isI; decide, by decide⟩
theorem cmd1_do {r : RepD} {did : Bool} {cnt' : Nat} {kb' : List (ByteArray × Int)} {kl' : List (Nat × LeaD)} {kr' : List (Nat × RepD)} (h : DoK 0 0 [] [] [] cmd1 r did cnt' kb' kl' kr') : (did = true ∧ r.e = 0) ∧ ((r.seq : Nat) : Int) = ((1 : Nat) : Int) := by
  have hok : cmd1.ok := by decide
  have hf : findK [] cmd1.session cmd1.seq = (RepD.zero, 8) := by decide
  rcases h with ⟨h, _⟩ | ⟨_, h, rfl, _⟩
  · rw [hf] at h
    rcases h with h | h | h | h
    · exact absurd hok h.1
    · exact absurd h.2.1 (by decide)
    · exact absurd h.2.2.1 (by decide)
    · exact absurd rfl h.2.1
  · rcases h with h | h | h | h | h
    · refine ⟨⟨rfl, ?_⟩, ?_⟩
      · rw [h.2.1]; decide
      · rw [h.2.1]; decide
    · exact absurd h.1 (by decide)
    · exact absurd h.1 (by decide)
    · exact absurd h.1 (by decide)
    · exact absurd rfl h.1.1.1
end Go.Proofs.YthincafbmpialaaGreat
