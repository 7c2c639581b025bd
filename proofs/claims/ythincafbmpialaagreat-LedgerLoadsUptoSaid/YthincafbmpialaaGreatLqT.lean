import Derived.Test.YthincafbmpialaaGreatLqS
import Derived.Test.YthincafbmpialaaGreatQuotaP
set_option linter.unusedSectionVars false
set_option linter.unusedSimpArgs false
set_option linter.unusedVariables false
set_option maxRecDepth 10000
namespace Go.Proofs.YthincafbmpialaaGreat
open Go Go.Sc Go.Proofs
theorem zLt (r s : LeaD) : eqL [(0, some (some .u64)), (1, some (some .u64)), (2, some none), (3, some (some .i64)), (4, some (some .i64))] r.cells s.cells = decide (r = s) := by
  obtain ⟨a, b, c, d, e⟩ := r
  obtain ⟨a', b', c', d', e'⟩ := s
  simp [eqL, LeaD.cells, eqC, LeaD.mk.injEq, Bool.decide_and]
  have h : ∀ m n : Nat, decide ((m : Int) = n) = decide (m = n) := fun m n => decide_eq_decide.2 (by omega)
  simp only [h]
theorem zMS {S : List Nat} (b bm lm : Nat) (now : Int) (cnt : Nat) (w : World) (hin : Own w S [Res.row b 111 [.map (some bm), .map (some lm), Vi now, Vn cnt]] w) : Rets Tryz.prog 48 #[.pointer (some ⟨b, 0, none⟩)] w fun u_ w' => u_ = Vn cnt ∧ Own w S [Res.row b 111 [.map (some bm), .map (some lm), Vi now, Vn cnt]] w' := by
  refine zW Tryz.func48 rfl Tryz.ntmps48 hin ?_
  refine zB (zD rfl (zA (zL (zB (zC rfl (xE (by kernel_rfl) rfl rfl rfl (zA (xQ rfl (zK (zB (zC rfl (zm rfl rfl ?_))))))))))))
  refine zP (o := 3) rfl rfl (zS 0 (v := Vn cnt) rfl rfl rfl rfl (zD rfl (zA ?_)))
  exact zM (z6 (v := Vn cnt) rfl rfl (fun w' hw => ⟨rfl, hw⟩))
theorem zEw {S : List Nat} (b bm lm : Nat) (now : Int) (cnt : Nat) (kl : List (Nat × LeaD)) (w : World) (hl : kl.length ≤ 1000000) (hin : Own w S [Res.row b 111 [.map (some bm), .map (some lm), Vi now, Vn cnt], Res.mp yA zZ lm kl] w) : Rets Tryz.prog 51 #[.pointer (some ⟨b, 0, none⟩)] w fun u_ w' => ∃ (v : Value) (l : List LeaD), u_ = v ∧ l.Perm (kl.map (·.2)) ∧ l.Pairwise (fun x y => x3 x y) ∧ Own w S [Res.row b 111 [.map (some bm), .map (some lm), Vi now, Vn cnt], Res.mp yA zZ lm kl, Res.vec 76 5 v l.length (l.flatMap LeaD.cells)] w' := by
  refine zW Tryz.func51 rfl Tryz.ntmps51 hin ?_
  refine zB (zD rfl (zA (zL (zB (zC rfl (xE (by kernel_rfl) rfl rfl rfl (zA (xQ rfl (zK (zB (zC rfl (zm rfl rfl ?_))))))))))))
  refine zP (o := 1) rfl rfl (zS 0 (v := .map (some lm)) rfl rfl rfl rfl (zJ rfl rfl (fun w' hw => (zJg lm kl w' (hw.give [1] rfl (by decide))).mono ?_)))
  rintro _ w1 ⟨b1_, rfl, hO⟩
  refine (?_ : CL _ _ _ _ _ _ (Own w S [Res.row b 111 [.map (some bm), .map (some lm), Vi now, Vn cnt], Res.mp yA zZ lm kl, Res.row b1_ 109 [.map (some lm)]])) w1 (hw.frameL [1] rfl hO)
  refine zJ rfl rfl (fun w' hw => (zFr b1_ lm kl w' (by first | omega | (simp <;> omega)) (hw.give [2, 1] rfl (by decide))).mono ?_)
  rintro v'2_ w1 ⟨_, l'3_, rfl, hf3_5, hf3_5_1, hO⟩
  refine (?_ : CL _ _ _ _ _ _ (Own w S [Res.row b 111 [.map (some bm), .map (some lm), Vi now, Vn cnt], Res.row b1_ 109 [.map (some lm)], Res.mp yA zZ lm kl, Res.vec 76 5 v'2_ l'3_.length (l'3_.flatMap LeaD.cells)])) w1 (hw.frameL [2, 1] rfl hO)
  refine zD rfl (zA ?_)
  exact zM (z6 (v := v'2_) rfl rfl (fun w' hw => ⟨v'2_, l'3_, rfl, hf3_5, hf3_5_1, hw.sel [0, 2, 3] rfl (by decide)⟩))
theorem zHD {S : List Nat} (b bm lm : Nat) (now : Int) (cnt : Nat) (kb : List (ByteArray × Int)) (w : World) (hl : kb.length ≤ 1000000) (hin : Own w S [Res.row b 111 [.map (some bm), .map (some lm), Vi now, Vn cnt], Res.mp Value.string yD bm kb] w) : Rets Tryz.prog 49 #[.pointer (some ⟨b, 0, none⟩)] w fun u_ w' => ∃ (v : Value) (l : List BudD) (ks : List ByteArray), u_ = v ∧ ks.Perm (kb.map (·.1)) ∧ ks.Pairwise (fun x y => x3 x y) ∧ l = ks.map (fun k => (⟨k, (zu k kb).getD 0⟩ : BudD)) ∧ Own w S [Res.row b 111 [.map (some bm), .map (some lm), Vi now, Vn cnt], Res.mp Value.string yD bm kb, Res.vec 93 2 v l.length (l.flatMap BudD.cells)] w' := by
  refine zW Tryz.func49 rfl Tryz.ntmps49 hin ?_
  refine zB (zD rfl (zA (zL (zB (zC rfl (xE (by kernel_rfl) rfl rfl rfl (zA (xQ rfl (zK (zB (zD rfl (zA ?_))))))))))))
  refine zL (zB (zC rfl (zm rfl rfl (zP (o := 0) rfl rfl (zS 0 (v := .map (some bm)) rfl rfl rfl rfl (zJ rfl rfl (fun w' hw => (zKU bm kb w' (hw.give [1] rfl (by decide))).mono ?_)))))))
  rintro _ w1 ⟨b1_, rfl, hO⟩
  refine (?_ : CL _ _ _ _ _ _ (Own w S [Res.row b 111 [.map (some bm), .map (some lm), Vi now, Vn cnt], Res.mp Value.string yD bm kb, Res.row b1_ 108 [.map (some bm)]])) w1 (hw.frameL [1] rfl hO)
  refine zJ rfl rfl (fun w' hw => (zHX b1_ bm kb w' (by first | omega | (simp <;> omega)) (hw.give [2, 1] rfl (by decide))).mono ?_)
  rintro v'2_ w1 ⟨_, l'3_, rfl, hf4_5, hf4_5_1, hO⟩
  refine (?_ : CL _ _ _ _ _ _ (Own w S [Res.row b 111 [.map (some bm), .map (some lm), Vi now, Vn cnt], Res.row b1_ 108 [.map (some bm)], Res.mp Value.string yD bm kb, Res.vec 9 1 v'2_ l'3_.length (l'3_.flatMap S1)])) w1 (hw.frameL [2, 1] rfl hO)
  refine yC (pV 3 rfl) rfl rfl (zC rfl (zA (zT ?_)))
  refine xS (fun (i : Nat) (v : Value) (l : List BudD) => [(0, .pointer (some ⟨b, 0, none⟩)), (3, v), (13, v'2_), (14, Vj l'3_.length), (15, Vj i)]) (fun (i : Nat) (v : Value) (l : List BudD) => i ≤ l'3_.length ∧ l = (l'3_.take i).map (fun k => (⟨k, (zu k kb).getD 0⟩ : BudD))) (fun (i : Nat) (v : Value) (l : List BudD) => [Res.row b 111 [.map (some bm), .map (some lm), Vi now, Vn cnt], Res.row b1_ 108 [.map (some bm)], Res.mp Value.string yD bm kb, Res.vec 9 1 v'2_ l'3_.length (l'3_.flatMap S1), Res.vec 93 2 v l.length (l.flatMap BudD.cells)]) (fun (i : Nat) (v : Value) (l : List BudD) => l'3_.length - i) (fun w' hw => ⟨0, .slice none 0 0, [], ⟨rfl, rfl, rfl, rfl, rfl, trivial⟩, ⟨Nat.zero_le _, rfl⟩, (yK hw 93 2)⟩) (fun i v l g hΦ => ?_)
  have hi := hΦ.1
  have hlI := hΦ.2
  have hkl : l'3_.length = kb.length := by rw [hf4_5.length_eq, List.length_map]
  have hll : l.length ≤ 1000000 := by rw [hlI, List.length_map, List.length_take]; omega
  refine zB (yI rfl rfl rfl (zA (zL (zU rfl (fun c2 => ?_) (fun c2 => ?_)))))
  ·
   refine zK (zL (zT (zB (zH (pV 3 rfl) 1 i rfl rfl rfl (by omega) rfl (zV (pV 3 rfl) 1 i 0 (fun _ => rfl) rfl rfl (by omega) rfl rfl (zD rfl (zA (zd (zC rfl (zC rfl (zC rfl (zm rfl rfl ?_))))))))))))
   refine zP (o := 0) rfl rfl (zS 0 (v := .map (some bm)) rfl rfl rfl rfl (zC rfl (zKv (k := (zI l'3_ i)) (kv := kb) (zv := 0) zCC zBX zC1 rfl rfl (fun w' hw' => Own.holds hw' 2 _ rfl) rfl (yQ (cs := [.string (zI l'3_ i), Vi ((zu (zI l'3_ i) kb).getD 0)]) (z := [.string (⟨#[]⟩ : ByteArray), Vi 0]) (pl := [(0, 1), (1, 1)]) (by kernel_rfl) (by kernel_rfl) rfl (yj (e := 93) (sz := 2) (vs := [.agg #[.string (zI l'3_ i), Vi ((zu (zI l'3_ i) kb).getD 0)]]) (by kernel_rfl) rfl rfl (by simp [Value.cells, BudD.cells]) (by decide) rfl (fun b28 => yu (g := BudD.cells) (sz := 2) (by' := 24) (fun _ => rfl) (l := l) (l' := [({ key := (zI l'3_ i), amount := ((zu (zI l'3_ i) kb).getD 0) } : BudD)]) (by simp [cell1, BudD.cells, vu]) 4 (by kernel_rfl) rfl rfl rfl (fun w' hw' => Vec.sl (Own.holds hw' 5 _ rfl)) (by first | omega | (simp; omega)) (by decide) rfl (fun v29 => zD rfl (zA (zd (zt rfl rfl (zr (by omega)) rfl (zC rfl ?_)))))))))))
   exact zj (fun w' hw => ⟨i + 1, v29, l ++ [⟨zI l'3_ i, (zu (zI l'3_ i) kb).getD 0⟩], ⟨rfl, rfl, rfl, rfl, rfl, trivial⟩, ⟨by omega, by rw [hlI, yB (by omega), List.map_append]; rfl⟩, hw.sel [0, 1, 2, 3, 4] rfl (by decide), (by omega)⟩)
  ·
   refine yG rfl (zB (zC rfl (zD rfl (zA ?_))))
   exact zM (z6 (v := v) rfl rfl (fun w' hw => ⟨v, l, l'3_, rfl, hf4_5, hf4_5_1, (by rw [hlI, List.take_of_length_le (by omega)]), hw.sel [0, 2, 4] rfl (by decide)⟩))
theorem zGV {now : Int} {cnt : Nat} {bs : List BudD} {ls l : List LeaD} {kb : List (ByteArray × Int)} {kl : List (Nat × LeaD)} (h : QOk now cnt bs ls) (r : QRel kb kl bs ls) (h1 : l.Perm (kl.map (·.2))) (h2 : l.Pairwise fun x y => x3 x y) : l = ls := by
  have hp : l.Perm ls := h1.trans ((r.l.map _).trans (by rw [zH6]))
  refine hp.eq_of_pairwise (fun a b ha hb h3 h4 => ?_) h2 ((List.pairwise_map.1 h.lup).imp fun q => ?_)
  · have e1 : ¬ b.id < a.id := fun q => h3 (olt_lea.2 q)
    have e2 : ¬ a.id < b.id := fun q => h4 (olt_lea.2 q)
    exact h.uniq (hp.mem_iff.1 ha) hb (by omega)
  · exact fun k => by have := olt_lea.1 k; omega
theorem zEI (v : Value) (l : List LeaD) (u : Value) (m : List LeaD) (w : World) (hl : l.length ≤ 2000000) (hm : m.length ≤ 2000000) (hv : Rd w [] (Res.sl v l.length (l.flatMap LeaD.cells))) (hu : Rd w [] (Res.sl u m.length (m.flatMap LeaD.cells))) : Rets Tryz.prog 39 #[v, u] w fun u_ w' => u_ = .bool (decide (l = m)) ∧ Own w [] [] w' := by
  refine zW Tryz.func39 rfl Tryz.ntmps39 (Own.start w) ?_
  refine zB (zD rfl (zA (zL (zB (zD rfl (zA (zT ?_)))))))
  refine xG (fun (k : Nat) => [(0, v), (1, u), (5, Vj k)]) (fun (k : Nat) => (k ≤ l.length ∧ k ≤ m.length) ∧ l.take k = m.take k) (fun (k : Nat) => []) (fun (k : Nat) => l.length - k) (fun w' hw => ⟨0, ⟨rfl, rfl, rfl, trivial⟩, ⟨by omega, rfl⟩, hw⟩) (fun k g hΦ => ?_)
  have hk1 := hΦ.1
  have hk2 := hΦ.2
  refine zL (zB (zC rfl (zC rfl (yC (pR hv) rfl rfl (yI rfl rfl rfl (zC rfl (yP (q := ((k : Nat) : Int) < ((l.length : Nat) : Int)) 4 4 [14, 13, 12, 11] (((k : Nat) : Int) < ((m.length : Nat) : Int)) rfl rfl rfl rfl rfl rfl trivial rfl (fun h2_4 => ?_) (fun g2_9 => ?_))))))))
  ·
   refine zO rfl (gT h2_4) (zC rfl (zO rfl (gT h2_4) (zC rfl (zO rfl (gT h2_4) (yC (pR hu) rfl rfl (zO rfl (gT h2_4) (yI rfl rfl rfl ?_)))))))
   exact yL rfl (fun _ hw => hw)
  refine zA (zU rfl (fun c1 => ?_) (fun c1 => ?_))
  ·
   refine zK (zL (zT (xb (by kernel_rfl) (by kernel_rfl) (zf rfl (zQ) (zf rfl (zQ) (zf rfl (yR (pR hv) 5 k rfl rfl rfl (by omega)) (zf rfl (zHz (pR hv) 5 k (off := yn v + k * 5) (fun _ => rfl) rfl rfl (by omega)) (zf rfl (zQ) (zf rfl (zQ) (zf rfl (yR (pR hu) 5 k rfl rfl rfl (by omega)) (zf rfl (zHz (pR hu) 5 k (off := yn u + k * 5) (fun _ => rfl) rfl rfl (by omega)) (zf rfl (zKq (zLt (zI l k) (zI m k)) (by kernel_rfl) (by kernel_rfl) rfl rfl rfl rfl) ?_))))))))))))
   refine j9 (zU rfl (fun c2 => ?_) (fun c2 => ?_))
   ·
    refine zB (zD rfl (zA ?_))
    exact zM (z6 (v := .bool false) rfl rfl (fun w' hw => ⟨(by rw [decide_eq_false]; rintro rfl; exact c2 rfl), hw.drop⟩))
   ·
    refine zK (zd (zC rfl (zt rfl rfl (zr (by omega)) rfl (zD rfl ?_))))
    exact zj (fun w' hw => ⟨k + 1, ⟨rfl, rfl, rfl, trivial⟩, ⟨by omega, by rw [yB (by omega), yB (by omega), hk2, Decidable.not_not.1 c2]⟩, hw, (by omega)⟩)
  ·
   refine yG rfl (zB (zC rfl (yC (pR hv) rfl rfl (zC rfl (yC (pR hu) rfl rfl (yo rfl rfl rfl (zD rfl (zA ?_))))))))
   exact zM (z6 (v := .bool (decide (((l.length : Nat) : Int) = ((m.length : Nat) : Int)))) rfl rfl (fun w' hw => ⟨(by congr 1; exact decide_eq_decide.2 ⟨fun h => by have h2 := hk2; rw [List.take_of_length_le (by omega), List.take_of_length_le (by omega)] at h2; exact h2, fun h => by rw [h]⟩), hw.drop⟩))
end Go.Proofs.YthincafbmpialaaGreat
