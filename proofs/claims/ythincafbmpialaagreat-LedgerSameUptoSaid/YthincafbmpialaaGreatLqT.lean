import Derived.Test.YthincafbmpialaaGreatLqS
import Derived.Test.YthincafbmpialaaGreatQuotaP
set_option linter.unusedSectionVars false
set_option linter.unusedSimpArgs false
set_option linter.unusedVariables false
set_option maxRecDepth 10000
namespace Go.Proofs.YthincafbmpialaaGreat
open Go Go.Sc Go.Proofs
theorem zKJ {S : List Nat} (b bm lm : Nat) (now : Int) (cnt : Nat) (w : World) (hin : Own w S [Res.row b 111 [.map (some bm), .map (some lm), Vi now, Vn cnt]] w) : Rets Tryz.prog 48 #[.pointer (some ⟨b, 0, none⟩)] w fun u_ w' => u_ = Vn cnt ∧ Own w S [Res.row b 111 [.map (some bm), .map (some lm), Vi now, Vn cnt]] w' := by
  refine zb Tryz.func48 rfl Tryz.ntmps48 hin ?_
  refine zB (zD rfl (zA (zL (zB (zC rfl (yz (by kernel_rfl) rfl rfl rfl (zA (xO rfl (zM (zB (zC rfl (zr rfl rfl ?_))))))))))))
  refine zX (o := 3) rfl rfl (zY 0 (v := Vn cnt) rfl rfl rfl rfl (zD rfl (zA ?_)))
  exact zP (z8 (v := Vn cnt) rfl rfl (fun w' hw => ⟨rfl, hw⟩))
theorem zIW {S : List Nat} (b bm lm : Nat) (now : Int) (cnt : Nat) (kl : List (Nat × LeaD)) (w : World) (hl : kl.length ≤ 1000000) (hin : Own w S [Res.row b 111 [.map (some bm), .map (some lm), Vi now, Vn cnt], Res.mp zq zU lm kl] w) : Rets Tryz.prog 51 #[.pointer (some ⟨b, 0, none⟩)] w fun u_ w' => ∃ (v : Value) (l : List LeaD), u_ = v ∧ l.Perm (kl.map (·.2)) ∧ l.Pairwise (fun x y => xq x y) ∧ Own w S [Res.row b 111 [.map (some bm), .map (some lm), Vi now, Vn cnt], Res.mp zq zU lm kl, Res.vec 76 5 v l.length (l.flatMap LeaD.cells)] w' := by
  refine zb Tryz.func51 rfl Tryz.ntmps51 hin ?_
  refine zB (zD rfl (zA (zL (zB (zC rfl (yz (by kernel_rfl) rfl rfl rfl (zA (xO rfl (zM (zB (zC rfl (zr rfl rfl ?_))))))))))))
  refine zX (o := 1) rfl rfl (zY 0 (v := .map (some lm)) rfl rfl rfl rfl (zK rfl rfl (fun w' hw => (zI9 lm kl w' (hw.give [1] rfl (by decide))).mono ?_)))
  rintro _ w1 ⟨b1_, rfl, hO⟩
  refine (?_ : CL _ _ _ _ _ _ (Own w S [Res.row b 111 [.map (some bm), .map (some lm), Vi now, Vn cnt], Res.mp zq zU lm kl, Res.row b1_ 109 [.map (some lm)]])) w1 (hw.frameL [1] rfl hO)
  refine zK rfl rfl (fun w' hw => (zEx b1_ lm kl w' (by first | omega | (simp <;> omega)) (hw.give [2, 1] rfl (by decide))).mono ?_)
  rintro v'2_ w1 ⟨_, l'3_, rfl, hf3_5, hf3_5_1, hO⟩
  refine (?_ : CL _ _ _ _ _ _ (Own w S [Res.row b 111 [.map (some bm), .map (some lm), Vi now, Vn cnt], Res.row b1_ 109 [.map (some lm)], Res.mp zq zU lm kl, Res.vec 76 5 v'2_ l'3_.length (l'3_.flatMap LeaD.cells)])) w1 (hw.frameL [2, 1] rfl hO)
  refine zD rfl (zA ?_)
  exact zP (z8 (v := v'2_) rfl rfl (fun w' hw => ⟨v'2_, l'3_, rfl, hf3_5, hf3_5_1, hw.sel [0, 2, 3] rfl (by decide)⟩))
theorem zF7 {S : List Nat} (b bm lm : Nat) (now : Int) (cnt : Nat) (kb : List (ByteArray × Int)) (w : World) (hl : kb.length ≤ 1000000) (hin : Own w S [Res.row b 111 [.map (some bm), .map (some lm), Vi now, Vn cnt], Res.mp Value.string zw bm kb] w) : Rets Tryz.prog 49 #[.pointer (some ⟨b, 0, none⟩)] w fun u_ w' => ∃ (v : Value) (l : List BudD) (ks : List ByteArray), u_ = v ∧ ks.Perm (kb.map (·.1)) ∧ ks.Pairwise (fun x y => xq x y) ∧ l = ks.map (fun k => (⟨k, (zm k kb).getD 0⟩ : BudD)) ∧ Own w S [Res.row b 111 [.map (some bm), .map (some lm), Vi now, Vn cnt], Res.mp Value.string zw bm kb, Res.vec 93 2 v l.length (l.flatMap BudD.cells)] w' := by
  refine zb Tryz.func49 rfl Tryz.ntmps49 hin ?_
  refine zB (zD rfl (zA (zL (zB (zC rfl (yz (by kernel_rfl) rfl rfl rfl (zA (xO rfl (zM (zB (zD rfl (zA ?_))))))))))))
  refine zL (zB (zC rfl (zr rfl rfl (zX (o := 0) rfl rfl (zY 0 (v := .map (some bm)) rfl rfl rfl rfl (zK rfl rfl (fun w' hw => (zJf bm kb w' (hw.give [1] rfl (by decide))).mono ?_)))))))
  rintro _ w1 ⟨b1_, rfl, hO⟩
  refine (?_ : CL _ _ _ _ _ _ (Own w S [Res.row b 111 [.map (some bm), .map (some lm), Vi now, Vn cnt], Res.mp Value.string zw bm kb, Res.row b1_ 108 [.map (some bm)]])) w1 (hw.frameL [1] rfl hO)
  refine zK rfl rfl (fun w' hw => (zGS b1_ bm kb w' (by first | omega | (simp <;> omega)) (hw.give [2, 1] rfl (by decide))).mono ?_)
  rintro v'2_ w1 ⟨_, l'3_, rfl, hf4_5, hf4_5_1, hO⟩
  refine (?_ : CL _ _ _ _ _ _ (Own w S [Res.row b 111 [.map (some bm), .map (some lm), Vi now, Vn cnt], Res.row b1_ 108 [.map (some bm)], Res.mp Value.string zw bm kb, Res.vec 9 1 v'2_ l'3_.length (l'3_.flatMap S1)])) w1 (hw.frameL [2, 1] rfl hO)
  refine yO (pV 3 rfl) rfl rfl (zC rfl (zA (zQ ?_)))
  refine xI (fun (i : Nat) (v : Value) (l : List BudD) => [(0, .pointer (some ⟨b, 0, none⟩)), (3, v), (13, v'2_), (14, Vj l'3_.length), (15, Vj i)]) (fun (i : Nat) (v : Value) (l : List BudD) => i ≤ l'3_.length ∧ l = (l'3_.take i).map (fun k => (⟨k, (zm k kb).getD 0⟩ : BudD))) (fun (i : Nat) (v : Value) (l : List BudD) => [Res.row b 111 [.map (some bm), .map (some lm), Vi now, Vn cnt], Res.row b1_ 108 [.map (some bm)], Res.mp Value.string zw bm kb, Res.vec 9 1 v'2_ l'3_.length (l'3_.flatMap S1), Res.vec 93 2 v l.length (l.flatMap BudD.cells)]) (fun (i : Nat) (v : Value) (l : List BudD) => l'3_.length - i) (fun w' hw => ⟨0, .slice none 0 0, [], ⟨rfl, rfl, rfl, rfl, rfl, trivial⟩, ⟨Nat.zero_le _, rfl⟩, (yQ hw 93 2)⟩) (fun i v l g hΦ => ?_)
  have hi := hΦ.1
  have hlI := hΦ.2
  have hkl : l'3_.length = kb.length := by rw [hf4_5.length_eq, List.length_map]
  have hll : l.length ≤ 1000000 := by rw [hlI, List.length_map, List.length_take]; omega
  refine zB (yZ rfl rfl rfl (zA (zL (zZ rfl (fun c2 => ?_) (fun c2 => ?_)))))
  ·
   refine zM (zL (zQ (zB (zH (pV 3 rfl) 1 i rfl rfl rfl (by omega) rfl (zR (pV 3 rfl) 1 i 0 (fun _ => rfl) rfl rfl (by omega) rfl rfl (zD rfl (zA (zj (zC rfl (zC rfl (zC rfl (zr rfl rfl ?_))))))))))))
   refine zX (o := 0) rfl rfl (zY 0 (v := .map (some bm)) rfl rfl rfl rfl (zC rfl (zJs (k := (zI l'3_ i)) (kv := kb) (zv := 0) zDu zB3 zEL rfl rfl (fun w' hw' => Own.holds hw' 2 _ rfl) rfl (yn (cs := [.string (zI l'3_ i), Vi ((zm (zI l'3_ i) kb).getD 0)]) (z := [.string (⟨#[]⟩ : ByteArray), Vi 0]) (pl := [(0, 1), (1, 1)]) (by kernel_rfl) (by kernel_rfl) rfl (xF (e := 93) (sz := 2) (vs := [.agg #[.string (zI l'3_ i), Vi ((zm (zI l'3_ i) kb).getD 0)]]) (by kernel_rfl) rfl rfl (by simp [Value.cells, BudD.cells]) (by decide) rfl (fun b28 => x2 (g := BudD.cells) (sz := 2) (by' := 24) (fun _ => rfl) (l := l) (l' := [({ key := (zI l'3_ i), amount := ((zm (zI l'3_ i) kb).getD 0) } : BudD)]) (by simp [cell1, BudD.cells, vu]) 4 (by kernel_rfl) rfl rfl rfl (fun w' hw' => Vec.sl (Own.holds hw' 5 _ rfl)) (by first | omega | (simp; omega)) (by decide) rfl (fun v29 => zD rfl (zA (zj (z6 rfl rfl (zz (by omega)) rfl (zC rfl ?_)))))))))))
   exact zf (fun w' hw => ⟨i + 1, v29, l ++ [⟨zI l'3_ i, (zm (zI l'3_ i) kb).getD 0⟩], ⟨rfl, rfl, rfl, rfl, rfl, trivial⟩, ⟨by omega, by rw [hlI, yD (by omega), List.map_append]; rfl⟩, hw.sel [0, 1, 2, 3, 4] rfl (by decide), (by omega)⟩)
  ·
   refine yK rfl (zB (zC rfl (zD rfl (zA ?_))))
   exact zP (z8 (v := v) rfl rfl (fun w' hw => ⟨v, l, l'3_, rfl, hf4_5, hf4_5_1, (by rw [hlI, List.take_of_length_le (by omega)]), hw.sel [0, 2, 4] rfl (by decide)⟩))
theorem zJQ {now : Int} {cnt : Nat} {bs : List BudD} {ls l : List LeaD} {kb : List (ByteArray × Int)} {kl : List (Nat × LeaD)} (h : QOk now cnt bs ls) (r : QRel kb kl bs ls) (h1 : l.Perm (kl.map (·.2))) (h2 : l.Pairwise fun x y => xq x y) : l = ls := by
  have hp : l.Perm ls := h1.trans ((r.l.map _).trans (by rw [zHV]))
  refine hp.eq_of_pairwise (fun a b ha hb h3 h4 => ?_) h2 ((List.pairwise_map.1 h.lup).imp fun q => ?_)
  · have e1 : ¬ b.id < a.id := fun q => h3 (olt_lea.2 q)
    have e2 : ¬ a.id < b.id := fun q => h4 (olt_lea.2 q)
    exact h.uniq (hp.mem_iff.1 ha) hb (by omega)
  · exact fun k => by have := olt_lea.1 k; omega
end Go.Proofs.YthincafbmpialaaGreat
