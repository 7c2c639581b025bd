import Derived.Test.YthincafbmpialaaGreatLedRt
import Derived.Test.YthincafbmpialaaGreatFwY
import Derived.Test.YthincafbmpialaaGreatShS
import Derived.Test.YthincafbmpialaaGreatShF
import Derived.Lib.Walk
import Derived.Test.YthincafbmpialaaGreatQuotaW
set_option linter.unusedSectionVars false
set_option linter.unusedSimpArgs false
set_option linter.unusedVariables false
set_option maxRecDepth 10000
namespace Go.Proofs.YthincafbmpialaaGreat
open Go Go.Sc Go.Proofs Go.Shelf Go.Lib Go.Sort
theorem zNY (x : Nat) (w : World) : Calls Tryz.prog 120 #[.int .u64 (x : Nat)] w fun e w' => e = .returned (.bool false) ∧ w' = w := by
  go_enter Tryz.func120, Tryz.ntmps120
  go_wp2
  go_ret
  exact ⟨by simp, rfl⟩
theorem zNV (x y : Nat) (w : World) : Calls Tryz.prog 88 #[.int .u64 (x : Nat), .int .u64 (y : Nat)] w fun e w' => e = .returned (.int .i64 (zDj x y)) ∧ w' = w := by
  go_enter Tryz.func88, Tryz.ntmps88
  go_wp2_with (go_at_call 120; refine (zNY _ _).mono ?_; rintro e w' ⟨rfl, hw⟩; rw [hw])
  all_goals (go_ret; refine ⟨?_, rfl⟩; unfold zDj; (repeat' split) <;> first | rfl | (exfalso; omega))
theorem zNX (x y : LeaD) (w : World) : Calls Tryz.prog 87 #[.agg (LeaD.cells x).toArray, .agg (LeaD.cells y).toArray] w fun e w' => e = .returned (.int .i64 (zG0 x y)) ∧ ∃ q os', w' = grow (w.drewN q) os' := by
  have hcon := fun W' => zNV x.id y.id W'
  show Calls _ _ _ _ fun e w' => e = .returned (.int .i64 (zDj x.id y.id)) ∧ _
  generalize zDj x.id y.id = r at hcon ⊢
  simp only [LeaD.cells, List.toArray]
  go_enter Tryz.func87, Tryz.ntmps87
  go_wp2_with (go_at_call 88; refine (hcon _).mono ?_; rintro e w' ⟨rfl, rfl⟩)
  go_ret
  exact ⟨rfl, 0, _, by rw [alloc_eq_grow, alloc_eq_grow, grow_grow]; rfl⟩
theorem zLT (v : Value) (l : List ByteArray) (w : World) (hl : zb l.length) (hin : Own w (xZ [Res.vec 9 1 v l.length (l.flatMap S1)]) [Res.vec 9 1 v l.length (l.flatMap S1)] w) : Rets Tryz.prog 115 #[v] w fun u_ w' => ∃ (l' : List ByteArray), u_ = .tuple #[] ∧ l'.Perm l ∧ l'.Pairwise (fun x y => x3 x y) ∧ Own w (xZ [Res.vec 9 1 v l.length (l.flatMap S1)]) [Res.vec 9 1 v l'.length (l'.flatMap S1)] w' := by
  exact zG1 Tryz.sortS rfl v l w hl hin
theorem zMB (v : Value) (l : List LeaD) (w : World) (hl : zb l.length) (hin : Own w (xZ [Res.vec 76 5 v l.length (l.flatMap LeaD.cells)]) [Res.vec 76 5 v l.length (l.flatMap LeaD.cells)] w) : Rets Tryz.prog 118 #[v, .func (.func 87) #[] #[]] w fun u_ w' => ∃ (l' : List LeaD), u_ = .tuple #[] ∧ l'.Perm l ∧ l'.Pairwise (fun x y => x3 x y) ∧ Own w (xZ [Res.vec 76 5 v l.length (l.flatMap LeaD.cells)]) [Res.vec 76 5 v l'.length (l'.flatMap LeaD.cells)] w' := by
  exact zGm Tryz.sortF rfl LeaD.cells 5 Tryz.isAgg76 Tryz.sizeOf76 (fun _ => rfl) (fun x v hv => by simp [LeaD.cells] at hv; rcases hv with rfl | rfl | rfl | rfl | rfl <;> rfl) zG0 (fun _ _ => Iff.rfl) 87 (enters_of Tryz.func87 (by kernel_rfl) rfl) zNX v l w hl hin
theorem zCf {κ α β : Type} {g : κ × α → β} {kl todo q1 q2 : List (κ × α)} {xs : List β} {p : κ × α} (h : (xs ++ todo.map g).Perm (kl.map g)) (hq : todo = q1 ++ p :: q2) : ((xs ++ [g p]) ++ (q1 ++ q2).map g).Perm (kl.map g) := by
  refine List.Perm.trans ?_ h
  rw [hq, List.append_assoc]
  refine List.Perm.append_left _ ?_
  rw [List.map_append, List.map_append, List.map_cons]
  exact (List.perm_middle (l₁ := q1.map g) (l₂ := q2.map g) (a := g p)).symm
theorem zEa {κ α β : Type} {g : κ × α → β} {kl todo q1 q2 : List (κ × α)} {xs : List β} {p : κ × α} (h : (xs ++ todo.map g).Perm (kl.map g)) (hq : todo = q1 ++ p :: q2) : xs.length < kl.length := by
  have := h.length_eq
  rw [hq] at this
  simp at this; omega
theorem zIo (sb m : Nat) (kb : List (ByteArray × Int)) : zFO Tryz.prog 116 [.pointer (some ⟨sb, 0, none⟩)] (fun x : ByteArray => Value.string x) (fun xs => xs.Perm (kb.map (·.1))) kb.length [Res.row sb 108 [.map (some m)], Res.mp Value.string yD m kb] := by
  intro ly J L0 w Y hJ hin
  refine xf (args := [.func (.yield ly) #[] #[], .pointer (some ⟨sb, 0, none⟩)]) Tryz.func116 rfl Tryz.ntmps116 rfl (show Own w (xZ ([Res.row sb 108 [.map (some m)], Res.mp Value.string yD m kb] ++ L0)) (Res.row sb 108 [.map (some m)] :: Res.mp Value.string yD m kb :: L0) w from hin) ?_
  refine zB (zS 0 (v := .map (some m)) rfl rfl rfl rfl (zAD 1 zBX rfl rfl rfl (fun r5 => zA (zT ?_))))
  refine xS (fun (todo : List (ByteArray × Int)) (xs : List ByteArray) (Lr : List Res) => [(0, .func (.yield ly) #[] #[]), (5, .pointer (some ⟨r5, 0, none⟩))]) (fun (todo : List (ByteArray × Int)) (xs : List ByteArray) (Lr : List Res) => (xs ++ todo.map (·.1)).Perm (kb.map (·.1)) ∧ J xs Lr) (fun (todo : List (ByteArray × Int)) (xs : List ByteArray) (Lr : List Res) => (Res.row sb 108 [.map (some m)] :: Res.rg Value.string yD m r5 kb todo :: Lr)) (fun (todo : List (ByteArray × Int)) (xs : List ByteArray) (Lr : List Res) => todo.length) (fun w' hw => ⟨kb, [], L0, ⟨rfl, rfl, trivial⟩, ⟨.refl _, hJ⟩, hw⟩) (fun todo xs Lr g hΦ => ?_)
  have hxp := hΦ.1
  have hJx := hΦ.2
  refine zB (zBC 1 rfl rfl rfl (fun hq0 => ?_) (fun q1 k v q2 hq1 => ?_))
  ·
   refine zp (vs := [.bool false]) rfl rfl rfl (zA (zL (xQ rfl ?_)))
   exact xA rfl (jq rfl (fun w' hw => ⟨xs, Lr, (by rw [hq0] at hxp; simpa using hxp), hJx, (Own.rgEnd 1 hw rfl)⟩))
  ·
   refine zp (vs := [.bool true, .string k, Vi v]) rfl rfl rfl (zA (zL (jz rfl (zK (zT (zB (zAP 1 rfl rfl rfl (zp (vs := [.string k, Vi v]) rfl rfl rfl (zD rfl (zA (zDv ?_)))))))))))
   refine kz rfl (zQ) ?_
   refine kz rfl (zQ) ?_
   refine zDy [Res.row sb 108 [.map (some m)], Res.rg Value.string yD m r5 kb (q1 ++ q2)] k Y rfl rfl hJx (zEa hxp hq1) rfl (fun Ly1_ hJLy1_ => ?_)
   refine kz rfl (zFQ (b := true) rfl) ?_
   refine zHf ?_
   refine xQ rfl ?_
   exact xj (fun w' hw => ⟨q1 ++ q2, xs ++ [k], Ly1_, ⟨rfl, rfl, trivial⟩, ⟨zCf hxp hq1, hJLy1_⟩, hw, (by rw [hq1, List.length_append, List.length_append, List.length_cons]; omega)⟩)
theorem zKU {S : List Nat} (m : Nat) (kb : List (ByteArray × Int)) (w : World) (hin : Own w S [Res.mp Value.string yD m kb] w) : Rets Tryz.prog 84 #[.map (some m)] w fun u_ w' => ∃ (b : Nat), u_ = .func (.func 116) #[] #[.pointer (some ⟨b, 0, none⟩)] ∧ Own w S [Res.mp Value.string yD m kb, Res.row b 108 [.map (some m)]] w' := by
  refine zW Tryz.func84 rfl Tryz.ntmps84 hin ?_
  refine zB (yc rfl rfl (fun b1 => zD rfl (zA (zB (zIE (va := []) (vb := [.pointer (some ⟨b1, 0, none⟩)]) rfl rfl rfl (zD rfl (zA ?_)))))))
  exact zM (z6 (v := .func (.func 116) #[] #[.pointer (some ⟨b1, 0, none⟩)]) rfl rfl (fun w' hw => ⟨b1, rfl, hw⟩))
theorem zJa {Sx : List ByteArray → Prop} {N : Nat} {Ls : List Res} (sg : FuncId) (lb : List Value) (hcall : x4 Tryz.prog sg = true) (hseq : zFO Tryz.prog sg lb (fun x => .string x) Sx N Ls) (hN : N ≤ 1000000000) (w : World) (hin : Own w (xZ Ls) Ls w) : Rets Tryz.prog 134 #[.slice none 0 0, .func (.func sg) #[] lb.toArray] w fun u_ w' => ∃ (v : Value) (xs : List ByteArray), u_ = v ∧ Sx xs ∧ Own w (xZ Ls) (Ls ++ [Res.vec 9 1 v xs.length (xs.flatMap S1)]) w' := by
  refine zBa (args := [.slice none 0 0, .func (.func sg) #[] lb.toArray]) Tryz.func134 rfl Tryz.ntmps134 rfl rfl rfl (show Own w (xZ Ls) Ls w from hin) ?_
  refine yc rfl rfl (fun b => ?_)
  refine zD rfl ?_
  refine zj (fun w1 hw => ?_)
  refine (?_ : CL _ _ _ _ _ _ (Own w (xZ Ls) (Ls ++ [Res.row b 83 [.slice none 0 0]]))) w1 hw
  refine zC rfl ?_
  refine zj (fun w2 hw => ?_)
  have hw2 := yK hw 9 1
  rw [List.append_assoc] at hw2
  refine zGS (enc := (fun x => .string x)) (p := 7) (q := 5) (Ju := fun pre L => ∃ v, L = [Res.row b 83 [v], Res.vec 9 1 v pre.length (pre.flatMap S1)]) rfl hcall hseq ⟨.slice none 0 0, rfl⟩ hw2 rfl rfl rfl ?_ ?_ ?_
  · intro x w
    exact (zD rfl (zj (fun w' hw' => ⟨rfl, hw'⟩)) : CL _ _ _ _ _ _ (fun w' => w' = w)) w rfl
  · rintro pre x L w ⟨v, rfl⟩ hlen
    refine zS 0 (v := v) rfl rfl rfl rfl ?_
    refine zC rfl ?_
    refine yj (e := 9) (sz := 1) (vs := [.string x]) (by kernel_rfl) rfl rfl (by simp [Value.cells]) (by decide) rfl (fun b10 => ?_)
    refine yu (g := S1) (sz := 1) (by' := 16) (fun _ => rfl) (l := pre) (l' := [x]) (by simp [cell1, S1]) 1 (by kernel_rfl) rfl rfl rfl (fun w' hw' => Vec.sl (Own.holds hw' 2 _ rfl)) (by first | omega | (simp; omega)) (by decide) rfl (fun v11 => ?_)
    refine yS (fun w' hw => Own.cell1Vec (i := 1) rfl hw) (fun hc1_ => ?_)
    refine yi (cs := [v]) 0 rfl rfl rfl hc1_ rfl ?_
    exact zj (fun w' hw => ⟨_, ⟨_, rfl⟩, hw.sel [0, 1] rfl (by decide)⟩)
  · rintro xs L' D w' hS ⟨v, rfl⟩ hO a ha
    have hO2 := hO.perm (List.Perm.cons _ (List.perm_append_comm))
    refine zF0 (v := v) rfl ?_ hO2 (fun w'' hO3 => ⟨v, xs, rfl, hS, ?_⟩) a ha
    · exact kz rfl (zGR 1 (v := v) rfl rfl rfl (by kernel_rfl)) (kz rfl yx (zIl (fun w' hw => ⟨rfl, hw⟩)))
    · exact (Own.tail hO3).perm (List.perm_append_comm (l₁ := [_]))
theorem zFz {S : List Nat} (b m : Nat) (kb : List (ByteArray × Int)) (w : World) (hl : kb.length ≤ 1000000000) (hin : Own w S [Res.row b 108 [.map (some m)], Res.mp Value.string yD m kb] w) : Rets Tryz.prog 114 #[.func (.func 116) #[] #[.pointer (some ⟨b, 0, none⟩)]] w fun u_ w' => ∃ (v' : Value) (l' : List ByteArray), u_ = v' ∧ l'.Perm (kb.map (·.1)) ∧ Own w S [Res.row b 108 [.map (some m)], Res.mp Value.string yD m kb, Res.vec 9 1 v' l'.length (l'.flatMap S1)] w' := by
  refine zW Tryz.func114 rfl Tryz.ntmps114 hin ?_
  refine zB (zD rfl (zA (zB (zC rfl (zJ rfl rfl (fun w' hw => (zJa 116 [.pointer (some ⟨b, 0, none⟩)] (by kernel_rfl) (zIo b m kb) (by omega) w' (hw.give [0, 1] rfl (by decide))).mono ?_))))))
  rintro v1_ w1 ⟨_, xs2_, rfl, hf1_1, hO⟩
  refine (?_ : CL _ _ _ _ _ _ (Own w S [Res.row b 108 [.map (some m)], Res.mp Value.string yD m kb, Res.vec 9 1 v1_ xs2_.length (xs2_.flatMap S1)])) w1 (hw.frameL [0, 1] rfl hO)
  refine zD rfl (zA ?_)
  exact zM (z6 (v := v1_) rfl rfl (fun w' hw => ⟨v1_, xs2_, rfl, hf1_1, hw⟩))
theorem zHX {S : List Nat} (b m : Nat) (kb : List (ByteArray × Int)) (w : World) (hl : kb.length ≤ 1000000000) (hin : Own w S [Res.row b 108 [.map (some m)], Res.mp Value.string yD m kb] w) : Rets Tryz.prog 83 #[.func (.func 116) #[] #[.pointer (some ⟨b, 0, none⟩)]] w fun u_ w' => ∃ (v' : Value) (l' : List ByteArray), u_ = v' ∧ l'.Perm (kb.map (·.1)) ∧ l'.Pairwise (fun x y => x3 x y) ∧ Own w S [Res.row b 108 [.map (some m)], Res.mp Value.string yD m kb, Res.vec 9 1 v' l'.length (l'.flatMap S1)] w' := by
  refine zW Tryz.func83 rfl Tryz.ntmps83 hin ?_
  refine zB (zD rfl (zA (zB (zC rfl (zJ rfl rfl (fun w' hw => (zFz b m kb w' (by first | omega | (simp <;> omega)) (hw.give [0, 1] rfl (by decide))).mono ?_))))))
  rintro v'1_ w1 ⟨_, l'2_, rfl, hf1_1, hO⟩
  have hl1 : l'2_.length ≤ 1000000000 := by rw [hf1_1.length_eq, List.length_map]; exact hl
  refine (?_ : CL _ _ _ _ _ _ (Own w S [Res.row b 108 [.map (some m)], Res.mp Value.string yD m kb, Res.vec 9 1 v'1_ l'2_.length (l'2_.flatMap S1)])) w1 (hw.frameL [0, 1] rfl hO)
  refine zD rfl (zA (zB (zC rfl (zJ rfl rfl (fun w' hw => (zLT v'1_ l'2_ w' (by first | assumption | omega | (simp <;> omega) | (constructor <;> (first | omega | (simp only [zb]; omega) | (simp <;> omega)))) (hw.give [2] rfl (by decide))).mono ?_)))))
  rintro _ w1 ⟨l'3_, rfl, hf2_1, hf2_1_1, hO⟩
  refine (?_ : CL _ _ _ _ _ _ (Own w S [Res.row b 108 [.map (some m)], Res.mp Value.string yD m kb, Res.vec 9 1 v'1_ l'3_.length (l'3_.flatMap S1)])) w1 (hw.frameL [2] rfl hO)
  refine zA (zB (zC rfl (zD rfl (zA ?_))))
  exact zM (z6 (v := v'1_) rfl rfl (fun w' hw => ⟨v'1_, l'3_, rfl, hf2_1.trans hf1_1, hf2_1_1, hw⟩))
theorem zIU (sb m : Nat) (kl : List (Nat × LeaD)) : zFO Tryz.prog 119 [.pointer (some ⟨sb, 0, none⟩)] zZ (fun xs => xs.Perm (kl.map (·.2))) kl.length [Res.row sb 109 [.map (some m)], Res.mp yA zZ m kl] := by
  intro ly J L0 w Y hJ hin
  refine xf (args := [.func (.yield ly) #[] #[], .pointer (some ⟨sb, 0, none⟩)]) Tryz.func119 rfl Tryz.ntmps119 rfl (show Own w (xZ ([Res.row sb 109 [.map (some m)], Res.mp yA zZ m kl] ++ L0)) (Res.row sb 109 [.map (some m)] :: Res.mp yA zZ m kl :: L0) w from hin) ?_
  refine zB (zS 0 (v := .map (some m)) rfl rfl rfl rfl (zAD 1 zBu rfl rfl rfl (fun r6 => zA (zT ?_))))
  refine xS (fun (todo : List (Nat × LeaD)) (xs : List LeaD) (Lr : List Res) => [(0, .func (.yield ly) #[] #[]), (6, .pointer (some ⟨r6, 0, none⟩))]) (fun (todo : List (Nat × LeaD)) (xs : List LeaD) (Lr : List Res) => (xs ++ todo.map (·.2)).Perm (kl.map (·.2)) ∧ J xs Lr) (fun (todo : List (Nat × LeaD)) (xs : List LeaD) (Lr : List Res) => (Res.row sb 109 [.map (some m)] :: Res.rg yA zZ m r6 kl todo :: Lr)) (fun (todo : List (Nat × LeaD)) (xs : List LeaD) (Lr : List Res) => todo.length) (fun w' hw => ⟨kl, [], L0, ⟨rfl, rfl, trivial⟩, ⟨.refl _, hJ⟩, hw⟩) (fun todo xs Lr g hΦ => ?_)
  have hxp := hΦ.1
  have hJx := hΦ.2
  refine zB (zBC 1 rfl rfl rfl (fun hq0 => ?_) (fun q1 k v q2 hq1 => ?_))
  ·
   refine zp (vs := [.bool false]) rfl rfl rfl (zA (zL (xQ rfl ?_)))
   exact xA rfl (jq rfl (fun w' hw => ⟨xs, Lr, (by rw [hq0] at hxp; simpa using hxp), hJx, (Own.rgEnd 1 hw rfl)⟩))
  ·
   refine zp (vs := [.bool true, Vn k, .agg (LeaD.cells v).toArray]) rfl rfl rfl (zA (zL (jz rfl (zK (zT (zB (zAP 1 rfl rfl rfl (zp (vs := [Vn k, .agg (LeaD.cells v).toArray]) rfl rfl rfl (yF (v := .agg #[Vn 0, Vn 0, .string (⟨#[]⟩ : ByteArray), Vi 0, Vi 0]) (by kernel_rfl) rfl (fun b4 => ?_))))))))))
   refine zBM (Res.row sb 109 [.map (some m)] :: Res.rg yA zZ m r6 kl (q1 ++ q2) :: Res.row b4 76 [Vn 0, Vn 0, .string (⟨#[]⟩ : ByteArray), Vi 0, Vi 0] :: Lr) (fun w' hw => Own.inTail [_, _] hw) ?_
   refine zh 2 rfl rfl rfl (z8 rfl) rfl (zA (zDv ?_))
   refine kz rfl (zQ) ?_
   refine kz rfl (kI (cs := (LeaD.cells v)) 2 rfl rfl) ?_
   refine zDy [Res.row sb 109 [.map (some m)], Res.rg yA zZ m r6 kl (q1 ++ q2), Res.row b4 76 (LeaD.cells v)] v Y rfl rfl hJx (zEa hxp hq1) rfl (fun Ly1_ hJLy1_ => ?_)
   refine kz rfl (zFQ (b := true) rfl) ?_
   refine zHf ?_
   refine xQ rfl ?_
   exact xj (fun w' hw => ⟨q1 ++ q2, xs ++ [v], Ly1_, ⟨rfl, rfl, trivial⟩, ⟨zCf hxp hq1, hJLy1_⟩, (Own.dropAt [_, _] hw), (by rw [hq1, List.length_append, List.length_append, List.length_cons]; omega)⟩)
theorem zJg {S : List Nat} (m : Nat) (kl : List (Nat × LeaD)) (w : World) (hin : Own w S [Res.mp yA zZ m kl] w) : Rets Tryz.prog 86 #[.map (some m)] w fun u_ w' => ∃ (b : Nat), u_ = .func (.func 119) #[] #[.pointer (some ⟨b, 0, none⟩)] ∧ Own w S [Res.mp yA zZ m kl, Res.row b 109 [.map (some m)]] w' := by
  refine zW Tryz.func86 rfl Tryz.ntmps86 hin ?_
  refine zB (yc rfl rfl (fun b1 => zD rfl (zA (zB (zIE (va := []) (vb := [.pointer (some ⟨b1, 0, none⟩)]) rfl rfl rfl (zD rfl (zA ?_)))))))
  exact zM (z6 (v := .func (.func 119) #[] #[.pointer (some ⟨b1, 0, none⟩)]) rfl rfl (fun w' hw => ⟨b1, rfl, hw⟩))
theorem zHb {Sx : List LeaD → Prop} {N : Nat} {Ls : List Res} (sg : FuncId) (lb : List Value) (hcall : x4 Tryz.prog sg = true) (hseq : zFO Tryz.prog sg lb (fun x => .agg (LeaD.cells x).toArray) Sx N Ls) (hN : N ≤ 1000000000) (w : World) (hin : Own w (xZ Ls) Ls w) : Rets Tryz.prog 136 #[.slice none 0 0, .func (.func sg) #[] lb.toArray] w fun u_ w' => ∃ (v : Value) (xs : List LeaD), u_ = v ∧ Sx xs ∧ Own w (xZ Ls) (Ls ++ [Res.vec 76 5 v xs.length (xs.flatMap LeaD.cells)]) w' := by
  refine zBa (args := [.slice none 0 0, .func (.func sg) #[] lb.toArray]) Tryz.func136 rfl Tryz.ntmps136 rfl rfl rfl (show Own w (xZ Ls) Ls w from hin) ?_
  refine yc rfl rfl (fun b => ?_)
  refine zD rfl ?_
  refine zj (fun w1 hw => ?_)
  refine (?_ : CL _ _ _ _ _ _ (Own w (xZ Ls) (Ls ++ [Res.row b 30 [.slice none 0 0]]))) w1 hw
  refine zC rfl ?_
  refine zj (fun w2 hw => ?_)
  have hw2 := yK hw 76 5
  rw [List.append_assoc] at hw2
  refine zIY (enc := (fun x => .agg (LeaD.cells x).toArray)) (p := 7) (Ju := fun pre L => ∃ v, L = [Res.row b 30 [v], Res.vec 76 5 v pre.length (pre.flatMap LeaD.cells)]) (Mid := fun pre x f' L => ∃ (v : Value) (b5 : Nat), f' = upd (upd (upd (upd (upd (ini [.slice none 0 0, .func (.func sg) #[] lb.toArray]) 2 (.pointer (some ⟨b, 0, none⟩))) 4 (.slice none 0 0)) 6 (.func (.func sg) #[] lb.toArray)) 7 ((fun x => .agg (LeaD.cells x).toArray) x)) 5 (.pointer (some ⟨b5, 0, none⟩)) ∧ L = [Res.row b 30 [v], Res.vec 76 5 v pre.length (pre.flatMap LeaD.cells), Res.row b5 76 (LeaD.cells x)]) rfl hcall hseq ⟨.slice none 0 0, rfl⟩ hw2 rfl rfl rfl ?_ ?_ ?_
  · rintro pre x L w ⟨v, rfl⟩ hlen
    refine yF (v := .agg #[Vn 0, Vn 0, .string (⟨#[]⟩ : ByteArray), Vi 0, Vi 0]) (by kernel_rfl) rfl (fun b5 => ?_)
    refine zh 2 rfl rfl rfl (z8 rfl) rfl ?_
    exact zj (fun w' hw => ⟨_, ⟨_, _, rfl, rfl⟩, hw⟩)
  · rintro pre x f' L w ⟨v, b5, rfl, rfl⟩ hlen
    refine zS 0 (v := v) rfl rfl rfl rfl ?_
    refine yN (cs := (LeaD.cells x)) 2 rfl rfl rfl ?_
    refine yj (e := 76) (sz := 5) (vs := [.agg (LeaD.cells x).toArray]) (by kernel_rfl) rfl rfl (by simp [Value.cells, LeaD.cells]) (by decide) rfl (fun b10 => ?_)
    refine yu (g := LeaD.cells) (sz := 5) (by' := 48) (fun _ => rfl) (l := pre) (l' := [x]) (by simp [cell1, LeaD.cells, vu]) 1 (by kernel_rfl) rfl rfl rfl (fun w' hw' => Vec.sl (Own.holds hw' 3 _ rfl)) (by first | omega | (simp; omega)) (by decide) rfl (fun v11 => ?_)
    refine yS (fun w' hw => Own.cell1Vec (i := 1) rfl hw) (fun hc1_ => ?_)
    refine yi (cs := [v]) 0 rfl rfl rfl hc1_ rfl ?_
    exact zj (fun w' hw => ⟨_, ⟨_, rfl⟩, hw.sel [0, 1] rfl (by decide)⟩)
  · rintro xs L' D w' hS ⟨v, rfl⟩ hO a ha
    have hO2 := hO.perm (List.Perm.cons _ (List.perm_append_comm))
    refine zF0 (v := v) rfl ?_ hO2 (fun w'' hO3 => ⟨v, xs, rfl, hS, ?_⟩) a ha
    · exact kz rfl (zGR 1 (v := v) rfl rfl rfl (by kernel_rfl)) (kz rfl yx (zIl (fun w' hw => ⟨rfl, hw⟩)))
    · exact (Own.tail hO3).perm (List.perm_append_comm (l₁ := [_]))
theorem zFg {S : List Nat} (b m : Nat) (kl : List (Nat × LeaD)) (w : World) (hl : kl.length ≤ 1000000000) (hin : Own w S [Res.row b 109 [.map (some m)], Res.mp yA zZ m kl] w) : Rets Tryz.prog 117 #[.func (.func 119) #[] #[.pointer (some ⟨b, 0, none⟩)]] w fun u_ w' => ∃ (v' : Value) (l' : List LeaD), u_ = v' ∧ l'.Perm (kl.map (·.2)) ∧ Own w S [Res.row b 109 [.map (some m)], Res.mp yA zZ m kl, Res.vec 76 5 v' l'.length (l'.flatMap LeaD.cells)] w' := by
  refine zW Tryz.func117 rfl Tryz.ntmps117 hin ?_
  refine zB (zD rfl (zA (zB (zC rfl (zJ rfl rfl (fun w' hw => (zHb 119 [.pointer (some ⟨b, 0, none⟩)] (by kernel_rfl) (zIU b m kl) (by omega) w' (hw.give [0, 1] rfl (by decide))).mono ?_))))))
  rintro v1_ w1 ⟨_, xs2_, rfl, hf1_1, hO⟩
  refine (?_ : CL _ _ _ _ _ _ (Own w S [Res.row b 109 [.map (some m)], Res.mp yA zZ m kl, Res.vec 76 5 v1_ xs2_.length (xs2_.flatMap LeaD.cells)])) w1 (hw.frameL [0, 1] rfl hO)
  refine zD rfl (zA ?_)
  exact zM (z6 (v := v1_) rfl rfl (fun w' hw => ⟨v1_, xs2_, rfl, hf1_1, hw⟩))
theorem zFr {S : List Nat} (b m : Nat) (kl : List (Nat × LeaD)) (w : World) (hl : kl.length ≤ 1000000000) (hin : Own w S [Res.row b 109 [.map (some m)], Res.mp yA zZ m kl] w) : Rets Tryz.prog 85 #[.func (.func 119) #[] #[.pointer (some ⟨b, 0, none⟩)], .func (.func 87) #[] #[]] w fun u_ w' => ∃ (v' : Value) (l' : List LeaD), u_ = v' ∧ l'.Perm (kl.map (·.2)) ∧ l'.Pairwise (fun x y => x3 x y) ∧ Own w S [Res.row b 109 [.map (some m)], Res.mp yA zZ m kl, Res.vec 76 5 v' l'.length (l'.flatMap LeaD.cells)] w' := by
  refine zW Tryz.func85 rfl Tryz.ntmps85 hin ?_
  refine zB (zD rfl (zA (zB (zC rfl (zJ rfl rfl (fun w' hw => (zFg b m kl w' (by first | omega | (simp <;> omega)) (hw.give [0, 1] rfl (by decide))).mono ?_))))))
  rintro v'1_ w1 ⟨_, l'2_, rfl, hf1_1, hO⟩
  have hl1 : l'2_.length ≤ 1000000000 := by rw [hf1_1.length_eq, List.length_map]; exact hl
  refine (?_ : CL _ _ _ _ _ _ (Own w S [Res.row b 109 [.map (some m)], Res.mp yA zZ m kl, Res.vec 76 5 v'1_ l'2_.length (l'2_.flatMap LeaD.cells)])) w1 (hw.frameL [0, 1] rfl hO)
  refine zD rfl (zA (zB (zC rfl (zC rfl (zJ rfl rfl (fun w' hw => (zMB v'1_ l'2_ w' (by first | assumption | omega | (simp <;> omega) | (constructor <;> (first | omega | (simp only [zb]; omega) | (simp <;> omega)))) (hw.give [2] rfl (by decide))).mono ?_))))))
  rintro _ w1 ⟨l'3_, rfl, hf2_2, hf2_2_1, hO⟩
  refine (?_ : CL _ _ _ _ _ _ (Own w S [Res.row b 109 [.map (some m)], Res.mp yA zZ m kl, Res.vec 76 5 v'1_ l'3_.length (l'3_.flatMap LeaD.cells)])) w1 (hw.frameL [2] rfl hO)
  refine zA (zB (zC rfl (zD rfl (zA ?_))))
  exact zM (z6 (v := v'1_) rfl rfl (fun w' hw => ⟨v'1_, l'3_, rfl, hf2_2.trans hf1_1, hf2_2_1, hw⟩))
end Go.Proofs.YthincafbmpialaaGreat
