import Derived.Test.YtkkeknmkipkbmaaGreatOne
set_option linter.unusedSectionVars false
set_option linter.unusedSimpArgs false
set_option linter.unusedVariables false
set_option maxRecDepth 10000
namespace Go.Proofs.YtkkeknmkipkbmaaGreat
open Go Go.Sc Go.Proofs
theorem zBe (sb : Nat) (v : Value) (l : List Nat) (hl : zT l.length) : zC0 Tryz.prog 165 [.pointer (some ⟨sb, 0, none⟩)] (fun x : Nat => Value.int .u64 (x : Nat)) (fun xs => xs = l) l.length [Res.row sb 42 [v], Res.vec 22 1 v l.length (l.flatMap U1)] := by
  intro ly J L0 w Y hJ hin
  refine yc (args := [.func (.yield ly) #[] #[], .pointer (some ⟨sb, 0, none⟩)]) Tryz.func165 rfl Tryz.ntmps165 rfl (show Own w (y1 ([Res.row sb 42 [v], Res.vec 22 1 v l.length (l.flatMap U1)] ++ L0)) (Res.row sb 42 [v] :: Res.vec 22 1 v l.length (l.flatMap U1) :: L0) w from hin) ?_
  refine zB (zI 0 (v := v) rfl rfl rfl rfl (zk (pV 1 rfl) rfl rfl (zC rfl (zA (zY ?_)))))
  refine xe (fun (k : Nat) (Lr : List Res) => [(0, .func (.yield ly) #[] #[]), (5, v), (6, Vj l.length), (7, Vj k)]) (fun (k : Nat) (Lr : List Res) => k ≤ l.length ∧ J (l.take k) Lr) (fun (k : Nat) (Lr : List Res) => (Res.row sb 42 [v] :: Res.vec 22 1 v l.length (l.flatMap U1) :: Lr)) (fun (k : Nat) (Lr : List Res) => l.length - k) (fun w' hw => ⟨0, L0, ⟨rfl, rfl, rfl, rfl, trivial⟩, ⟨Nat.zero_le _, by simpa using hJ⟩, hw⟩) (fun k Lr g hΦ => ?_)
  have hk := hΦ.1
  have hJk := hΦ.2
  refine zB (z4 rfl rfl rfl (zA (zQ (zV rfl (fun c1 => ?_) (fun c1 => ?_)))))
  ·
   refine zP (zQ (zY (zB (z6 (pV 1 rfl) 1 k rfl rfl rfl (by omega) rfl (yY (pV 1 rfl) 1 k 0 (fun _ => rfl) rfl rfl (by omega) rfl rfl (zH rfl (zA (jr ?_))))))))
   refine yq rfl (zX) ?_
   refine yq rfl (zX) ?_
   refine zBS [Res.row sb 42 [v], Res.vec 22 1 v l.length (l.flatMap U1)] (zU l k) Y rfl rfl hJk (by rw [List.length_take]; omega) rfl (fun Ly1_ hJLy1_ => ?_)
   refine yq rfl (zCF (b := true) rfl) ?_
   refine zCn ?_
   refine xO rfl (zP (zZ (zu rfl rfl (zo (by omega)) rfl (zC rfl ?_))))
   exact zl (fun w' hw => ⟨k + 1, Ly1_, ⟨rfl, rfl, rfl, rfl, trivial⟩, ⟨by omega, by rw [z5 (by omega)]; exact hJLy1_⟩, hw, (by omega)⟩)
  ·
   exact xQ rfl (yb rfl (fun w' hw => ⟨l, Lr, rfl, (by have h := hJk; rwa [List.take_of_length_le (by omega)] at h), hw⟩))
theorem zD7 {S : List Nat} (v : Value) (l : List Nat) (w : World) (hin : Own w S [Res.vec 22 1 v l.length (l.flatMap U1)] w) : Rets Tryz.prog 121 #[v] w fun u_ w' => ∃ (b : Nat), u_ = .func (.func 165) #[] #[.pointer (some ⟨b, 0, none⟩)] ∧ Own w S [Res.vec 22 1 v l.length (l.flatMap U1), Res.row b 42 [v]] w' := by
  refine zR Tryz.func121 rfl Tryz.ntmps121 hin ?_
  refine zB ?_
  refine zd (fun w' hw => Own.cell1Vec (i := 0) rfl hw) (fun hc1_ => ?_)
  refine zA6 rfl hc1_ rfl (fun b1 => zH rfl (zA (zB (zAt (va := []) (vb := [.pointer (some ⟨b1, 0, none⟩)]) rfl rfl rfl (zH rfl (zA ?_))))))
  exact zS (zx (v := .func (.func 165) #[] #[.pointer (some ⟨b1, 0, none⟩)]) rfl rfl (fun w' hw => ⟨b1, rfl, hw⟩))
theorem zCY {Sx : List Nat → Prop} {N : Nat} {Ls : List Res} (sg : FuncId) (lb : List Value) (hcall : yh Tryz.prog sg = true) (hseq : zC0 Tryz.prog sg lb (fun x => Vn x) Sx N Ls) (hN : N ≤ 1000000000) (w : World) (hin : Own w (y1 Ls) Ls w) : Rets Tryz.prog 196 #[.slice none 0 0, .func (.func sg) #[] lb.toArray] w fun u_ w' => ∃ (v : Value) (xs : List Nat), u_ = v ∧ Sx xs ∧ Own w (y1 Ls) (Ls ++ [Res.vec 22 1 v xs.length (xs.flatMap U1)]) w' := by
  refine jh (args := [.slice none 0 0, .func (.func sg) #[] lb.toArray]) Tryz.func196 rfl Tryz.ntmps196 rfl rfl rfl (show Own w (y1 Ls) Ls w from hin) ?_
  refine zr rfl rfl (fun b => ?_)
  refine zH rfl ?_
  refine zl (fun w1 hw => ?_)
  refine (?_ : CL _ _ _ _ _ _ (Own w (y1 Ls) (Ls ++ [Res.row b 42 [.slice none 0 0]]))) w1 hw
  refine zC rfl ?_
  refine zl (fun w2 hw => ?_)
  have hw2 := zz hw 22 1
  rw [List.append_assoc] at hw2
  refine zBT (enc := (fun x => Vn x)) (p := 7) (q := 5) (Ju := fun pre L => ∃ v, L = [Res.row b 42 [v], Res.vec 22 1 v pre.length (pre.flatMap U1)]) rfl hcall hseq ⟨.slice none 0 0, rfl⟩ hw2 rfl rfl rfl ?_ ?_ ?_
  · intro x w
    exact (zH rfl (zl (fun w' hw' => ⟨rfl, hw'⟩)) : CL _ _ _ _ _ _ (fun w' => w' = w)) w rfl
  · rintro pre x L w ⟨v, rfl⟩ hlen
    refine zI 0 (v := v) rfl rfl rfl rfl ?_
    refine zC rfl ?_
    refine zy (e := 22) (sz := 1) (vs := [Vn x]) (by kernel_rfl) rfl rfl (by simp [Value.cells]) (by decide) rfl (fun b10 => ?_)
    refine yB (g := U1) (sz := 1) (by' := 8) (fun _ => rfl) (l := pre) (l' := [x]) (by simp [cell1, U1]) 1 (by kernel_rfl) rfl rfl rfl (fun w' hw' => Vec.sl (Own.holds hw' 2 _ rfl)) (by first | omega | (simp <;> omega)) (by decide) rfl (fun v11 => ?_)
    refine zd (fun w' hw => Own.cell1Vec (i := 1) rfl hw) (fun hc1_ => ?_)
    refine zf (cs := [v]) 0 rfl rfl rfl hc1_ rfl ?_
    exact zl (fun w' hw => ⟨_, ⟨_, rfl⟩, hw.sel [0, 1] rfl (by decide)⟩)
  · rintro xs L' D w' hS ⟨v, rfl⟩ hO a ha
    have hO2 := hO.perm (List.Perm.cons _ (List.perm_append_comm))
    refine zCL (v := v) rfl ?_ hO2 (fun w'' hO3 => ⟨v, xs, rfl, hS, ?_⟩) a ha
    · exact yq rfl (zCZ 1 (v := v) rfl rfl rfl (by kernel_rfl)) (yq rfl yU (zDt (fun w' hw => ⟨rfl, hw⟩)))
    · exact (Own.tail hO3).perm (List.perm_append_comm (l₁ := [_]))
theorem zBA {S : List Nat} (b : Nat) (v : Value) (l : List Nat) (w : World) (hl : l.length ≤ 1000000000) (hin : Own w S [Res.row b 42 [v], Res.vec 22 1 v l.length (l.flatMap U1)] w) : Rets Tryz.prog 163 #[.func (.func 165) #[] #[.pointer (some ⟨b, 0, none⟩)]] w fun u_ w' => ∃ (v' : Value) (l' : List Nat), u_ = v' ∧ l' = l ∧ Own w S [Res.row b 42 [v], Res.vec 22 1 v l.length (l.flatMap U1), Res.vec 22 1 v' l'.length (l'.flatMap U1)] w' := by
  refine zR Tryz.func163 rfl Tryz.ntmps163 hin ?_
  refine zB (zH rfl (zA (zB (zC rfl (zF rfl rfl (fun w' hw => (zCY 165 [.pointer (some ⟨b, 0, none⟩)] (by kernel_rfl) (zBe b v l (by first | assumption | omega)) (by omega) w' (hw.give [0, 1] rfl (by decide))).mono ?_))))))
  rintro v1_ w1 ⟨_, xs2_, rfl, hf1_1, hO⟩
  refine (?_ : CL _ _ _ _ _ _ (Own w S [Res.row b 42 [v], Res.vec 22 1 v l.length (l.flatMap U1), Res.vec 22 1 v1_ xs2_.length (xs2_.flatMap U1)])) w1 (hw.frameL [0, 1] rfl hO)
  refine zH rfl (zA ?_)
  exact zS (zx (v := v1_) rfl rfl (fun w' hw => ⟨v1_, xs2_, rfl, hf1_1, hw⟩))
theorem zBw {S : List Nat} (b : Nat) (v : Value) (l : List Nat) (w : World) (hl : l.length ≤ 1) (hin : Own w S [Res.row b 42 [v], Res.vec 22 1 v l.length (l.flatMap U1)] w) : Rets Tryz.prog 120 #[.func (.func 165) #[] #[.pointer (some ⟨b, 0, none⟩)]] w fun u_ w' => ∃ (v' : Value) (l' : List Nat), u_ = v' ∧ l' = l ∧ Own w S [Res.row b 42 [v], Res.vec 22 1 v l.length (l.flatMap U1), Res.vec 22 1 v' l'.length (l'.flatMap U1)] w' := by
  refine zR Tryz.func120 rfl Tryz.ntmps120 hin ?_
  refine zB (zH rfl (zA (zB (zC rfl (zF rfl rfl (fun w' hw => (zBA b v l w' (by first | omega | (simp <;> omega)) (hw.give [0, 1] rfl (by decide))).mono ?_))))))
  rintro v'1_ w1 ⟨_, l'2_, rfl, hf1_1, hO⟩
  have hl1 : l'2_.length ≤ 1 := by rw [hf1_1]; exact hl
  refine (?_ : CL _ _ _ _ _ _ (Own w S [Res.row b 42 [v], Res.vec 22 1 v l.length (l.flatMap U1), Res.vec 22 1 v'1_ l'2_.length (l'2_.flatMap U1)])) w1 (hw.frameL [0, 1] rfl hO)
  refine zH rfl (zA (zB (zC rfl (zF rfl rfl (fun w' hw => (zDY v'1_ l'2_ w' (by first | omega | (simp <;> omega)) (hw.give [2] rfl (by decide))).mono ?_)))))
  rintro _ w1 ⟨rfl, hO⟩
  refine (?_ : CL _ _ _ _ _ _ (Own w S [Res.row b 42 [v], Res.vec 22 1 v l.length (l.flatMap U1), Res.vec 22 1 v'1_ l'2_.length (l'2_.flatMap U1)])) w1 (hw.frameL [2] rfl hO)
  refine zA (zB (zC rfl (zH rfl (zA ?_))))
  exact zS (zx (v := v'1_) rfl rfl (fun w' hw => ⟨v'1_, l'2_, rfl, hf1_1, hw⟩))
theorem zB5 (sb : Nat) (v : Value) (l : List Int) (hl : zT l.length) : zC0 Tryz.prog 194 [.pointer (some ⟨sb, 0, none⟩)] (fun x : Int => Value.int .i64 x) (fun xs => xs = l) l.length [Res.row sb 33 [v], Res.vec 3 1 v l.length (l.flatMap I1)] := by
  intro ly J L0 w Y hJ hin
  refine yc (args := [.func (.yield ly) #[] #[], .pointer (some ⟨sb, 0, none⟩)]) Tryz.func194 rfl Tryz.ntmps194 rfl (show Own w (y1 ([Res.row sb 33 [v], Res.vec 3 1 v l.length (l.flatMap I1)] ++ L0)) (Res.row sb 33 [v] :: Res.vec 3 1 v l.length (l.flatMap I1) :: L0) w from hin) ?_
  refine zB (zI 0 (v := v) rfl rfl rfl rfl (zk (pV 1 rfl) rfl rfl (zC rfl (zA (zY ?_)))))
  refine xe (fun (k : Nat) (Lr : List Res) => [(0, .func (.yield ly) #[] #[]), (5, v), (6, Vj l.length), (7, Vj k)]) (fun (k : Nat) (Lr : List Res) => k ≤ l.length ∧ J (l.take k) Lr) (fun (k : Nat) (Lr : List Res) => (Res.row sb 33 [v] :: Res.vec 3 1 v l.length (l.flatMap I1) :: Lr)) (fun (k : Nat) (Lr : List Res) => l.length - k) (fun w' hw => ⟨0, L0, ⟨rfl, rfl, rfl, rfl, trivial⟩, ⟨Nat.zero_le _, by simpa using hJ⟩, hw⟩) (fun k Lr g hΦ => ?_)
  have hk := hΦ.1
  have hJk := hΦ.2
  refine zB (z4 rfl rfl rfl (zA (zQ (zV rfl (fun c1 => ?_) (fun c1 => ?_)))))
  ·
   refine zP (zQ (zY (zB (z6 (pV 1 rfl) 1 k rfl rfl rfl (by omega) rfl (yY (pV 1 rfl) 1 k 0 (fun _ => rfl) rfl rfl (by omega) rfl rfl (zH rfl (zA (jr ?_))))))))
   refine yq rfl (zX) ?_
   refine yq rfl (zX) ?_
   refine zBS [Res.row sb 33 [v], Res.vec 3 1 v l.length (l.flatMap I1)] (zU l k) Y rfl rfl hJk (by rw [List.length_take]; omega) rfl (fun Ly1_ hJLy1_ => ?_)
   refine yq rfl (zCF (b := true) rfl) ?_
   refine zCn ?_
   refine xO rfl (zP (zZ (zu rfl rfl (zo (by omega)) rfl (zC rfl ?_))))
   exact zl (fun w' hw => ⟨k + 1, Ly1_, ⟨rfl, rfl, rfl, rfl, trivial⟩, ⟨by omega, by rw [z5 (by omega)]; exact hJLy1_⟩, hw, (by omega)⟩)
  ·
   exact xQ rfl (yb rfl (fun w' hw => ⟨l, Lr, rfl, (by have h := hJk; rwa [List.take_of_length_le (by omega)] at h), hw⟩))
theorem zEf {S : List Nat} (v : Value) (l : List Int) (w : World) (hin : Own w S [Res.vec 3 1 v l.length (l.flatMap I1)] w) : Rets Tryz.prog 161 #[v] w fun u_ w' => ∃ (b : Nat), u_ = .func (.func 194) #[] #[.pointer (some ⟨b, 0, none⟩)] ∧ Own w S [Res.vec 3 1 v l.length (l.flatMap I1), Res.row b 33 [v]] w' := by
  refine zR Tryz.func161 rfl Tryz.ntmps161 hin ?_
  refine zB ?_
  refine zd (fun w' hw => Own.cell1Vec (i := 0) rfl hw) (fun hc1_ => ?_)
  refine zA6 rfl hc1_ rfl (fun b1 => zH rfl (zA (zB (zAt (va := []) (vb := [.pointer (some ⟨b1, 0, none⟩)]) rfl rfl rfl (zH rfl (zA ?_))))))
  exact zS (zx (v := .func (.func 194) #[] #[.pointer (some ⟨b1, 0, none⟩)]) rfl rfl (fun w' hw => ⟨b1, rfl, hw⟩))
theorem zCJ {Sx : List Int → Prop} {N : Nat} {Ls : List Res} (sg : FuncId) (lb : List Value) (hcall : yh Tryz.prog sg = true) (hseq : zC0 Tryz.prog sg lb (fun x => Vi x) Sx N Ls) (hN : N ≤ 1000000000) (w : World) (hin : Own w (y1 Ls) Ls w) : Rets Tryz.prog 207 #[.slice none 0 0, .func (.func sg) #[] lb.toArray] w fun u_ w' => ∃ (v : Value) (xs : List Int), u_ = v ∧ Sx xs ∧ Own w (y1 Ls) (Ls ++ [Res.vec 3 1 v xs.length (xs.flatMap I1)]) w' := by
  refine jh (args := [.slice none 0 0, .func (.func sg) #[] lb.toArray]) Tryz.func207 rfl Tryz.ntmps207 rfl rfl rfl (show Own w (y1 Ls) Ls w from hin) ?_
  refine zr rfl rfl (fun b => ?_)
  refine zH rfl ?_
  refine zl (fun w1 hw => ?_)
  refine (?_ : CL _ _ _ _ _ _ (Own w (y1 Ls) (Ls ++ [Res.row b 33 [.slice none 0 0]]))) w1 hw
  refine zC rfl ?_
  refine zl (fun w2 hw => ?_)
  have hw2 := zz hw 3 1
  rw [List.append_assoc] at hw2
  refine zBT (enc := (fun x => Vi x)) (p := 7) (q := 5) (Ju := fun pre L => ∃ v, L = [Res.row b 33 [v], Res.vec 3 1 v pre.length (pre.flatMap I1)]) rfl hcall hseq ⟨.slice none 0 0, rfl⟩ hw2 rfl rfl rfl ?_ ?_ ?_
  · intro x w
    exact (zH rfl (zl (fun w' hw' => ⟨rfl, hw'⟩)) : CL _ _ _ _ _ _ (fun w' => w' = w)) w rfl
  · rintro pre x L w ⟨v, rfl⟩ hlen
    refine zI 0 (v := v) rfl rfl rfl rfl ?_
    refine zC rfl ?_
    refine zy (e := 3) (sz := 1) (vs := [Vi x]) (by kernel_rfl) rfl rfl (by simp [Value.cells]) (by decide) rfl (fun b10 => ?_)
    refine yB (g := I1) (sz := 1) (by' := 8) (fun _ => rfl) (l := pre) (l' := [x]) (by simp [cell1, I1]) 1 (by kernel_rfl) rfl rfl rfl (fun w' hw' => Vec.sl (Own.holds hw' 2 _ rfl)) (by first | omega | (simp <;> omega)) (by decide) rfl (fun v11 => ?_)
    refine zd (fun w' hw => Own.cell1Vec (i := 1) rfl hw) (fun hc1_ => ?_)
    refine zf (cs := [v]) 0 rfl rfl rfl hc1_ rfl ?_
    exact zl (fun w' hw => ⟨_, ⟨_, rfl⟩, hw.sel [0, 1] rfl (by decide)⟩)
  · rintro xs L' D w' hS ⟨v, rfl⟩ hO a ha
    have hO2 := hO.perm (List.Perm.cons _ (List.perm_append_comm))
    refine zCL (v := v) rfl ?_ hO2 (fun w'' hO3 => ⟨v, xs, rfl, hS, ?_⟩) a ha
    · exact yq rfl (zCZ 1 (v := v) rfl rfl rfl (by kernel_rfl)) (yq rfl yU (zDt (fun w' hw => ⟨rfl, hw⟩)))
    · exact (Own.tail hO3).perm (List.perm_append_comm (l₁ := [_]))
theorem zAm {S : List Nat} (b : Nat) (v : Value) (l : List Int) (w : World) (hl : l.length ≤ 1000000000) (hin : Own w S [Res.row b 33 [v], Res.vec 3 1 v l.length (l.flatMap I1)] w) : Rets Tryz.prog 192 #[.func (.func 194) #[] #[.pointer (some ⟨b, 0, none⟩)]] w fun u_ w' => ∃ (v' : Value) (l' : List Int), u_ = v' ∧ l' = l ∧ Own w S [Res.row b 33 [v], Res.vec 3 1 v l.length (l.flatMap I1), Res.vec 3 1 v' l'.length (l'.flatMap I1)] w' := by
  refine zR Tryz.func192 rfl Tryz.ntmps192 hin ?_
  refine zB (zH rfl (zA (zB (zC rfl (zF rfl rfl (fun w' hw => (zCJ 194 [.pointer (some ⟨b, 0, none⟩)] (by kernel_rfl) (zB5 b v l (by first | assumption | omega)) (by omega) w' (hw.give [0, 1] rfl (by decide))).mono ?_))))))
  rintro v1_ w1 ⟨_, xs2_, rfl, hf1_1, hO⟩
  refine (?_ : CL _ _ _ _ _ _ (Own w S [Res.row b 33 [v], Res.vec 3 1 v l.length (l.flatMap I1), Res.vec 3 1 v1_ xs2_.length (xs2_.flatMap I1)])) w1 (hw.frameL [0, 1] rfl hO)
  refine zH rfl (zA ?_)
  exact zS (zx (v := v1_) rfl rfl (fun w' hw => ⟨v1_, xs2_, rfl, hf1_1, hw⟩))
theorem zBj {S : List Nat} (b : Nat) (v : Value) (l : List Int) (w : World) (hl : l.length ≤ 1) (hin : Own w S [Res.row b 33 [v], Res.vec 3 1 v l.length (l.flatMap I1)] w) : Rets Tryz.prog 160 #[.func (.func 194) #[] #[.pointer (some ⟨b, 0, none⟩)]] w fun u_ w' => ∃ (v' : Value) (l' : List Int), u_ = v' ∧ l' = l ∧ Own w S [Res.row b 33 [v], Res.vec 3 1 v l.length (l.flatMap I1), Res.vec 3 1 v' l'.length (l'.flatMap I1)] w' := by
  refine zR Tryz.func160 rfl Tryz.ntmps160 hin ?_
  refine zB (zH rfl (zA (zB (zC rfl (zF rfl rfl (fun w' hw => (zAm b v l w' (by first | omega | (simp <;> omega)) (hw.give [0, 1] rfl (by decide))).mono ?_))))))
  rintro v'1_ w1 ⟨_, l'2_, rfl, hf1_1, hO⟩
  have hl1 : l'2_.length ≤ 1 := by rw [hf1_1]; exact hl
  refine (?_ : CL _ _ _ _ _ _ (Own w S [Res.row b 33 [v], Res.vec 3 1 v l.length (l.flatMap I1), Res.vec 3 1 v'1_ l'2_.length (l'2_.flatMap I1)])) w1 (hw.frameL [0, 1] rfl hO)
  refine zH rfl (zA (zB (zC rfl (zF rfl rfl (fun w' hw => (zDh v'1_ l'2_ w' (by first | omega | (simp <;> omega)) (hw.give [2] rfl (by decide))).mono ?_)))))
  rintro _ w1 ⟨rfl, hO⟩
  refine (?_ : CL _ _ _ _ _ _ (Own w S [Res.row b 33 [v], Res.vec 3 1 v l.length (l.flatMap I1), Res.vec 3 1 v'1_ l'2_.length (l'2_.flatMap I1)])) w1 (hw.frameL [2] rfl hO)
  refine zA (zB (zC rfl (zH rfl (zA ?_))))
  exact zS (zx (v := v'1_) rfl rfl (fun w' hw => ⟨v'1_, l'2_, rfl, hf1_1, hw⟩))
end Go.Proofs.YtkkeknmkipkbmaaGreat
