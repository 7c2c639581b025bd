/-
  THE WALKS OF what changes a configuration.
-/
import Derived.Test.YtniiobmkcbeknaaConfDec
import Derived.Test.YtniiobmkcbeknaaFwV
import Derived.Test.YtniiobmkcbeknaaShelf
set_option linter.unusedVariables false
set_option maxRecDepth 10000
namespace Go.Proofs.Ytniiobmkcbeknaa
open Go Go.Sc Go.Proofs

/-- A number put ahead of the first greater one. -/
def withR : List Int → Int → List Int
  | [], n => [n]
  | a :: l, n => if n < a then n :: a :: l else a :: withR l n
def delL (l : List Int) (n : Int) : List Int := l.filter fun x => decide (x ≠ n)
theorem withR_le {n : Int} : ∀ {l : List Int}, (∀ x ∈ l, x ≤ n) → withR l n = l ++ [n]
  | [], _ => rfl
  | a :: l, h => by
    have h1 := h a (by simp)
    unfold withR; rw [if_neg (by omega), withR_le fun x hx => h x (by simp [hx])]; rfl
theorem withR_first {n a : Int} : ∀ {l : List Int}, (∀ x ∈ l, x ≤ n) → n < a → withR (l ++ [a]) n = l ++ [n, a]
  | [], _, h2 => by simp [withR, h2]
  | b :: l, h, h2 => by
    have h1 := h b (by simp)
    simp only [List.cons_append]
    unfold withR; rw [if_neg (by omega), withR_first (fun x hx => h x (by simp [hx])) h2]
theorem withR_more {n a : Int} : ∀ {l : List Int}, (∃ x ∈ l, n < x) → withR (l ++ [a]) n = withR l n ++ [a]
  | [], h => by obtain ⟨x, hx, _⟩ := h; cases hx
  | b :: l, h => by
    simp only [List.cons_append]
    unfold withR
    by_cases c : n < b
    · rw [if_pos c, if_pos c]; rfl
    · rw [if_neg c, if_neg c, withR_more (by obtain ⟨x, hx, hn⟩ := h; rcases List.mem_cons.1 hx with rfl | hx; exact absurd hn c; exact ⟨x, hx, hn⟩)]; rfl
theorem withR_perm (n : Int) : ∀ (l : List Int), (withR l n).Perm (l ++ [n])
  | [] => by simp [withR]
  | a :: l => by
    unfold withR
    split
    · exact List.perm_append_comm (l₁ := [n]) (l₂ := a :: l)
    · exact (withR_perm n l).cons a
theorem withR_mem {l : List Int} {n x : Int} : x ∈ withR l n ↔ x ∈ l ∨ x = n := by rw [(withR_perm n l).mem_iff]; simp
theorem withR_length (l : List Int) (n : Int) : (withR l n).length = l.length + 1 := by rw [(withR_perm n l).length_eq]; simp
theorem withR_lt {n : Int} : ∀ {l : List Int}, l.Pairwise (· < ·) → n ∉ l → (withR l n).Pairwise (· < ·)
  | [], _, _ => by simp [withR]
  | a :: l, h, hn => by
    rw [List.pairwise_cons] at h
    simp only [List.mem_cons, not_or] at hn
    unfold withR
    split
    · rename_i c
      refine List.pairwise_cons.2 ⟨fun x hx => ?_, List.pairwise_cons.2 h⟩
      rcases List.mem_cons.1 hx with rfl | hx
      · exact c
      · have := h.1 x hx; omega
    · refine List.pairwise_cons.2 ⟨fun x hx => ?_, withR_lt h.2 hn.2⟩
      rcases withR_mem.1 hx with hx | rfl
      · exact h.1 x hx
      · omega
theorem sort_with {l : List Int} {n : Int} (h : l.Pairwise (· < ·)) (hn : n ∉ l) : ((l ++ [n]).mergeSort fun x y => decide (x ≤ y)) = withR l n := by
  have h1 : ((l ++ [n]).mergeSort fun x y => decide (x ≤ y)).Pairwise (fun a b => decide (a ≤ b) = true) := List.pairwise_mergeSort (by intro a b c; simp; omega) (by intro a b; simp; omega) _
  have h2 := (withR_lt h hn).imp (S := fun a b => decide (a ≤ b) = true) (fun {a b} q => by simp; omega)
  exact List.Perm.eq_of_pairwise (le := fun a b => decide (a ≤ b) = true) (fun a b _ _ p q => by simp at p q; omega) h1 h2 ((List.mergeSort_perm _ _).trans (withR_perm n l).symm)
theorem Rises.lt {l : List Int} (h : Rises l) : l.Pairwise (· < ·) := (List.pairwise_cons.1 h.1).2
theorem Rises.pos {l : List Int} (h : Rises l) : ∀ x ∈ l, 1 ≤ x ∧ x ≤ 16 := fun x hx => ⟨by have := (List.pairwise_cons.1 h.1).1 x hx; omega, h.2 x hx⟩
theorem rises_with {l : List Int} {n : Int} (h : Rises l) (hn : n ∉ l) (h1 : 1 ≤ n ∧ n ≤ 16) : Rises (withR l n) := by
  refine ⟨List.pairwise_cons.2 ⟨fun x hx => ?_, withR_lt h.lt hn⟩, fun x hx => ?_⟩
  · rcases withR_mem.1 hx with hx | rfl
    · have := h.pos x hx; omega
    · omega
  · rcases withR_mem.1 hx with hx | rfl
    · exact h.2 x hx
    · exact h1.2
theorem rises_del {l : List Int} {n : Int} (h : Rises l) : Rises (delL l n) :=
  ⟨List.pairwise_cons.2 ⟨fun x hx => (List.pairwise_cons.1 h.1).1 x (List.mem_filter.1 hx).1, h.lt.sublist List.filter_sublist⟩, fun x hx => h.2 x (List.mem_filter.1 hx).1⟩
theorem del_mem {l : List Int} {n x : Int} : x ∈ delL l n ↔ x ∈ l ∧ x ≠ n := by simp [delL]
def chg (kind : Int) (c : ConfA) (id : Int) : ConfA × Int :=
  if ¬ c.ok then (⟨[], []⟩, 2)
  else if ¬ (1 ≤ id ∧ id ≤ 16) then (⟨[], []⟩, 1)
  else if kind = 1 then (if id ∈ c.vs ∨ id ∈ c.ls then (⟨[], []⟩, 9) else (⟨c.vs, withR c.ls id⟩, 0))
  else if kind = 2 then (if id ∈ c.ls then (⟨withR c.vs id, delL c.ls id⟩, 0) else (⟨[], []⟩, 8))
  else if ¬ (id ∈ c.vs ∨ id ∈ c.ls) then (⟨[], []⟩, 8)
  else if id ∈ c.vs ∧ c.vs.length = 1 then (⟨[], []⟩, 15)
  else (⟨delL c.vs id, delL c.ls id⟩, 0)

theorem without1_s (n : Int) (ib : Nat) (id : Int) (w : World) (hib : Rd w [] (Res.row ib 3 [.int .i64 id])) : Rets Try.prog 48 #[.int .i64 n, .pointer (some ⟨ib, 0, none⟩)] w fun u_ w' => u_ = .bool (decide (n = id)) ∧ Own w [] [] w' := by
  refine fn_enter (args := [.int .i64 n, .pointer (some ⟨ib, 0, none⟩)]) Try.func48 rfl Try.ntmps48 rfl (Own.start w) ?_
  refine c_reg ?_
  refine l_as rfl ?_
  refine l_end ?_
  refine c_reg ?_
  refine l_mv rfl ?_
  refine l_ldq (v := .int .i64 id) rfl (hib.φ.cell rfl) (hib.far _ (by simp [Res.row])) (by kernel_rfl) rfl ?_
  refine l_eq rfl rfl rfl ?_
  refine l_as rfl ?_
  refine l_end ?_
  exact c_ret (ret1 (v := .bool (decide (n = id))) rfl rfl (fun w' hw => ⟨rfl, hw.drop⟩))
theorem idxWithout_s (v : Value) (l : List Int) (ib : Nat) (id : Int) (w : World) (hl : LenOk l.length) (hib : Rd w [] (Res.row ib 3 [.int .i64 id])) (hv : Rd w [] (Res.sl v l.length (l.flatMap I1))) : Rets Try.prog 61 #[v, .func (.func 48) #[] #[.pointer (some ⟨ib, 0, none⟩)]] w fun u_ w' => ∃ (i : Int), u_ = .int .i64 i ∧ ((∃ k : Nat, i = k ∧ k < l.length ∧ nth l k = id ∧ delL (l.take k) id = l.take k) ∨ (i = -1 ∧ delL l id = l)) ∧ Own w [] [] w' := by
  refine fn_enter (args := [v, .func (.func 48) #[] #[.pointer (some ⟨ib, 0, none⟩)]]) Try.func61 rfl Try.ntmps61 rfl (Own.start w) ?_
  refine c_reg ?_
  refine l_as rfl ?_
  refine l_end ?_
  refine c_seq ?_
  refine c_reg ?_
  refine l_mv rfl ?_
  refine l_lenS (len := l.length) (cs := (l.flatMap I1)) (by kernel_rfl) rfl (fun w' hw' => Own.rd hv hw') rfl ?_
  refine l_mv rfl ?_
  refine l_end ?_
  refine c_block ?_
  refine c_loop1 (fun (k : Nat) => [(0, v), (1, .func (.func 48) #[] #[.pointer (some ⟨ib, 0, none⟩)]), (7, .int .i64 (l.length : Nat)), (8, .int .i64 (k : Nat))]) (fun (k : Nat) => k ≤ l.length ∧ delL (l.take k) id = l.take k) (fun (k : Nat) => []) (fun (k : Nat) => l.length - k) (fun w' hw => ⟨0, ⟨rfl, rfl, rfl, rfl, trivial⟩, ⟨Nat.zero_le _, by simp [delL]⟩, hw⟩) (fun k g hΦ => ?_)
  refine c_reg ?_
  refine l_lss rfl rfl rfl ?_
  refine l_end ?_
  refine c_seq ?_
  refine c_dec rfl (fun c1 => ?_) (fun c1 => ?_)
  ·
    refine c_skipC ?_
    refine c_seq ?_
    refine c_block ?_
    refine c_reg ?_
    refine l_mv rfl ?_
    refine l_as rfl ?_
    refine l_end ?_
    refine c_reg ?_
    refine l_mv rfl ?_
    refine l_mv rfl ?_
    refine l_mv rfl ?_
    refine l_idxS (j := k) (sz := 1) (len := l.length) (cs := (l.flatMap I1)) rfl rfl (by kernel_rfl) (fun w' hw' => Own.rd hv hw') rfl (by omega) rfl ?_
    refine l_ldS (v := v) (off := offV v + k * 1) (k * 1 + 0) (cs := (l.flatMap I1)) rfl (by omega) (fun w' hw' => Own.rd hv hw') (flat_at (sz := 1) (fun _ => rfl) (nth_some (by omega)) (i := 0) rfl) (by kernel_rfl) rfl ?_
    refine l_callv (fst := []) (cap := [.pointer (some ⟨ib, 0, none⟩)]) rfl (by kernel_rfl) rfl rfl (fun w' hw => ?_)
    refine (without1_s (nth l k) ib id w' (hw.rd0 hib)).mono ?_
    rintro _ w1 ⟨rfl, hO⟩
    refine (?_ : CL _ _ _ _ _ _ (Own w [] [])) w1 (hw.frame0 hO)
    refine l_end ?_
    refine c_dec rfl (fun c2 => ?_) (fun c2 => ?_)
    ·
      refine c_reg ?_
      refine l_mv rfl ?_
      refine l_as rfl ?_
      refine l_end ?_
      exact c_ret (ret1 (v := .int .i64 (k : Nat)) rfl rfl (fun w' hw => ⟨k, rfl, .inl ⟨k, rfl, by omega, c2, hΦ.2⟩, hw.drop⟩))
    ·
      refine c_skipC ?_
      refine c_last ?_
      refine l_add rfl rfl (wi64 (by omega)) rfl ?_
      refine l_mv rfl ?_
      exact l_nil (fun w' hw => ⟨k + 1, ⟨rfl, rfl, rfl, rfl, trivial⟩, ⟨by omega, by rw [take_nth (by omega), delL, List.filter_append]; have h := hΦ.2; unfold delL at h; rw [h]; simp [c2]⟩, hw, (by omega)⟩)
  ·
    refine c_exitC rfl ?_
    refine c_reg ?_
    refine l_as rfl ?_
    refine l_end ?_
    exact c_ret (ret1 (v := .int .i64 (-1)) rfl rfl (fun w' hw => ⟨-1, rfl, .inr ⟨rfl, by have h := hΦ.2; rwa [List.take_of_length_le (by omega)] at h⟩, hw.drop⟩))
theorem delL_snoc {l : List Int} {n x : Int} : delL (l ++ [x]) n = delL l n ++ if x = n then [] else [x] := by
  unfold delL; rw [List.filter_append]; by_cases h : x = n <;> simp [h]
theorem delL_step {l : List Int} {j : Nat} {n : Int} (hj : j < l.length) : delL (l.take (j + 1)) n = delL (l.take j) n ++ if nth l j = n then [] else [nth l j] := by rw [take_nth hj, delL_snoc]
theorem drop_nth_eq {l cl : List Int} {j : Nat} (h : cl.drop j = l.drop j) : nth cl j = nth l j := by
  have := congrArg (fun q => nth q 0) h
  simpa [nth_drop] using this
theorem set_take {cl : List Int} {i : Nat} {x : Int} (hi : i < cl.length) : (cl.set i x).take (i + 1) = cl.take i ++ [x] := by
  rw [List.take_add_one, List.take_set_of_le (Nat.le_refl _)]; simp [hi]
theorem set_drop {cl : List Int} {i j : Nat} {x : Int} (hi : i < j) : (cl.set i x).drop j = cl.drop j := by rw [List.drop_set, if_pos hi]
theorem drop_step {l cl : List Int} {j : Nat} (h : cl.drop j = l.drop j) : cl.drop (j + 1) = l.drop (j + 1) := by rw [← List.drop_drop, ← List.drop_drop, h]
theorem delFunc_s (v : Value) (l : List Int) (ib : Nat) (id : Int) (w : World) (hl : LenOk l.length) (hib : Rd w (fps [Res.vec 3 1 v l.length (l.flatMap I1)]) (Res.row ib 3 [.int .i64 id])) (hin : Own w (fps [Res.vec 3 1 v l.length (l.flatMap I1)]) [Res.vec 3 1 v l.length (l.flatMap I1)] w) : Rets Try.prog 47 #[v, .func (.func 48) #[] #[.pointer (some ⟨ib, 0, none⟩)]] w fun u_ w' => ∃ (r : Value), u_ = r ∧ Own w (fps [Res.vec 3 1 v l.length (l.flatMap I1)]) [Res.vec 3 1 r (delL l id).length ((delL l id).flatMap I1)] w' := by
  refine fn_enter (args := [v, .func (.func 48) #[] #[.pointer (some ⟨ib, 0, none⟩)]]) Try.func47 rfl Try.ntmps47 rfl (show Own w (fps [Res.vec 3 1 v l.length (l.flatMap I1)]) [Res.vec 3 1 v l.length (l.flatMap I1)] w from hin) ?_
  refine c_reg ?_
  refine l_as rfl ?_
  refine l_end ?_
  refine c_reg ?_
  refine l_mv rfl ?_
  refine l_mv rfl ?_
  refine l_call (by kernel_rfl) rfl rfl (fun w' hw => ?_)
  refine (idxWithout_s v l ib id w' (by first | assumption | omega | (simp <;> omega) | (constructor <;> (first | omega | (simp only [LenOk]; omega) | (simp <;> omega)))) (hw.rd0 hib) (hw.rdVec0 0 rfl)).mono ?_
  rintro _ w1 ⟨i1_, rfl, hf1_2, hO⟩
  refine (?_ : CL _ _ _ _ _ _ (Own w (fps [Res.vec 3 1 v l.length (l.flatMap I1)]) [Res.vec 3 1 v l.length (l.flatMap I1)])) w1 (hw.frame0 hO)
  refine l_as rfl ?_
  refine l_end ?_
  refine c_seq ?_
  refine c_reg ?_
  refine l_mv rfl ?_
  refine l_eq rfl rfl rfl ?_
  refine l_end ?_
  refine c_dec rfl (fun c1 => ?_) (fun c1 => ?_)
  ·
    refine c_reg ?_
    refine l_mv rfl ?_
    refine l_as rfl ?_
    refine l_end ?_
    exact c_ret (ret1 (v := v) rfl rfl (fun w' hw => ⟨v, rfl, by have h := hf1_2.elim (fun ⟨k, h1, _⟩ => absurd (h1 ▸ c1 : (k : Int) = -1) (by omega)) (fun h => h.2); rw [h]; exact hw⟩))
  ·
    obtain ⟨k, hik, hk1, hk2, hk3⟩ := hf1_2.resolve_right (fun h => c1 h.1)
    refine c_skipC ?_
    refine c_seq ?_
    refine c_reg ?_
    refine l_mv rfl ?_
    refine l_add rfl rfl (wi64 (by omega)) rfl ?_
    refine l_as rfl ?_
    refine l_end ?_
    refine c_block ?_
    refine c_loop3 (fun (i : Nat) (j : Nat) (cl : List Int) => [(0, v), (1, .func (.func 48) #[] #[.pointer (some ⟨ib, 0, none⟩)]), (5, .int .i64 (i : Nat)), (6, .int .i64 (j : Nat))]) (fun (i : Nat) (j : Nat) (cl : List Int) => (i < j ∧ j ≤ l.length ∧ cl.length = l.length) ∧ cl.take i = delL (l.take j) id ∧ cl.drop j = l.drop j) (fun (i : Nat) (j : Nat) (cl : List Int) => [Res.vec 3 1 v cl.length (cl.flatMap I1)]) (fun (i : Nat) (j : Nat) (cl : List Int) => l.length - j) (fun w' hw => ⟨k, k + 1, l, ⟨rfl, rfl, (congrArg (Value.int .i64) hik), (congrArg (Value.int .i64) (show i1_ + 1 = ((k + 1 : Nat) : Int) by omega)), trivial⟩, ⟨⟨by omega, by omega, rfl⟩, by rw [delL_step hk1, hk3, if_pos hk2, List.append_nil], rfl⟩, hw⟩) (fun i j cl g hΦ => ?_)
    refine c_seq ?_
    refine c_reg ?_
    refine l_mv rfl ?_
    refine l_mv rfl ?_
    refine l_lenS (len := cl.length) (cs := (cl.flatMap I1)) (by kernel_rfl) rfl (fun w' hw' => Vec.sl (Own.holds hw' 0 _ rfl)) rfl ?_
    refine l_lss rfl rfl rfl ?_
    refine l_end ?_
    refine c_dec rfl (fun c2 => ?_) (fun c2 => ?_)
    ·
      have hnj := drop_nth_eq hΦ.2.2
      refine c_skipC ?_
      refine c_seq ?_
      refine c_block ?_
      refine c_reg ?_
      refine l_mv rfl ?_
      refine l_mv rfl ?_
      refine l_idxS (j := j) (sz := 1) (len := cl.length) (cs := (cl.flatMap I1)) rfl rfl (by kernel_rfl) (fun w' hw' => Vec.sl (Own.holds hw' 0 _ rfl)) rfl (by omega) rfl ?_
      refine l_ldS (v := v) (off := offV v + j * 1) (j * 1 + 0) (cs := (cl.flatMap I1)) rfl (by omega) (fun w' hw' => Vec.sl (Own.holds hw' 0 _ rfl)) (flat_at (sz := 1) (fun _ => rfl) (nth_some (by omega)) (i := 0) rfl) (by kernel_rfl) rfl ?_
      refine l_as rfl ?_
      refine l_end ?_
      refine c_reg ?_
      refine l_mv rfl ?_
      refine l_mv rfl ?_
      refine l_callv (fst := []) (cap := [.pointer (some ⟨ib, 0, none⟩)]) rfl (by kernel_rfl) rfl rfl (fun w' hw => ?_)
      refine (without1_s (nth cl j) ib id w' (hw.rd0 hib)).mono ?_
      rintro _ w1 ⟨rfl, hO⟩
      refine (?_ : CL _ _ _ _ _ _ (Own w (fps [Res.vec 3 1 v l.length (l.flatMap I1)]) [Res.vec 3 1 v cl.length (cl.flatMap I1)])) w1 (hw.frame0 hO)
      refine l_notp (q := (nth cl j) = id) rfl rfl ?_
      refine l_end ?_
      refine c_dec rfl (fun c3 => ?_) (fun c3 => ?_)
      ·
        refine c_reg ?_
        refine l_mv rfl ?_
        refine l_mv rfl ?_
        refine l_mv rfl ?_
        refine l_idxS (j := i) (sz := 1) (len := cl.length) (cs := (cl.flatMap I1)) rfl rfl (by kernel_rfl) (fun w' hw' => Vec.sl (Own.holds hw' 0 _ rfl)) rfl (by omega) rfl ?_
        refine l_stV 0 i (v := v) (off := offV v + i * 1) (cs := (cl.flatMap I1)) rfl (by omega) rfl rfl (by kernel_rfl) rfl (by rw [flat_len (g := I1) (sz := 1) (fun _ => rfl)]; omega) ?_
        refine l_own [Res.vec 3 1 v (cl.set i (nth cl j)).length ((cl.set i (nth cl j)).flatMap I1)] (fun w' hw => by rw [flat_set1 (fun _ => rfl), List.length_set]; exact hw) ?_
        refine l_end ?_
        refine c_last ?_
        refine l_mv rfl ?_
        refine l_add rfl rfl (wi64 (by omega)) rfl ?_
        refine l_as rfl ?_
        refine l_end ?_
        refine c_last ?_
        refine l_mv rfl ?_
        refine l_add rfl rfl (wi64 (by omega)) rfl ?_
        refine l_as rfl ?_
        exact l_nil (fun w' hw => ⟨i + 1, j + 1, cl.set i (nth cl j), ⟨rfl, rfl, rfl, rfl, trivial⟩, ⟨⟨by omega, by omega, by rw [List.length_set]; omega⟩, by rw [set_take (by omega), delL_step (by omega), ← hnj, if_neg c3, hΦ.2.1], by rw [set_drop (by omega)]; exact drop_step hΦ.2.2⟩, hw, (by omega)⟩)
      ·
        refine c_skipC ?_
        refine c_last ?_
        refine l_mv rfl ?_
        refine l_add rfl rfl (wi64 (by omega)) rfl ?_
        refine l_as rfl ?_
        exact l_nil (fun w' hw => ⟨i, j + 1, cl, ⟨rfl, rfl, rfl, rfl, trivial⟩, ⟨⟨by omega, by omega, by omega⟩, by rw [delL_step (by omega), ← hnj, if_pos (Decidable.not_not.1 c3), List.append_nil, hΦ.2.1], drop_step hΦ.2.2⟩, hw, (by omega)⟩)
    ·
      refine c_exitC rfl ?_
      refine c_reg ?_
      refine l_mv rfl ?_
      refine l_mv rfl ?_
      refine l_slcS (v := v) (sz := 1) (l := i) (h := cl.length) (len := cl.length) (cs := (cl.flatMap I1)) (by kernel_rfl) rfl (fun w' hw' => Vec.sl (Own.holds hw' 0 _ rfl)) ⟨_, rfl⟩ rfl (by omega) (by omega) rfl ?_
      refine l_clr (T := 3) (v := v) (l := cl) 0 i rfl rfl (by kernel_rfl) (by kernel_rfl) (by omega) ?_; generalize hcc : cl.take i ++ List.replicate (cl.length - i) (0 : Int) = cc; have hcl : cc.length = cl.length ∧ cc.take i = cl.take i := (by rw [← hcc]; have h1 : i ≤ (cl.take i).length := (by rw [List.length_take]; omega); exact ⟨(by rw [List.length_append, List.length_take, List.length_replicate]; omega), (by rw [List.take_append_of_le_length h1, List.take_take, Nat.min_self])⟩); have hcl1 := hcl.1
      refine l_end ?_
      refine c_reg ?_
      refine l_mv rfl ?_
      refine l_mv rfl ?_
      refine l_slcS (v := v) (sz := 1) (l := 0) (h := i) (len := cc.length) (cs := (cc.flatMap I1)) (by kernel_rfl) rfl (fun w' hw' => Vec.sl (Own.holds hw' 0 _ rfl)) rfl ⟨_, rfl⟩ (by omega) (by omega) rfl ?_
      refine l_as rfl ?_
      refine l_end ?_
      exact c_ret (ret1 (v := (cutV v 0 i 1)) rfl rfl (fun w' hw => ⟨(cutV v 0 i 1), rfl, by have h := hw.vecCut 0 i rfl (by omega); have e : cc.take i = delL l id := (by rw [hcl.2, hΦ.2.1, List.take_of_length_le (by omega)]); rw [e] at h; exact h⟩))
def sortI (l : List Int) : List Int := l.mergeSort fun x y => decide (x ≤ y)
theorem sort_s (v : Value) (l : List Int) (w : World) (hl : LenOk l.length) (h0 : 0 < l.length) (hin : Own w (fps [Res.vec 3 1 v l.length (l.flatMap I1)]) [Res.vec 3 1 v l.length (l.flatMap I1)] w) : Rets Try.prog 46 #[v] w fun u_ w' => u_ = .tuple #[] ∧ Own w (fps [Res.vec 3 1 v l.length (l.flatMap I1)]) [Res.vec 3 1 v (sortI l).length ((sortI l).flatMap I1)] w' := by
  exact sort_own Try.sortL rfl w hl h0 hin
theorem with_s (v : Value) (l : List Int) (id : Int) (w : World) (hl : LenOk (l.length + 1)) (hs : l.Pairwise (· < ·)) (hn : id ∉ l) (hv : Rd w [] (Res.sl v l.length (l.flatMap I1))) : Rets Try.prog 38 #[v, .int .i64 id] w fun u_ w' => ∃ (r : Value), u_ = r ∧ Own w [] [Res.vec 3 1 r (withR l id).length ((withR l id).flatMap I1)] w' := by
  refine fn_enter (args := [v, .int .i64 id]) Try.func38 rfl Try.ntmps38 rfl (Own.start w) ?_
  refine c_reg ?_
  refine l_as rfl ?_
  refine l_end ?_
  refine c_reg ?_
  refine l_mv rfl ?_
  refine l_call (by kernel_rfl) rfl rfl (fun w' hw => ?_)
  refine (clone_s v l w' (by show _ ≤ _; have : l.length + 1 ≤ 1000000000000 := hl; omega) (hw.rd0 hv)).mono ?_
  rintro r1_ w1 ⟨_, rfl, hO⟩
  refine (?_ : CL _ _ _ _ _ _ (Own w [] [Res.vec 3 1 r1_ l.length (l.flatMap I1)])) w1 (hw.frame0 hO)
  refine l_mv rfl ?_
  refine l_bsl (e := 3) (sz := 1) (vs := [.int .i64 id]) (by kernel_rfl) rfl rfl (by simp [Value.cells]) (by decide) rfl (fun b9 => ?_)
  refine l_appF (g := I1) (sz := 1) (by' := 8) (fun _ => rfl) (l := l) (l' := [id]) (by simp [cell1, I1]) 0 (by kernel_rfl) rfl rfl rfl (fun w' hw' => Vec.sl (Own.holds hw' 1 _ rfl)) (by first | omega | (simp; omega)) (by decide) rfl (fun v10 => ?_)
  refine l_as rfl ?_
  refine l_end ?_
  refine c_reg ?_
  refine l_mv rfl ?_
  refine l_call (by kernel_rfl) rfl rfl (fun w' hw => ?_)
  refine (sort_s v10 (l ++ [id]) w' (by simpa using hl) (by simp) (hw.give [0] rfl (by decide))).mono ?_
  rintro _ w1 ⟨rfl, hO⟩
  refine (?_ : CL _ _ _ _ _ _ (Own w [] [Res.vec 3 1 (.slice (some ⟨b9, 0, none⟩) 1 1) [id].length ([id].flatMap I1), Res.vec 3 1 v10 (sortI (l ++ [id])).length ((sortI (l ++ [id])).flatMap I1)])) w1 (hw.frameL [0] rfl hO)
  refine l_end ?_
  refine c_reg ?_
  refine l_mv rfl ?_
  refine l_as rfl ?_
  refine l_end ?_
  exact c_ret (ret1 (v := v10) rfl rfl (fun w' hw => ⟨v10, rfl, by have h := hw.one 1 rfl; rw [show sortI (l ++ [id]) = withR l id from sort_with hs hn] at h; exact h⟩))
theorem without_s (v : Value) (l : List Int) (id : Int) (w : World) (hl : LenOk l.length) (hv : Rd w [] (Res.sl v l.length (l.flatMap I1))) : Rets Try.prog 39 #[v, .int .i64 id] w fun u_ w' => ∃ (r : Value), u_ = r ∧ Own w [] [Res.vec 3 1 r (delL l id).length ((delL l id).flatMap I1)] w' := by
  refine fn_enter (args := [v, .int .i64 id]) Try.func39 rfl Try.ntmps39 rfl (Own.start w) ?_
  refine c_reg ?_
  refine l_box rfl rfl (fun b3 => ?_)
  refine l_as rfl ?_
  refine l_end ?_
  refine c_reg ?_
  refine l_mv rfl ?_
  refine l_call (by kernel_rfl) rfl rfl (fun w' hw => ?_)
  refine (clone_s v l w' (by first | assumption | omega | (simp <;> omega) | (constructor <;> (first | omega | (simp only [LenOk]; omega) | (simp <;> omega)))) (hw.rd0 hv)).mono ?_
  rintro r1_ w1 ⟨_, rfl, hO⟩
  refine (?_ : CL _ _ _ _ _ _ (Own w [] [Res.row b3 3 [.int .i64 id], Res.vec 3 1 r1_ l.length (l.flatMap I1)])) w1 (hw.frame0 hO)
  refine l_fn (va := []) (vb := [.pointer (some ⟨b3, 0, none⟩)]) rfl rfl rfl ?_
  refine l_call (by kernel_rfl) rfl rfl (fun w' hw => ?_)
  refine (delFunc_s r1_ l b3 id w' (by first | assumption | omega | (simp <;> omega) | (constructor <;> (first | omega | (simp only [LenOk]; omega) | (simp <;> omega)))) (hw.rdRes 0 rfl [1] rfl rfl) (hw.give [1] rfl (by decide))).mono ?_
  rintro r2_ w1 ⟨_, rfl, hO⟩
  refine (?_ : CL _ _ _ _ _ _ (Own w [] [Res.row b3 3 [.int .i64 id], Res.vec 3 1 r2_ (delL l id).length ((delL l id).flatMap I1)])) w1 (hw.frameL [1] rfl hO)
  refine l_as rfl ?_
  refine l_end ?_
  exact c_ret (ret1 (v := r2_) rfl rfl (fun w' hw => ⟨r2_, rfl, hw.sel [1] rfl (by decide)⟩))
def ConfA.mem (c : ConfA) (id : Int) : Prop := id ∈ c.vs ∨ id ∈ c.ls
theorem ConfA.ok.disj {c : ConfA} (h : c.ok) {id : Int} (hv : id ∈ c.vs) : id ∉ c.ls := h.2 id hv
theorem Rises.few' {l : List Int} (h : Rises l) : l.length ≤ 16 ∧ ∀ x ∈ l, 0 ≤ x ∧ x ≤ 16 := by
  have key : ∀ k, k ≤ l.length → ∀ j, j < k → (j : Int) + 1 ≤ nth l j := by
    intro k
    induction k with
    | zero => intro _ j hj; omega
    | succ k ih =>
      intro hk j hj
      have hs := (rises_step (k := k) (by omega) (h.take k)).1 (h.take (k + 1))
      by_cases e : j = k
      · subst e
        rcases Nat.eq_zero_or_pos j with rfl | hp
        · simpa using hs.2.1
        · have := ih (by omega) (j - 1) (by omega); have := hs.2.2 hp; omega
      · exact ih (by omega) j (by omega)
  constructor
  · rcases Nat.eq_zero_or_pos l.length with h0 | h0
    · omega
    · have h1 := key l.length (Nat.le_refl _) (l.length - 1) (by omega)
      have h2 := h.2 _ (nth_mem (l := l) (j := l.length - 1) (by omega))
      omega
  · intro x hx
    refine ⟨?_, h.2 x hx⟩
    have := h.1
    rw [List.pairwise_cons] at this
    have := this.1 x hx; omega
theorem few_of {c : ConfD} (h : c.ok) : c.few := ⟨by have := (Rises.few' h.1.1.1).1; omega, by have := (Rises.few' h.1.1.2).1; omega⟩
theorem chg_bad {k : Int} {c : ConfA} {id : Int} (h : ¬ c.ok) : chg k c id = (⟨[], []⟩, 2) := if_pos h
theorem chg_arg {k : Int} {c : ConfA} {id : Int} (h : c.ok) (h1 : ¬ (1 ≤ id ∧ id ≤ 16)) : chg k c id = (⟨[], []⟩, 1) := by unfold chg; rw [if_neg (by simpa using h), if_pos h1]
theorem chg_1 {c : ConfD} {id : Int} (h : c.ok) (h1 : 1 ≤ id ∧ id ≤ 16) : chg 1 c.a id = if id ∈ c.vs ∨ id ∈ c.ls then (⟨[], []⟩, 9) else (⟨c.vs, withR c.ls id⟩, 0) := by
  have h : c.a.ok := h
  unfold chg; rw [if_neg (by simpa using h), if_neg (by simpa using h1), if_pos rfl]; rfl
theorem chg_2 {c : ConfD} {id : Int} (h : c.ok) (h1 : 1 ≤ id ∧ id ≤ 16) : chg 2 c.a id = if id ∈ c.ls then (⟨withR c.vs id, delL c.ls id⟩, 0) else (⟨[], []⟩, 8) := by
  have h : c.a.ok := h
  unfold chg; rw [if_neg (by simpa using h), if_neg (by simpa using h1), if_neg (by decide), if_pos rfl]; rfl
theorem chg_3 {k : Int} {c : ConfD} {id : Int} (h : c.ok) (h1 : 1 ≤ id ∧ id ≤ 16) (hk : k ≠ 1) (hk2 : k ≠ 2) : chg k c.a id = if ¬ (id ∈ c.vs ∨ id ∈ c.ls) then (⟨[], []⟩, 8) else if id ∈ c.vs ∧ c.vs.length = 1 then (⟨[], []⟩, 15) else (⟨delL c.vs id, delL c.ls id⟩, 0) := by
  have h : c.a.ok := h
  unfold chg; rw [if_neg (by simpa using h), if_neg (by simpa using h1), if_neg hk, if_neg hk2]; rfl

def begE (p : Prop) [Decidable p] (id : Int) : Int := if ¬ p then 2 else if ¬ (1 ≤ id ∧ id ≤ 16) then 1 else 0
theorem begE_err {p : Prop} [Decidable p] {id : Int} (h : errOf p ≠ 0) : errOf p = begE p id := by
  have hp : ¬ p := fun q => h (errOf_T q)
  rw [errOf_F hp]; unfold begE; rw [if_pos hp]
theorem begE_arg {p : Prop} [Decidable p] {id : Int} (h : ¬ errOf p ≠ 0) (h1 : ¬ (1 ≤ id ∧ id ≤ 16)) : 1 = begE p id := by
  have hp : p := errOf_zero.1 (Decidable.not_not.1 h)
  unfold begE; rw [if_neg (by simpa using hp), if_pos h1]
theorem begE_ok {p : Prop} [Decidable p] {id : Int} (hp : p) (h1 : 1 ≤ id ∧ id ≤ 16) : begE p id = 0 := by
  unfold begE; rw [if_neg (by simpa using hp), if_neg (by simpa using h1)]
theorem begE_zero {p : Prop} [Decidable p] {id : Int} (h : ¬ begE p id ≠ 0) : p ∧ 1 ≤ id ∧ id ≤ 16 := by
  have h := Decidable.not_not.1 h
  unfold begE at h
  by_cases hp : p
  · by_cases h1 : 1 ≤ id ∧ id ≤ 16
    · exact ⟨hp, h1⟩
    · rw [if_neg (by simpa using hp), if_pos h1] at h; cases h
  · rw [if_pos hp] at h; cases h
theorem chg_beg {k : Int} {c : ConfD} {id : Int} (h : begE c.ok id ≠ 0) : chg k c.a id = (⟨[], []⟩, begE c.ok id) := by
  by_cases hp : c.ok
  · by_cases h1 : 1 ≤ id ∧ id ≤ 16
    · exact absurd (begE_ok hp h1) h
    · rw [chg_arg (c := c.a) hp h1]; unfold begE; rw [if_neg (by simpa using hp), if_pos h1]
  · rw [chg_bad (c := c.a) hp]; unfold begE; rw [if_pos hp]
theorem one_mem {l : List Int} {x : Int} (h : l.length = 1) : x ∈ l ↔ nth l 0 = x := by
  match l, h with
  | [a], _ => simp [nth]; exact eq_comm

theorem begin_s (c : ConfD) (id : Int) (w : World) (hf : c.few) (rd_c : ConfD.rd c w []) : Rets Try.prog 36 #[.agg (ConfD.cells c).toArray, .int .i64 id] w fun u_ w' => u_ = .int .i64 (begE c.ok id) ∧ Own w [] [] w' := by
  refine fn_enter (args := [.agg (ConfD.cells c).toArray, .int .i64 id]) Try.func36 rfl Try.ntmps36 rfl (Own.start w) ?_
  refine c_reg ?_
  refine l_box rfl rfl (fun b2 => ?_)
  refine l_as rfl ?_
  refine l_end ?_
  refine c_seq ?_
  refine c_reg ?_
  refine l_ldr (cs := (ConfD.cells c)) 0 rfl rfl (by kernel_rfl) rfl ?_
  refine l_call (by kernel_rfl) rfl rfl (fun w' hw => ?_)
  refine (check_s c w' (by first | assumption | omega | (simp <;> omega) | (constructor <;> (first | omega | (simp only [LenOk]; omega) | (simp <;> omega)))) (rd_c.at0 hw)).mono ?_
  rintro _ w1 ⟨rfl, hO⟩
  refine (?_ : CL _ _ _ _ _ _ (Own w [] [Res.row b2 24 (ConfD.cells c)])) w1 (hw.frame0 hO)
  refine l_as rfl ?_
  refine l_end ?_
  refine c_reg ?_
  refine l_mv rfl ?_
  refine l_ne rfl rfl rfl ?_
  refine l_end ?_
  refine c_dec rfl (fun c1 => ?_) (fun c1 => ?_)
  ·
    refine c_reg ?_
    refine l_mv rfl ?_
    refine l_as rfl ?_
    refine l_end ?_
    exact c_ret (ret1 (v := .int .i64 (errOf c.ok)) rfl rfl (fun w' hw => ⟨(by congr 1; exact begE_err c1), hw.drop⟩))
  ·
    refine c_skipC ?_
    refine c_seq ?_
    refine c_reg ?_
    refine l_mv rfl ?_
    refine l_lss rfl rfl rfl ?_
    refine l_mv rfl ?_
    refine l_bor (q := id < 1) 2 2 [15, 14] (16 < id) rfl rfl rfl rfl rfl rfl trivial rfl (fun h4_2 => ?_) (fun g4_5 => ?_)
    ·
      refine l_on rfl (gF h4_2) ?_
      refine l_mv rfl ?_
      refine l_on rfl (gF h4_2) ?_
      refine l_gtr rfl rfl rfl ?_
      exact l_nil (fun w' hw => ⟨(by repeat (first | exact Out.refl _ _ | refine Out.upd rfl ?_ | refine Out.msk rfl ?_)), rfl, hw⟩)
    refine l_end ?_
    refine c_dec rfl (fun c2 => ?_) (fun c2 => ?_)
    ·
      refine c_reg ?_
      refine l_as rfl ?_
      refine l_end ?_
      exact c_ret (ret1 (v := .int .i64 1) rfl rfl (fun w' hw => ⟨(by congr 1; exact begE_arg c1 (by omega)), hw.drop⟩))
    ·
      refine c_skipC ?_
      refine c_reg ?_
      refine l_as rfl ?_
      refine l_end ?_
      exact c_ret (ret1 (v := .int .i64 0) rfl rfl (fun w' hw => ⟨(by congr 1; exact (begE_ok (errOf_zero.1 (Decidable.not_not.1 c1)) (by omega)).symm), hw.drop⟩))
theorem learn_s (c : ConfD) (id : Int) (w : World) (hf : c.few) (rd_c : ConfD.rd c w []) : Rets Try.prog 25 #[.agg (ConfD.cells c).toArray, .int .i64 id] w fun u_ w' => ∃ (a : Value) (vs : List Int) (b : Value) (ls : List Int) (e : Int), u_ = .tuple #[.agg #[a, b], .int .i64 e] ∧ chg 1 c.a id = (⟨vs, ls⟩, e) ∧ Own w [] [Res.vec 3 1 a vs.length (vs.flatMap I1), Res.vec 3 1 b ls.length (ls.flatMap I1)] w' := by
  have hc := hf.wf
  have hv := hf.vs
  have hl := hf.ls
  refine fn_enter (args := [.agg (ConfD.cells c).toArray, .int .i64 id]) Try.func25 rfl Try.ntmps25 rfl (Own.start w) ?_
  refine c_reg ?_
  refine l_box rfl rfl (fun b2 => ?_)
  refine l_new (v := .agg #[.slice none 0 0, .slice none 0 0]) (by kernel_rfl) rfl (fun b4 => ?_)
  refine l_as rfl ?_
  refine l_end ?_
  refine c_seq ?_
  refine c_reg ?_
  refine l_ldr (cs := (ConfD.cells c)) 0 rfl rfl (by kernel_rfl) rfl ?_
  refine l_mv rfl ?_
  refine l_call (by kernel_rfl) rfl rfl (fun w' hw => ?_)
  refine (begin_s c id w' (by first | assumption | omega | (simp <;> omega) | (constructor <;> (first | omega | (simp only [LenOk]; omega) | (simp <;> omega)))) (rd_c.at0 hw)).mono ?_
  rintro _ w1 ⟨rfl, hO⟩
  refine (?_ : CL _ _ _ _ _ _ (Own w [] [Res.row b2 24 (ConfD.cells c), Res.row b4 24 [.slice none 0 0, .slice none 0 0]])) w1 (hw.frame0 hO)
  refine l_as rfl ?_
  refine l_end ?_
  refine c_reg ?_
  refine l_mv rfl ?_
  refine l_ne rfl rfl rfl ?_
  refine l_end ?_
  refine c_dec rfl (fun c1 => ?_) (fun c1 => ?_)
  ·
    refine c_reg ?_
    refine l_bld (cs := [.slice none 0 0, .slice none 0 0]) (z := [.slice none 0 0, .slice none 0 0]) (pl := [(0, 1), (1, 1)]) (by kernel_rfl) (by kernel_rfl) rfl ?_
    refine l_mv rfl ?_
    refine l_stN (cs := [.slice none 0 0, .slice none 0 0]) (vs := [.slice none 0 0, .slice none 0 0]) 1 rfl rfl rfl (by kernel_rfl) (allc_cons rfl (allc_cons rfl allc_nil)) (Nat.le_of_ble_eq_true rfl) ?_
    refine l_as rfl ?_
    refine l_end ?_
    exact c_ret (retc2 (cs := [.slice none 0 0, .slice none 0 0]) (v := .int .i64 (begE c.ok id)) rfl rfl rfl (by kernel_rfl) (Own.rowCells (i := 1) rfl) (fun w' hw => ⟨.slice none 0 0, [], .slice none 0 0, [], (begE c.ok id), rfl, chg_beg c1, (own_nil (own_nil hw 3 1) 3 1).sel [2, 3] rfl (by decide)⟩))
  ·
    obtain ⟨hok, hid⟩ := begE_zero c1
    refine c_skipC ?_
    refine c_seq ?_
    refine c_reg ?_
    refine l_ldr (cs := (ConfD.cells c)) 0 rfl rfl (by kernel_rfl) rfl ?_
    refine l_mv rfl ?_
    refine l_call (by kernel_rfl) rfl rfl (fun w' hw => ?_)
    refine (member_s c id w' (by first | assumption | omega | (simp <;> omega) | (constructor <;> (first | omega | (simp only [LenOk]; omega) | (simp <;> omega)))) (rd_c.at0 hw)).mono ?_
    rintro _ w1 ⟨rfl, hO⟩
    refine (?_ : CL _ _ _ _ _ _ (Own w [] [Res.row b2 24 (ConfD.cells c), Res.row b4 24 [.slice none 0 0, .slice none 0 0]])) w1 (hw.frame0 hO)
    refine l_end ?_
    refine c_dec rfl (fun c2 => ?_) (fun c2 => ?_)
    ·
      refine c_reg ?_
      refine l_bld (cs := [.slice none 0 0, .slice none 0 0]) (z := [.slice none 0 0, .slice none 0 0]) (pl := [(0, 1), (1, 1)]) (by kernel_rfl) (by kernel_rfl) rfl ?_
      refine l_stN (cs := [.slice none 0 0, .slice none 0 0]) (vs := [.slice none 0 0, .slice none 0 0]) 1 rfl rfl rfl (by kernel_rfl) (allc_cons rfl (allc_cons rfl allc_nil)) (Nat.le_of_ble_eq_true rfl) ?_
      refine l_as rfl ?_
      refine l_end ?_
      exact c_ret (retc2 (cs := [.slice none 0 0, .slice none 0 0]) (v := .int .i64 9) rfl rfl rfl (by kernel_rfl) (Own.rowCells (i := 1) rfl) (fun w' hw => ⟨.slice none 0 0, [], .slice none 0 0, [], 9, rfl, (by rw [chg_1 hok hid, if_pos c2.2]), (own_nil (own_nil hw 3 1) 3 1).sel [2, 3] rfl (by decide)⟩))
    ·
      refine c_skipC ?_
      refine c_seq ?_
      refine c_heldo [0] rfl (by decide) (by kernel_rfl) (fun w' hw hS => ?_)
      refine h_take 0 rfl (by kernel_rfl) (by kernel_rfl) (by kernel_rfl) (v_fld (o := 0) rfl (by kernel_rfl)) rfl hS ?_
      refine h_take 1 rfl (by kernel_rfl) (by kernel_rfl) (by kernel_rfl) (v_ldo 0 (v := c.vv) rfl rfl rfl (by kernel_rfl)) rfl hS ?_
      refine h_take 3 rfl (by kernel_rfl) (by kernel_rfl) (by kernel_rfl) (v_fld (o := 1) rfl (by kernel_rfl)) rfl hS ?_
      refine h_take 4 rfl (by kernel_rfl) (by kernel_rfl) (by kernel_rfl) (v_ldo 0 (v := c.lv) rfl rfl rfl (by kernel_rfl)) rfl hS ?_
      refine h_take 5 rfl (by kernel_rfl) (by kernel_rfl) (by kernel_rfl) (v_mv) rfl hS ?_
      refine h_one 2 (by kernel_rfl) rfl hw ?_
      refine l_call (by kernel_rfl) rfl rfl (fun w' hw => ?_)
      refine (clone_s c.vv c.vs w' (by first | assumption | omega | (simp <;> omega) | (constructor <;> (first | omega | (simp only [LenOk]; omega) | (simp <;> omega)))) (hw.rd0 rd_c.vv)).mono ?_
      rintro r1_ w1 ⟨_, rfl, hO⟩
      refine (?_ : CL _ _ _ _ _ _ (Own w [] [Res.row b2 24 (ConfD.cells c), Res.row b4 24 [.slice none 0 0, .slice none 0 0], Res.vec 3 1 r1_ c.vs.length (c.vs.flatMap I1)])) w1 (hw.frame0 hO)
      refine l_nil (fun w' hw => ?_)
      have hS := hw.sel [0] rfl (by decide)
      refine ⟨hS, ?_⟩
      refine h_one 6 (by kernel_rfl) rfl hw ?_
      refine l_call (by kernel_rfl) rfl rfl (fun w' hw => ?_)
      refine (with_s c.lv c.ls id w' (by show _ ≤ _; omega) hok.1.1.2.lt (fun h => c2 ⟨hok, .inr h⟩) (hw.rd0 rd_c.lv)).mono ?_
      rintro r2_ w1 ⟨_, rfl, hO⟩
      refine (?_ : CL _ _ _ _ _ _ (Own w [] [Res.row b2 24 (ConfD.cells c), Res.row b4 24 [.slice none 0 0, .slice none 0 0], Res.vec 3 1 r1_ c.vs.length (c.vs.flatMap I1), Res.vec 3 1 r2_ (withR c.ls id).length ((withR c.ls id).flatMap I1)])) w1 (hw.frame0 hO)
      refine l_nil (fun w' hw => ?_)
      have hS := hw.sel [0] rfl (by decide)
      refine ⟨hS, ?_⟩
      refine h_one 7 (by kernel_rfl) rfl hw ?_
      refine l_haveO (fun w' hw => Own.cell1Vec (i := 2) rfl hw) (fun hc3_ => ?_)
      refine l_haveO (fun w' hw => Own.cell1Vec (i := 3) rfl hw) (fun hc4_ => ?_)
      refine l_bldc (cs := [r1_, r2_]) (z := [.slice none 0 0, .slice none 0 0]) (pl := [(0, 1), (1, 1)]) (by kernel_rfl) ⟨hc3_, hc4_, trivial⟩ (by kernel_rfl) rfl ?_
      refine l_nil (fun w' hw => ?_)
      have hS := hw.sel [0] rfl (by decide)
      refine ⟨hS, ?_⟩
      refine h_one 8 (by kernel_rfl) rfl hw ?_
      refine l_stN (cs := [.slice none 0 0, .slice none 0 0]) (vs := [r1_, r2_]) 1 rfl rfl rfl (by kernel_rfl) (allc_cons hc3_ (allc_cons hc4_ allc_nil)) (Nat.le_of_ble_eq_true rfl) ?_
      refine l_nil (fun w' hw => ?_)
      have hS := hw.sel [0] rfl (by decide)
      refine ⟨hS, ?_⟩
      refine h_take 9 rfl (by kernel_rfl) (by kernel_rfl) (by kernel_rfl) (v_as) rfl hS ?_
      refine h_done (by kernel_rfl) ?_
      refine (?_ : C _ _ _ _ _ _ _ (Own w [] [Res.row b2 24 (ConfD.cells c), Res.row b4 24 [r1_, r2_], Res.vec 3 1 r1_ c.vs.length (c.vs.flatMap I1), Res.vec 3 1 r2_ (withR c.ls id).length ((withR c.ls id).flatMap I1)])) _ hw
      exact c_ret (retc2 (cs := [r1_, r2_]) (v := .int .i64 0) rfl rfl rfl (by kernel_rfl) (Own.rowCells (i := 1) rfl) (fun w' hw => ⟨r1_, c.vs, r2_, (withR c.ls id), 0, rfl, (by rw [chg_1 hok hid, if_neg (fun h => c2 ⟨hok, h⟩)]), hw.sel [2, 3] rfl (by decide)⟩))
theorem vote_s (c : ConfD) (id : Int) (w : World) (hf : c.few) (rd_c : ConfD.rd c w []) : Rets Try.prog 27 #[.agg (ConfD.cells c).toArray, .int .i64 id] w fun u_ w' => ∃ (a : Value) (vs : List Int) (b : Value) (ls : List Int) (e : Int), u_ = .tuple #[.agg #[a, b], .int .i64 e] ∧ chg 2 c.a id = (⟨vs, ls⟩, e) ∧ Own w [] [Res.vec 3 1 a vs.length (vs.flatMap I1), Res.vec 3 1 b ls.length (ls.flatMap I1)] w' := by
  have hc := hf.wf
  have hv := hf.vs
  have hl := hf.ls
  refine fn_enter (args := [.agg (ConfD.cells c).toArray, .int .i64 id]) Try.func27 rfl Try.ntmps27 rfl (Own.start w) ?_
  refine c_reg ?_
  refine l_box rfl rfl (fun b2 => ?_)
  refine l_new (v := .agg #[.slice none 0 0, .slice none 0 0]) (by kernel_rfl) rfl (fun b4 => ?_)
  refine l_as rfl ?_
  refine l_end ?_
  refine c_seq ?_
  refine c_reg ?_
  refine l_ldr (cs := (ConfD.cells c)) 0 rfl rfl (by kernel_rfl) rfl ?_
  refine l_mv rfl ?_
  refine l_call (by kernel_rfl) rfl rfl (fun w' hw => ?_)
  refine (begin_s c id w' (by first | assumption | omega | (simp <;> omega) | (constructor <;> (first | omega | (simp only [LenOk]; omega) | (simp <;> omega)))) (rd_c.at0 hw)).mono ?_
  rintro _ w1 ⟨rfl, hO⟩
  refine (?_ : CL _ _ _ _ _ _ (Own w [] [Res.row b2 24 (ConfD.cells c), Res.row b4 24 [.slice none 0 0, .slice none 0 0]])) w1 (hw.frame0 hO)
  refine l_as rfl ?_
  refine l_end ?_
  refine c_reg ?_
  refine l_mv rfl ?_
  refine l_ne rfl rfl rfl ?_
  refine l_end ?_
  refine c_dec rfl (fun c1 => ?_) (fun c1 => ?_)
  ·
    refine c_reg ?_
    refine l_bld (cs := [.slice none 0 0, .slice none 0 0]) (z := [.slice none 0 0, .slice none 0 0]) (pl := [(0, 1), (1, 1)]) (by kernel_rfl) (by kernel_rfl) rfl ?_
    refine l_mv rfl ?_
    refine l_stN (cs := [.slice none 0 0, .slice none 0 0]) (vs := [.slice none 0 0, .slice none 0 0]) 1 rfl rfl rfl (by kernel_rfl) (allc_cons rfl (allc_cons rfl allc_nil)) (Nat.le_of_ble_eq_true rfl) ?_
    refine l_as rfl ?_
    refine l_end ?_
    exact c_ret (retc2 (cs := [.slice none 0 0, .slice none 0 0]) (v := .int .i64 (begE c.ok id)) rfl rfl rfl (by kernel_rfl) (Own.rowCells (i := 1) rfl) (fun w' hw => ⟨.slice none 0 0, [], .slice none 0 0, [], (begE c.ok id), rfl, chg_beg c1, (own_nil (own_nil hw 3 1) 3 1).sel [2, 3] rfl (by decide)⟩))
  ·
    obtain ⟨hok, hid⟩ := begE_zero c1
    refine c_skipC ?_
    refine c_seq ?_
    refine c_reg ?_
    refine l_fld (o := 1) rfl (by kernel_rfl) rfl ?_
    refine l_ldo 0 (v := c.lv) rfl rfl rfl (by kernel_rfl) rfl ?_
    refine l_mv rfl ?_
    refine l_call (by kernel_rfl) rfl rfl (fun w' hw => ?_)
    refine (contains_cs c.lv c.ls id w' (by first | assumption | omega | (simp <;> omega) | (constructor <;> (first | omega | (simp only [LenOk]; omega) | (simp <;> omega)))) (hw.rd0 rd_c.lv)).mono ?_
    rintro _ w1 ⟨rfl, hO⟩
    refine (?_ : CL _ _ _ _ _ _ (Own w [] [Res.row b2 24 (ConfD.cells c), Res.row b4 24 [.slice none 0 0, .slice none 0 0]])) w1 (hw.frame0 hO)
    refine l_notp (q := id ∈ c.ls) rfl rfl ?_
    refine l_end ?_
    refine c_dec rfl (fun c2 => ?_) (fun c2 => ?_)
    ·
      refine c_reg ?_
      refine l_bld (cs := [.slice none 0 0, .slice none 0 0]) (z := [.slice none 0 0, .slice none 0 0]) (pl := [(0, 1), (1, 1)]) (by kernel_rfl) (by kernel_rfl) rfl ?_
      refine l_stN (cs := [.slice none 0 0, .slice none 0 0]) (vs := [.slice none 0 0, .slice none 0 0]) 1 rfl rfl rfl (by kernel_rfl) (allc_cons rfl (allc_cons rfl allc_nil)) (Nat.le_of_ble_eq_true rfl) ?_
      refine l_as rfl ?_
      refine l_end ?_
      exact c_ret (retc2 (cs := [.slice none 0 0, .slice none 0 0]) (v := .int .i64 8) rfl rfl rfl (by kernel_rfl) (Own.rowCells (i := 1) rfl) (fun w' hw => ⟨.slice none 0 0, [], .slice none 0 0, [], 8, rfl, (by rw [chg_2 hok hid, if_neg c2]), (own_nil (own_nil hw 3 1) 3 1).sel [2, 3] rfl (by decide)⟩))
    ·
      refine c_skipC ?_
      refine c_seq ?_
      refine c_heldo [0] rfl (by decide) (by kernel_rfl) (fun w' hw hS => ?_)
      refine h_take 0 rfl (by kernel_rfl) (by kernel_rfl) (by kernel_rfl) (v_fld (o := 0) rfl (by kernel_rfl)) rfl hS ?_
      refine h_take 1 rfl (by kernel_rfl) (by kernel_rfl) (by kernel_rfl) (v_ldo 0 (v := c.vv) rfl rfl rfl (by kernel_rfl)) rfl hS ?_
      refine h_take 2 rfl (by kernel_rfl) (by kernel_rfl) (by kernel_rfl) (v_mv) rfl hS ?_
      refine h_take 4 rfl (by kernel_rfl) (by kernel_rfl) (by kernel_rfl) (v_fld (o := 1) rfl (by kernel_rfl)) rfl hS ?_
      refine h_take 5 rfl (by kernel_rfl) (by kernel_rfl) (by kernel_rfl) (v_ldo 0 (v := c.lv) rfl rfl rfl (by kernel_rfl)) rfl hS ?_
      refine h_take 6 rfl (by kernel_rfl) (by kernel_rfl) (by kernel_rfl) (v_mv) rfl hS ?_
      refine h_one 3 (by kernel_rfl) rfl hw ?_
      refine l_call (by kernel_rfl) rfl rfl (fun w' hw => ?_)
      refine (with_s c.vv c.vs id w' (by show _ ≤ _; omega) hok.1.1.1.lt (fun h => hok.2 id h (Decidable.not_not.1 c2)) (hw.rd0 rd_c.vv)).mono ?_
      rintro r1_ w1 ⟨_, rfl, hO⟩
      refine (?_ : CL _ _ _ _ _ _ (Own w [] [Res.row b2 24 (ConfD.cells c), Res.row b4 24 [.slice none 0 0, .slice none 0 0], Res.vec 3 1 r1_ (withR c.vs id).length ((withR c.vs id).flatMap I1)])) w1 (hw.frame0 hO)
      refine l_nil (fun w' hw => ?_)
      have hS := hw.sel [0] rfl (by decide)
      refine ⟨hS, ?_⟩
      refine h_one 7 (by kernel_rfl) rfl hw ?_
      refine l_call (by kernel_rfl) rfl rfl (fun w' hw => ?_)
      refine (without_s c.lv c.ls id w' (by first | assumption | omega | (simp <;> omega) | (constructor <;> (first | omega | (simp only [LenOk]; omega) | (simp <;> omega)))) (hw.rd0 rd_c.lv)).mono ?_
      rintro r2_ w1 ⟨_, rfl, hO⟩
      refine (?_ : CL _ _ _ _ _ _ (Own w [] [Res.row b2 24 (ConfD.cells c), Res.row b4 24 [.slice none 0 0, .slice none 0 0], Res.vec 3 1 r1_ (withR c.vs id).length ((withR c.vs id).flatMap I1), Res.vec 3 1 r2_ (delL c.ls id).length ((delL c.ls id).flatMap I1)])) w1 (hw.frame0 hO)
      refine l_nil (fun w' hw => ?_)
      have hS := hw.sel [0] rfl (by decide)
      refine ⟨hS, ?_⟩
      refine h_one 8 (by kernel_rfl) rfl hw ?_
      refine l_haveO (fun w' hw => Own.cell1Vec (i := 2) rfl hw) (fun hc3_ => ?_)
      refine l_haveO (fun w' hw => Own.cell1Vec (i := 3) rfl hw) (fun hc4_ => ?_)
      refine l_bldc (cs := [r1_, r2_]) (z := [.slice none 0 0, .slice none 0 0]) (pl := [(0, 1), (1, 1)]) (by kernel_rfl) ⟨hc3_, hc4_, trivial⟩ (by kernel_rfl) rfl ?_
      refine l_nil (fun w' hw => ?_)
      have hS := hw.sel [0] rfl (by decide)
      refine ⟨hS, ?_⟩
      refine h_one 9 (by kernel_rfl) rfl hw ?_
      refine l_stN (cs := [.slice none 0 0, .slice none 0 0]) (vs := [r1_, r2_]) 1 rfl rfl rfl (by kernel_rfl) (allc_cons hc3_ (allc_cons hc4_ allc_nil)) (Nat.le_of_ble_eq_true rfl) ?_
      refine l_nil (fun w' hw => ?_)
      have hS := hw.sel [0] rfl (by decide)
      refine ⟨hS, ?_⟩
      refine h_take 10 rfl (by kernel_rfl) (by kernel_rfl) (by kernel_rfl) (v_as) rfl hS ?_
      refine h_done (by kernel_rfl) ?_
      refine (?_ : C _ _ _ _ _ _ _ (Own w [] [Res.row b2 24 (ConfD.cells c), Res.row b4 24 [r1_, r2_], Res.vec 3 1 r1_ (withR c.vs id).length ((withR c.vs id).flatMap I1), Res.vec 3 1 r2_ (delL c.ls id).length ((delL c.ls id).flatMap I1)])) _ hw
      exact c_ret (retc2 (cs := [r1_, r2_]) (v := .int .i64 0) rfl rfl rfl (by kernel_rfl) (Own.rowCells (i := 1) rfl) (fun w' hw => ⟨r1_, (withR c.vs id), r2_, (delL c.ls id), 0, rfl, (by rw [chg_2 hok hid, if_pos (Decidable.not_not.1 c2)]), hw.sel [2, 3] rfl (by decide)⟩))
theorem leave_s (c : ConfD) (id : Int) (w : World) (hf : c.few) (rd_c : ConfD.rd c w []) : Rets Try.prog 26 #[.agg (ConfD.cells c).toArray, .int .i64 id] w fun u_ w' => ∃ (a : Value) (vs : List Int) (b : Value) (ls : List Int) (e : Int), u_ = .tuple #[.agg #[a, b], .int .i64 e] ∧ chg 3 c.a id = (⟨vs, ls⟩, e) ∧ Own w [] [Res.vec 3 1 a vs.length (vs.flatMap I1), Res.vec 3 1 b ls.length (ls.flatMap I1)] w' := by
  have hc := hf.wf
  have hv := hf.vs
  have hl := hf.ls
  refine fn_enter (args := [.agg (ConfD.cells c).toArray, .int .i64 id]) Try.func26 rfl Try.ntmps26 rfl (Own.start w) ?_
  refine c_reg ?_
  refine l_box rfl rfl (fun b2 => ?_)
  refine l_new (v := .agg #[.slice none 0 0, .slice none 0 0]) (by kernel_rfl) rfl (fun b4 => ?_)
  refine l_as rfl ?_
  refine l_end ?_
  refine c_seq ?_
  refine c_reg ?_
  refine l_ldr (cs := (ConfD.cells c)) 0 rfl rfl (by kernel_rfl) rfl ?_
  refine l_mv rfl ?_
  refine l_call (by kernel_rfl) rfl rfl (fun w' hw => ?_)
  refine (begin_s c id w' (by first | assumption | omega | (simp <;> omega) | (constructor <;> (first | omega | (simp only [LenOk]; omega) | (simp <;> omega)))) (rd_c.at0 hw)).mono ?_
  rintro _ w1 ⟨rfl, hO⟩
  refine (?_ : CL _ _ _ _ _ _ (Own w [] [Res.row b2 24 (ConfD.cells c), Res.row b4 24 [.slice none 0 0, .slice none 0 0]])) w1 (hw.frame0 hO)
  refine l_as rfl ?_
  refine l_end ?_
  refine c_reg ?_
  refine l_mv rfl ?_
  refine l_ne rfl rfl rfl ?_
  refine l_end ?_
  refine c_dec rfl (fun c1 => ?_) (fun c1 => ?_)
  ·
    refine c_reg ?_
    refine l_bld (cs := [.slice none 0 0, .slice none 0 0]) (z := [.slice none 0 0, .slice none 0 0]) (pl := [(0, 1), (1, 1)]) (by kernel_rfl) (by kernel_rfl) rfl ?_
    refine l_mv rfl ?_
    refine l_stN (cs := [.slice none 0 0, .slice none 0 0]) (vs := [.slice none 0 0, .slice none 0 0]) 1 rfl rfl rfl (by kernel_rfl) (allc_cons rfl (allc_cons rfl allc_nil)) (Nat.le_of_ble_eq_true rfl) ?_
    refine l_as rfl ?_
    refine l_end ?_
    exact c_ret (retc2 (cs := [.slice none 0 0, .slice none 0 0]) (v := .int .i64 (begE c.ok id)) rfl rfl rfl (by kernel_rfl) (Own.rowCells (i := 1) rfl) (fun w' hw => ⟨.slice none 0 0, [], .slice none 0 0, [], (begE c.ok id), rfl, chg_beg c1, (own_nil (own_nil hw 3 1) 3 1).sel [2, 3] rfl (by decide)⟩))
  ·
    obtain ⟨hok, hid⟩ := begE_zero c1
    refine c_skipC ?_
    refine c_seq ?_
    refine c_block ?_
    refine c_reg ?_
    refine l_ldr (cs := (ConfD.cells c)) 0 rfl rfl (by kernel_rfl) rfl ?_
    refine l_mv rfl ?_
    refine l_call (by kernel_rfl) rfl rfl (fun w' hw => ?_)
    refine (member_s c id w' (by first | assumption | omega | (simp <;> omega) | (constructor <;> (first | omega | (simp only [LenOk]; omega) | (simp <;> omega)))) (rd_c.at0 hw)).mono ?_
    rintro _ w1 ⟨rfl, hO⟩
    refine (?_ : CL _ _ _ _ _ _ (Own w [] [Res.row b2 24 (ConfD.cells c), Res.row b4 24 [.slice none 0 0, .slice none 0 0]])) w1 (hw.frame0 hO)
    refine l_notp (q := c.ok ∧ (id ∈ c.vs ∨ id ∈ c.ls)) rfl rfl ?_
    refine l_as rfl ?_
    refine l_end ?_
    refine c_dec rfl (fun c2 => ?_) (fun c2 => ?_)
    ·
      refine c_reg ?_
      refine l_bld (cs := [.slice none 0 0, .slice none 0 0]) (z := [.slice none 0 0, .slice none 0 0]) (pl := [(0, 1), (1, 1)]) (by kernel_rfl) (by kernel_rfl) rfl ?_
      refine l_stN (cs := [.slice none 0 0, .slice none 0 0]) (vs := [.slice none 0 0, .slice none 0 0]) 1 rfl rfl rfl (by kernel_rfl) (allc_cons rfl (allc_cons rfl allc_nil)) (Nat.le_of_ble_eq_true rfl) ?_
      refine l_as rfl ?_
      refine l_end ?_
      exact c_ret (retc2 (cs := [.slice none 0 0, .slice none 0 0]) (v := .int .i64 8) rfl rfl rfl (by kernel_rfl) (Own.rowCells (i := 1) rfl) (fun w' hw => ⟨.slice none 0 0, [], .slice none 0 0, [], 8, rfl, (by rw [chg_3 hok hid (by decide) (by decide), if_pos (fun h => c2 ⟨hok, h⟩)]), (own_nil (own_nil hw 3 1) 3 1).sel [2, 3] rfl (by decide)⟩))
    ·
      have hme : id ∈ c.vs ∨ id ∈ c.ls := (Decidable.not_not.1 c2).2
      refine c_reg ?_
      refine l_fld (o := 0) rfl (by kernel_rfl) rfl ?_
      refine l_ldo 0 (v := c.vv) rfl rfl rfl (by kernel_rfl) rfl ?_
      refine l_lenS (len := c.vs.length) (cs := (c.vs.flatMap I1)) (by kernel_rfl) rfl (fun w' hw' => Own.rd rd_c.vv hw') rfl ?_
      refine l_eq rfl rfl rfl ?_
      refine l_mv rfl ?_
      refine l_band (q := ((c.vs.length : Nat) : Int) = 1) 6 4 [31, 30, 29, 28, 27, 26] ((nth c.vs 0) = id) rfl rfl rfl rfl rfl rfl trivial rfl (fun h6_4 => ?_) (fun g6_11 => ?_)
      ·
        refine l_on rfl (gT h6_4) ?_
        refine l_fld (o := 0) rfl (by kernel_rfl) rfl ?_
        refine l_on rfl (gT h6_4) ?_
        refine l_ldo 0 (v := c.vv) rfl rfl rfl (by kernel_rfl) rfl ?_
        refine l_on rfl (gT h6_4) ?_
        refine l_idxS (j := 0) (sz := 1) (len := c.vs.length) (cs := (c.vs.flatMap I1)) rfl rfl (by kernel_rfl) (fun w' hw' => Own.rd rd_c.vv hw') rfl (by omega) rfl ?_
        refine l_on rfl (gT h6_4) ?_
        refine l_ldS (v := c.vv) (off := offV c.vv + 0 * 1) (0 * 1 + 0) (cs := (c.vs.flatMap I1)) rfl (by omega) (fun w' hw' => Own.rd rd_c.vv hw') (flat_at (sz := 1) (fun _ => rfl) (nth_some (by omega)) (i := 0) rfl) (by kernel_rfl) rfl ?_
        refine l_on rfl (gT h6_4) ?_
        refine l_mv rfl ?_
        refine l_on rfl (gT h6_4) ?_
        refine l_eq rfl rfl rfl ?_
        exact l_nil (fun w' hw => ⟨(by repeat (first | exact Out.refl _ _ | refine Out.upd rfl ?_ | refine Out.msk rfl ?_)), rfl, hw⟩)
      refine l_as rfl ?_
      refine l_end ?_
      refine c_dec rfl (fun c3 => ?_) (fun c3 => ?_)
      ·
        refine c_reg ?_
        refine l_bld (cs := [.slice none 0 0, .slice none 0 0]) (z := [.slice none 0 0, .slice none 0 0]) (pl := [(0, 1), (1, 1)]) (by kernel_rfl) (by kernel_rfl) rfl ?_
        refine l_stN (cs := [.slice none 0 0, .slice none 0 0]) (vs := [.slice none 0 0, .slice none 0 0]) 1 rfl rfl rfl (by kernel_rfl) (allc_cons rfl (allc_cons rfl allc_nil)) (Nat.le_of_ble_eq_true rfl) ?_
        refine l_as rfl ?_
        refine l_end ?_
        exact c_ret (retc2 (cs := [.slice none 0 0, .slice none 0 0]) (v := .int .i64 15) rfl rfl rfl (by kernel_rfl) (Own.rowCells (i := 1) rfl) (fun w' hw => ⟨.slice none 0 0, [], .slice none 0 0, [], 15, rfl, (by rw [chg_3 hok hid (by decide) (by decide), if_neg (fun h => h hme), if_pos ⟨(one_mem (by omega)).2 c3.2, show c.vs.length = 1 by omega⟩]), (own_nil (own_nil hw 3 1) 3 1).sel [2, 3] rfl (by decide)⟩))
      ·
        refine c_skipC ?_
        refine c_seq ?_
        refine c_heldo [0] rfl (by decide) (by kernel_rfl) (fun w' hw hS => ?_)
        refine h_take 0 rfl (by kernel_rfl) (by kernel_rfl) (by kernel_rfl) (v_fld (o := 0) rfl (by kernel_rfl)) rfl hS ?_
        refine h_take 1 rfl (by kernel_rfl) (by kernel_rfl) (by kernel_rfl) (v_ldo 0 (v := c.vv) rfl rfl rfl (by kernel_rfl)) rfl hS ?_
        refine h_take 2 rfl (by kernel_rfl) (by kernel_rfl) (by kernel_rfl) (v_mv) rfl hS ?_
        refine h_take 4 rfl (by kernel_rfl) (by kernel_rfl) (by kernel_rfl) (v_fld (o := 1) rfl (by kernel_rfl)) rfl hS ?_
        refine h_take 5 rfl (by kernel_rfl) (by kernel_rfl) (by kernel_rfl) (v_ldo 0 (v := c.lv) rfl rfl rfl (by kernel_rfl)) rfl hS ?_
        refine h_take 6 rfl (by kernel_rfl) (by kernel_rfl) (by kernel_rfl) (v_mv) rfl hS ?_
        refine h_one 3 (by kernel_rfl) rfl hw ?_
        refine l_call (by kernel_rfl) rfl rfl (fun w' hw => ?_)
        refine (without_s c.vv c.vs id w' (by first | assumption | omega | (simp <;> omega) | (constructor <;> (first | omega | (simp only [LenOk]; omega) | (simp <;> omega)))) (hw.rd0 rd_c.vv)).mono ?_
        rintro r1_ w1 ⟨_, rfl, hO⟩
        refine (?_ : CL _ _ _ _ _ _ (Own w [] [Res.row b2 24 (ConfD.cells c), Res.row b4 24 [.slice none 0 0, .slice none 0 0], Res.vec 3 1 r1_ (delL c.vs id).length ((delL c.vs id).flatMap I1)])) w1 (hw.frame0 hO)
        refine l_nil (fun w' hw => ?_)
        have hS := hw.sel [0] rfl (by decide)
        refine ⟨hS, ?_⟩
        refine h_one 7 (by kernel_rfl) rfl hw ?_
        refine l_call (by kernel_rfl) rfl rfl (fun w' hw => ?_)
        refine (without_s c.lv c.ls id w' (by first | assumption | omega | (simp <;> omega) | (constructor <;> (first | omega | (simp only [LenOk]; omega) | (simp <;> omega)))) (hw.rd0 rd_c.lv)).mono ?_
        rintro r2_ w1 ⟨_, rfl, hO⟩
        refine (?_ : CL _ _ _ _ _ _ (Own w [] [Res.row b2 24 (ConfD.cells c), Res.row b4 24 [.slice none 0 0, .slice none 0 0], Res.vec 3 1 r1_ (delL c.vs id).length ((delL c.vs id).flatMap I1), Res.vec 3 1 r2_ (delL c.ls id).length ((delL c.ls id).flatMap I1)])) w1 (hw.frame0 hO)
        refine l_nil (fun w' hw => ?_)
        have hS := hw.sel [0] rfl (by decide)
        refine ⟨hS, ?_⟩
        refine h_one 8 (by kernel_rfl) rfl hw ?_
        refine l_haveO (fun w' hw => Own.cell1Vec (i := 2) rfl hw) (fun hc3_ => ?_)
        refine l_haveO (fun w' hw => Own.cell1Vec (i := 3) rfl hw) (fun hc4_ => ?_)
        refine l_bldc (cs := [r1_, r2_]) (z := [.slice none 0 0, .slice none 0 0]) (pl := [(0, 1), (1, 1)]) (by kernel_rfl) ⟨hc3_, hc4_, trivial⟩ (by kernel_rfl) rfl ?_
        refine l_nil (fun w' hw => ?_)
        have hS := hw.sel [0] rfl (by decide)
        refine ⟨hS, ?_⟩
        refine h_one 9 (by kernel_rfl) rfl hw ?_
        refine l_stN (cs := [.slice none 0 0, .slice none 0 0]) (vs := [r1_, r2_]) 1 rfl rfl rfl (by kernel_rfl) (allc_cons hc3_ (allc_cons hc4_ allc_nil)) (Nat.le_of_ble_eq_true rfl) ?_
        refine l_nil (fun w' hw => ?_)
        have hS := hw.sel [0] rfl (by decide)
        refine ⟨hS, ?_⟩
        refine h_take 10 rfl (by kernel_rfl) (by kernel_rfl) (by kernel_rfl) (v_as) rfl hS ?_
        refine h_done (by kernel_rfl) ?_
        refine (?_ : C _ _ _ _ _ _ _ (Own w [] [Res.row b2 24 (ConfD.cells c), Res.row b4 24 [r1_, r2_], Res.vec 3 1 r1_ (delL c.vs id).length ((delL c.vs id).flatMap I1), Res.vec 3 1 r2_ (delL c.ls id).length ((delL c.ls id).flatMap I1)])) _ hw
        exact c_ret (retc2 (cs := [r1_, r2_]) (v := .int .i64 0) rfl rfl rfl (by kernel_rfl) (Own.rowCells (i := 1) rfl) (fun w' hw => ⟨r1_, (delL c.vs id), r2_, (delL c.ls id), 0, rfl, (by rw [chg_3 hok hid (by decide) (by decide), if_neg (fun h => h hme), if_neg (fun h => c3 ⟨by have : c.vs.length = 1 := h.2; omega, (one_mem h.2).1 h.1⟩)]), hw.sel [2, 3] rfl (by decide)⟩))
theorem change_s (kind : Int) (c : ConfD) (id : Int) (w : World) (hf : c.few) (hk : 1 ≤ kind ∧ kind ≤ 3) (rd_c : ConfD.rd c w []) : Rets Try.prog 21 #[.int .i64 kind, .agg (ConfD.cells c).toArray, .int .i64 id] w fun u_ w' => ∃ (a : Value) (vs : List Int) (b : Value) (ls : List Int) (e : Int), u_ = .tuple #[.agg #[a, b], .int .i64 e] ∧ chg kind c.a id = (⟨vs, ls⟩, e) ∧ Own w [] [Res.vec 3 1 a vs.length (vs.flatMap I1), Res.vec 3 1 b ls.length (ls.flatMap I1)] w' := by
  have hc := hf.wf
  refine fn_enter (args := [.int .i64 kind, .agg (ConfD.cells c).toArray, .int .i64 id]) Try.func21 rfl Try.ntmps21 rfl (Own.start w) ?_
  refine c_reg ?_
  refine l_box rfl rfl (fun b4 => ?_)
  refine l_new (v := .agg #[.slice none 0 0, .slice none 0 0]) (by kernel_rfl) rfl (fun b6 => ?_)
  refine l_as rfl ?_
  refine l_end ?_
  refine c_seq ?_
  refine c_reg ?_
  refine l_mv rfl ?_
  refine l_end ?_
  refine c_block ?_
  refine c_reg ?_
  refine l_eq rfl rfl rfl ?_
  refine l_as rfl ?_
  refine l_end ?_
  refine c_dec rfl (fun c1 => ?_) (fun c1 => ?_)
  ·
    refine c_reg ?_
    refine l_ldr (cs := (ConfD.cells c)) 0 rfl rfl (by kernel_rfl) rfl ?_
    refine l_call (by kernel_rfl) rfl rfl (fun w' hw => ?_)
    refine (ownConf_s c w' (by first | assumption | omega | (simp <;> omega) | (constructor <;> (first | omega | (simp only [LenOk]; omega) | (simp <;> omega)))) (rd_c.at0 hw)).mono ?_
    rintro _ w1 ⟨a1_, b2_, rfl, hO⟩
    refine (?_ : CL _ _ _ _ _ _ (Own w [] [Res.row b4 24 (ConfD.cells c), Res.row b6 24 [.slice none 0 0, .slice none 0 0], Res.vec 3 1 a1_ c.vs.length (c.vs.flatMap I1), Res.vec 3 1 b2_ c.ls.length (c.ls.flatMap I1)])) w1 (hw.frame0 hO)
    refine l_mv rfl ?_
    refine l_call (by kernel_rfl) rfl rfl (fun w' hw => ?_)
    refine (learn_s ({ c with vv := a1_, lv := b2_ } : ConfD) id w' ⟨hf.vs, hf.ls⟩ ⟨(hw.rdVec0 2 rfl), (hw.rdVec0 3 rfl)⟩).mono ?_
    rintro _ w1 ⟨a3_, vs4_, b5_, ls6_, e7_, rfl, hf3_3, hO⟩
    refine (?_ : CL _ _ _ _ _ _ (Own w [] [Res.row b4 24 (ConfD.cells c), Res.row b6 24 [.slice none 0 0, .slice none 0 0], Res.vec 3 1 a1_ c.vs.length (c.vs.flatMap I1), Res.vec 3 1 b2_ c.ls.length (c.ls.flatMap I1), Res.vec 3 1 a3_ vs4_.length (vs4_.flatMap I1), Res.vec 3 1 b5_ ls6_.length (ls6_.flatMap I1)])) w1 (hw.frame0 hO)
    refine l_ext (vs := [.agg #[a3_, b5_], .int .i64 e7_]) rfl rfl rfl ?_
    refine l_ext (vs := [.agg #[a3_, b5_], .int .i64 e7_]) rfl rfl rfl ?_
    refine l_haveO (fun w' hw => Own.cell1Vec (i := 4) rfl hw) (fun hc1_ => ?_)
    refine l_haveO (fun w' hw => Own.cell1Vec (i := 5) rfl hw) (fun hc2_ => ?_)
    refine l_stN (cs := [.slice none 0 0, .slice none 0 0]) (vs := [a3_, b5_]) 1 rfl rfl rfl (by kernel_rfl) (allc_cons hc1_ (allc_cons hc2_ allc_nil)) (Nat.le_of_ble_eq_true rfl) ?_
    refine l_as rfl ?_
    refine l_end ?_
    exact c_ret (retc2 (cs := [a3_, b5_]) (v := .int .i64 e7_) rfl rfl rfl (by kernel_rfl) (Own.rowCells (i := 1) rfl) (fun w' hw => ⟨a3_, vs4_, b5_, ls6_, e7_, rfl, (by rw [c1]; exact hf3_3), hw.sel [4, 5] rfl (by decide)⟩))
  ·
    refine c_reg ?_
    refine l_eq rfl rfl rfl ?_
    refine l_as rfl ?_
    refine l_end ?_
    refine c_dec rfl (fun c2 => ?_) (fun c2 => ?_)
    ·
      refine c_reg ?_
      refine l_ldr (cs := (ConfD.cells c)) 0 rfl rfl (by kernel_rfl) rfl ?_
      refine l_call (by kernel_rfl) rfl rfl (fun w' hw => ?_)
      refine (ownConf_s c w' (by first | assumption | omega | (simp <;> omega) | (constructor <;> (first | omega | (simp only [LenOk]; omega) | (simp <;> omega)))) (rd_c.at0 hw)).mono ?_
      rintro _ w1 ⟨a8_, b9_, rfl, hO⟩
      refine (?_ : CL _ _ _ _ _ _ (Own w [] [Res.row b4 24 (ConfD.cells c), Res.row b6 24 [.slice none 0 0, .slice none 0 0], Res.vec 3 1 a8_ c.vs.length (c.vs.flatMap I1), Res.vec 3 1 b9_ c.ls.length (c.ls.flatMap I1)])) w1 (hw.frame0 hO)
      refine l_mv rfl ?_
      refine l_call (by kernel_rfl) rfl rfl (fun w' hw => ?_)
      refine (vote_s ({ c with vv := a8_, lv := b9_ } : ConfD) id w' ⟨hf.vs, hf.ls⟩ ⟨(hw.rdVec0 2 rfl), (hw.rdVec0 3 rfl)⟩).mono ?_
      rintro _ w1 ⟨a10_, vs11_, b12_, ls13_, e14_, rfl, hf5_3, hO⟩
      refine (?_ : CL _ _ _ _ _ _ (Own w [] [Res.row b4 24 (ConfD.cells c), Res.row b6 24 [.slice none 0 0, .slice none 0 0], Res.vec 3 1 a8_ c.vs.length (c.vs.flatMap I1), Res.vec 3 1 b9_ c.ls.length (c.ls.flatMap I1), Res.vec 3 1 a10_ vs11_.length (vs11_.flatMap I1), Res.vec 3 1 b12_ ls13_.length (ls13_.flatMap I1)])) w1 (hw.frame0 hO)
      refine l_ext (vs := [.agg #[a10_, b12_], .int .i64 e14_]) rfl rfl rfl ?_
      refine l_ext (vs := [.agg #[a10_, b12_], .int .i64 e14_]) rfl rfl rfl ?_
      refine l_haveO (fun w' hw => Own.cell1Vec (i := 4) rfl hw) (fun hc3_ => ?_)
      refine l_haveO (fun w' hw => Own.cell1Vec (i := 5) rfl hw) (fun hc4_ => ?_)
      refine l_stN (cs := [.slice none 0 0, .slice none 0 0]) (vs := [a10_, b12_]) 1 rfl rfl rfl (by kernel_rfl) (allc_cons hc3_ (allc_cons hc4_ allc_nil)) (Nat.le_of_ble_eq_true rfl) ?_
      refine l_as rfl ?_
      refine l_end ?_
      exact c_ret (retc2 (cs := [a10_, b12_]) (v := .int .i64 e14_) rfl rfl rfl (by kernel_rfl) (Own.rowCells (i := 1) rfl) (fun w' hw => ⟨a10_, vs11_, b12_, ls13_, e14_, rfl, (by rw [c2]; exact hf5_3), hw.sel [4, 5] rfl (by decide)⟩))
    ·
      refine c_skipC ?_
      refine c_reg ?_
      refine l_ldr (cs := (ConfD.cells c)) 0 rfl rfl (by kernel_rfl) rfl ?_
      refine l_call (by kernel_rfl) rfl rfl (fun w' hw => ?_)
      refine (ownConf_s c w' (by first | assumption | omega | (simp <;> omega) | (constructor <;> (first | omega | (simp only [LenOk]; omega) | (simp <;> omega)))) (rd_c.at0 hw)).mono ?_
      rintro _ w1 ⟨a15_, b16_, rfl, hO⟩
      refine (?_ : CL _ _ _ _ _ _ (Own w [] [Res.row b4 24 (ConfD.cells c), Res.row b6 24 [.slice none 0 0, .slice none 0 0], Res.vec 3 1 a15_ c.vs.length (c.vs.flatMap I1), Res.vec 3 1 b16_ c.ls.length (c.ls.flatMap I1)])) w1 (hw.frame0 hO)
      refine l_mv rfl ?_
      refine l_call (by kernel_rfl) rfl rfl (fun w' hw => ?_)
      refine (leave_s ({ c with vv := a15_, lv := b16_ } : ConfD) id w' ⟨hf.vs, hf.ls⟩ ⟨(hw.rdVec0 2 rfl), (hw.rdVec0 3 rfl)⟩).mono ?_
      rintro _ w1 ⟨a17_, vs18_, b19_, ls20_, e21_, rfl, hf6_3, hO⟩
      refine (?_ : CL _ _ _ _ _ _ (Own w [] [Res.row b4 24 (ConfD.cells c), Res.row b6 24 [.slice none 0 0, .slice none 0 0], Res.vec 3 1 a15_ c.vs.length (c.vs.flatMap I1), Res.vec 3 1 b16_ c.ls.length (c.ls.flatMap I1), Res.vec 3 1 a17_ vs18_.length (vs18_.flatMap I1), Res.vec 3 1 b19_ ls20_.length (ls20_.flatMap I1)])) w1 (hw.frame0 hO)
      refine l_ext (vs := [.agg #[a17_, b19_], .int .i64 e21_]) rfl rfl rfl ?_
      refine l_ext (vs := [.agg #[a17_, b19_], .int .i64 e21_]) rfl rfl rfl ?_
      refine l_haveO (fun w' hw => Own.cell1Vec (i := 4) rfl hw) (fun hc5_ => ?_)
      refine l_haveO (fun w' hw => Own.cell1Vec (i := 5) rfl hw) (fun hc6_ => ?_)
      refine l_stN (cs := [.slice none 0 0, .slice none 0 0]) (vs := [a17_, b19_]) 1 rfl rfl rfl (by kernel_rfl) (allc_cons hc5_ (allc_cons hc6_ allc_nil)) (Nat.le_of_ble_eq_true rfl) ?_
      refine l_as rfl ?_
      refine l_end ?_
      exact c_ret (retc2 (cs := [a17_, b19_]) (v := .int .i64 e21_) rfl rfl rfl (by kernel_rfl) (Own.rowCells (i := 1) rfl) (fun w' hw => ⟨a17_, vs18_, b19_, ls20_, e21_, rfl, (by rw [show kind = 3 by omega]; exact hf6_3), hw.sel [4, 5] rfl (by decide)⟩))
end Go.Proofs.Ytniiobmkcbeknaa
