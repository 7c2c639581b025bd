/-
  ConfReached is true of every input that is not greater than the statement's bound: the program returns, it returns true, and what came in reads as it did. Condition: the bulk that the statement names.
-/
import Derived.Test.YtniiobmkcbeknaaConfB
import Derived.Test.YtniiobmkcbeknaaConfRd
import Derived.Test.YtniiobmkcbeknaaValsU
set_option linter.unusedVariables false
set_option maxRecDepth 10000
namespace Go.Proofs.Ytniiobmkcbeknaa
open Go Go.Sc Go.Proofs Go.RowKit Go.ChangeShapes Go.WideShapes

/-- How many are as great, how many are greater. -/
def cge (l : List Nat) (x : Nat) : Nat := (l.filter fun y => decide (x ≤ y)).length
def cgt (l : List Nat) (x : Nat) : Nat := (l.filter fun y => decide (x < y)).length
def Most (l : List Nat) (x : Nat) : Prop := l.length < 2 * cge l x
instance (l : List Nat) (x : Nat) : Decidable (Most l x) := inferInstanceAs (Decidable (_ < _))
theorem cge_le (l : List Nat) (x : Nat) : cge l x ≤ l.length := List.length_filter_le _ _
theorem cge_snoc (l : List Nat) (x y : Nat) : cge (l ++ [y]) x = cge l x + if x ≤ y then 1 else 0 := by
  unfold cge
  rw [List.filter_append, List.length_append]
  by_cases h : x ≤ y <;> simp [h]
theorem cge_perm {l m : List Nat} (h : l.Perm m) (x : Nat) : cge l x = cge m x := (h.filter _).length_eq
theorem cgt_perm {l m : List Nat} (h : l.Perm m) (x : Nat) : cgt l x = cgt m x := (h.filter _).length_eq
theorem pair_le {s : List Nat} (h : s.Pairwise fun x y => ole x y) {i j : Nat} (hij : i ≤ j) (hj : j < s.length) : nth s i ≤ nth s j := by
  by_cases e : i = j
  · rw [e]; exact Nat.le_refl _
  · have := List.pairwise_iff_getElem.1 h i j (by omega) hj (by omega)
    have e1 := nth_eq (List.getElem?_eq_getElem (show i < s.length by omega))
    have e2 := nth_eq (List.getElem?_eq_getElem hj)
    rw [e1, e2]
    exact ole_nat.1 this
theorem mid_ge {s : List Nat} (h : s.Pairwise fun x y => ole x y) {q : Nat} (hq : q < s.length) : s.length ≤ q + cge s (nth s q) := by
  have hd : ∀ y ∈ s.drop q, decide (nth s q ≤ y) = true := by
    intro y hy
    obtain ⟨k, hk⟩ := List.mem_iff_getElem?.1 hy
    rw [List.getElem?_drop] at hk
    have hlt := (List.getElem?_eq_some_iff.1 hk).1
    rw [← nth_eq hk]
    exact decide_eq_true (pair_le h (by omega) hlt)
  have e : cge s (nth s q) = cge (s.take q) (nth s q) + cge (s.drop q) (nth s q) := by
    unfold cge
    rw [← List.length_append, ← List.filter_append, List.take_append_drop]
  have e2 : cge (s.drop q) (nth s q) = s.length - q := by
    unfold cge
    rw [List.filter_eq_self.2 hd, List.length_drop]
  omega
theorem mid_gt {s : List Nat} (h : s.Pairwise fun x y => ole x y) {q : Nat} (hq : q < s.length) : cgt s (nth s q) + (q + 1) ≤ s.length := by
  have ht : ∀ y ∈ s.take (q + 1), ¬ (decide (nth s q < y) = true) := by
    intro y hy
    obtain ⟨k, hk⟩ := List.mem_iff_getElem?.1 hy
    have hlt := (List.getElem?_eq_some_iff.1 hk).1
    rw [List.length_take] at hlt
    rw [List.getElem?_take, if_pos (by omega)] at hk
    rw [← nth_eq hk]
    have := pair_le h (show k ≤ q by omega) hq
    simp; omega
  have e : cgt s (nth s q) = cgt (s.take (q + 1)) (nth s q) + cgt (s.drop (q + 1)) (nth s q) := by
    unfold cgt
    rw [← List.length_append, ← List.filter_append, List.take_append_drop]
  have e2 : cgt (s.take (q + 1)) (nth s q) = 0 := by
    unfold cgt
    rw [List.filter_eq_nil_iff.2 ht]; rfl
  have e3 : cgt (s.drop (q + 1)) (nth s q) ≤ s.length - (q + 1) := by
    unfold cgt
    refine Nat.le_trans (List.length_filter_le _ _) ?_
    rw [List.length_drop]; exact Nat.le_refl _
  omega
/-- What more than half reach. -/
theorem reach_mid {l s : List Nat} (hp : s.Perm l) (h : s.Pairwise fun x y => ole x y) (h0 : 0 < l.length) : Most l (nth s ((l.length - 1) / 2)) ∧ 2 * cgt l (nth s ((l.length - 1) / 2)) ≤ l.length ∧ nth s ((l.length - 1) / 2) ∈ l := by
  have hl := hp.length_eq
  have h1 := mid_ge h (q := (l.length - 1) / 2) (by omega)
  have h2 := mid_gt h (q := (l.length - 1) / 2) (by omega)
  rw [cge_perm hp] at h1
  rw [cgt_perm hp] at h2
  refine ⟨?_, ?_, hp.mem_iff.1 (nth_mem (by omega))⟩
  · unfold Most; omega
  · omega
theorem cge_cgt {l : List Nat} {m b : Nat} (h : m < b) : cge l b ≤ cgt l m := by
  unfold cge cgt
  refine (List.Sublist.length_le ?_)
  have : l.filter (fun y => decide (b ≤ y)) = (l.filter fun y => decide (m < y)).filter fun y => decide (b ≤ y) := by
    rw [List.filter_filter]
    congr 1
    funext y
    by_cases q : b ≤ y
    · simp [q]; omega
    · simp [q]
  rw [this]
  exact List.filter_sublist
def ReachedIs (c : ConfD) (l : List Nat) (n : Nat) (e : Int) : Prop :=
  (¬ c.ok → n = 0 ∧ e = 2) ∧ (c.ok → l.length ≠ c.vs.length → n = 0 ∧ e = 1) ∧ (c.ok → l.length = c.vs.length → e = 0 ∧ Most l n ∧ 2 * cgt l n ≤ l.length ∧ n ∈ l)
theorem reached_bad {c : ConfD} {l : List Nat} (h : errOf c.ok ≠ 0) : ReachedIs c l 0 (errOf c.ok) :=
  have hn : ¬ c.ok := fun q => h (errOf_zero.2 q)
  ⟨fun _ => ⟨rfl, errOf_F hn⟩, fun q => absurd q hn, fun q => absurd q hn⟩
theorem reached_len {c : ConfD} {l : List Nat} (h : ¬ errOf c.ok ≠ 0) (h2 : ((l.length : Nat) : Int) ≠ ((c.vs.length : Nat) : Int)) : ReachedIs c l 0 1 :=
  have hn : c.ok := errOf_zero.1 (Decidable.not_not.1 h)
  ⟨fun q => absurd hn q, fun _ _ => ⟨rfl, rfl⟩, fun _ q => absurd q (by omega)⟩
theorem reached_pos {c : ConfD} {l : List Nat} (h : ¬ errOf c.ok ≠ 0) (h2 : ¬ ((l.length : Nat) : Int) ≠ ((c.vs.length : Nat) : Int)) : 0 < l.length := by
  have hn : c.ok := errOf_zero.1 (Decidable.not_not.1 h)
  have := hn.1.2
  omega
theorem reached_ok {c : ConfD} {l s : List Nat} (h : ¬ errOf c.ok ≠ 0) (h2 : ¬ ((l.length : Nat) : Int) ≠ ((c.vs.length : Nat) : Int)) (hp : s.Perm l) (hs : s.Pairwise fun x y => ole x y) : ReachedIs c l (nth s ((s.length - 1) / 2)) 0 := by
  have hn : c.ok := errOf_zero.1 (Decidable.not_not.1 h)
  have h0 := reached_pos h h2
  have := reach_mid hp hs h0
  rw [hp.length_eq]
  exact ⟨fun q => absurd hn q, fun _ q => absurd q (by omega), fun _ _ => ⟨rfl, this⟩⟩
theorem reached_s (c : ConfD) (v : Value) (l : List Nat) (w : World) (hf : c.few) (hl : l.length ≤ 1000000000) (rd_c : ConfD.rd c w (fps [Res.vec 35 1 v l.length (l.flatMap U1)])) (hin : Own w (fps [Res.vec 35 1 v l.length (l.flatMap U1)]) [Res.vec 35 1 v l.length (l.flatMap U1)] w) : Rets Try.prog 19 #[.agg (ConfD.cells c).toArray, v] w fun u_ w' => ∃ (n : Nat) (e : Int), u_ = .tuple #[.int .u64 (n : Nat), .int .i64 e] ∧ ReachedIs c l n e ∧ Own w (fps [Res.vec 35 1 v l.length (l.flatMap U1)]) [Res.vec 35 1 v l.length (l.flatMap U1)] w' := by
  refine fn_enter (args := [.agg (ConfD.cells c).toArray, v]) Try.func19 rfl Try.ntmps19 rfl (show Own w (fps [Res.vec 35 1 v l.length (l.flatMap U1)]) [Res.vec 35 1 v l.length (l.flatMap U1)] w from hin) ?_
  refine c_reg ?_
  refine l_box rfl rfl (fun b2 => ?_)
  refine l_as rfl ?_
  refine l_as rfl ?_
  refine l_end ?_
  refine c_seq ?_
  refine c_reg ?_
  refine l_ldr (cs := (ConfD.cells c)) 1 rfl rfl (by kernel_rfl) rfl ?_
  refine l_call (by kernel_rfl) rfl rfl (fun w' hw => ?_)
  refine (check_s c w' (by first | assumption | omega | (simp <;> omega) | (constructor <;> (first | omega | (simp only [LenOk]; omega) | (simp <;> omega)))) (rd_c.at0 hw)).mono ?_
  rintro _ w1 ⟨rfl, hO⟩
  refine (?_ : CL _ _ _ _ _ _ (Own w (fps [Res.vec 35 1 v l.length (l.flatMap U1)]) [Res.vec 35 1 v l.length (l.flatMap U1), Res.row b2 24 (ConfD.cells c)])) w1 (hw.frame0 hO)
  refine l_as rfl ?_
  refine l_end ?_
  refine c_reg ?_
  refine l_mv rfl ?_
  refine l_ne rfl rfl rfl ?_
  refine l_end ?_
  refine c_dec rfl (fun c1 => ?_) (fun c1 => ?_)
  ·
    refine c_reg ?_
    refine l_mv rfl ?_
    refine l_as rfl ?_
    refine l_as rfl ?_
    refine l_end ?_
    exact c_ret (ret2 (v := .int .u64 (0 : Nat)) (v' := .int .i64 (errOf c.ok)) rfl rfl rfl (fun w' hw => ⟨0, errOf c.ok, rfl, reached_bad c1, hw.sel [0] rfl (by decide)⟩))
  ·
    refine c_skipC ?_
    refine c_seq ?_
    refine c_reg ?_
    refine l_mv rfl ?_
    refine l_lenS (len := l.length) (cs := (l.flatMap U1)) (by kernel_rfl) rfl (fun w' hw' => Vec.sl (Own.holds hw' 0 _ rfl)) rfl ?_
    refine l_fld (o := 0) rfl (by kernel_rfl) rfl ?_
    refine l_ldo 1 (v := c.vv) rfl rfl rfl (by kernel_rfl) rfl ?_
    refine l_lenS (len := c.vs.length) (cs := (c.vs.flatMap I1)) (by kernel_rfl) rfl (fun w' hw' => Own.rd rd_c.vv hw') rfl ?_
    refine l_ne rfl rfl rfl ?_
    refine l_end ?_
    refine c_dec rfl (fun c2 => ?_) (fun c2 => ?_)
    ·
      refine c_reg ?_
      refine l_as rfl ?_
      refine l_as rfl ?_
      refine l_end ?_
      exact c_ret (ret2 (v := .int .u64 (0 : Nat)) (v' := .int .i64 1) rfl rfl rfl (fun w' hw => ⟨0, 1, rfl, reached_len c1 c2, hw.sel [0] rfl (by decide)⟩))
    ·
      refine c_skipC ?_
      refine c_reg ?_
      refine l_mv rfl ?_
      refine l_call (by kernel_rfl) rfl rfl (fun w' hw => ?_)
      refine (vals_u v l w' (hw.give [0] rfl (by decide))).mono ?_
      rintro _ w1 ⟨b1_, rfl, hO⟩
      refine (?_ : CL _ _ _ _ _ _ (Own w (fps [Res.vec 35 1 v l.length (l.flatMap U1)]) [Res.row b2 24 (ConfD.cells c), Res.vec 35 1 v l.length (l.flatMap U1), Res.row b1_ 34 [v]])) w1 (hw.frameL [0] rfl hO)
      refine l_call (by kernel_rfl) rfl rfl (fun w' hw => ?_)
      refine (sorted_vu b1_ v l w' (by first | assumption | omega | (simp <;> omega) | (constructor <;> (first | omega | (simp only [LenOk]; omega) | (simp <;> omega)))) (hw.give [2, 1] rfl (by decide))).mono ?_
      rintro v'2_ w1 ⟨_, l'3_, rfl, hf6_2, hf6_2_1, hO⟩
      have hsl := hf6_2.length_eq
      have h0 := reached_pos c1 c2
      refine (?_ : CL _ _ _ _ _ _ (Own w (fps [Res.vec 35 1 v l.length (l.flatMap U1)]) [Res.row b2 24 (ConfD.cells c), Res.row b1_ 34 [v], Res.vec 35 1 v l.length (l.flatMap U1), Res.vec 35 1 v'2_ l'3_.length (l'3_.flatMap U1)])) w1 (hw.frameL [2, 1] rfl hO)
      refine l_as rfl ?_
      refine l_end ?_
      refine c_reg ?_
      refine l_mv rfl ?_
      refine l_mv rfl ?_
      refine l_lenS (len := l'3_.length) (cs := (l'3_.flatMap U1)) (by kernel_rfl) rfl (fun w' hw' => Vec.sl (Own.holds hw' 3 _ rfl)) rfl ?_
      refine l_sub (c := ((l'3_.length - 1 : Nat) : Int)) rfl rfl (wsi1 (by omega) (by omega)) rfl ?_
      refine l_quo (c := (((l'3_.length - 1) / 2 : Nat) : Int)) rfl rfl (by decide) (qui (b := 2) (by omega)) rfl ?_
      refine l_idxS (j := (l'3_.length - 1) / 2) (sz := 1) (len := l'3_.length) (cs := (l'3_.flatMap U1)) rfl rfl (by kernel_rfl) (fun w' hw' => Vec.sl (Own.holds hw' 3 _ rfl)) rfl (by omega) rfl ?_
      refine l_ldS (v := v'2_) (off := offV v'2_ + ((l'3_.length - 1) / 2) * 1) (((l'3_.length - 1) / 2) * 1 + 0) (cs := (l'3_.flatMap U1)) rfl (by omega) (fun w' hw' => Vec.sl (Own.holds hw' 3 _ rfl)) (flat_at (sz := 1) (fun _ => rfl) (nth_some (by omega)) (i := 0) rfl) (by kernel_rfl) rfl ?_
      refine l_as rfl ?_
      refine l_as rfl ?_
      refine l_end ?_
      exact c_ret (ret2 (v := .int .u64 ((nth l'3_ ((l'3_.length - 1) / 2)) : Nat)) (v' := .int .i64 0) rfl rfl rfl (fun w' hw => ⟨(nth l'3_ ((l'3_.length - 1) / 2)), 0, rfl, reached_ok c1 c2 hf6_2 hf6_2_1, hw.sel [2] rfl (by decide)⟩))
def RefTo (l : List Nat) (i b : Nat) : Prop := (∀ x ∈ l.take i, Most l x → x ≤ b) ∧ (b = 0 ∨ (b ∈ l ∧ Most l b))
def RefIs (l : List Nat) (b : Nat) : Prop := (∀ x ∈ l, Most l x → x ≤ b) ∧ (b = 0 ∨ (b ∈ l ∧ Most l b))
theorem ref_uniq {l : List Nat} {a b : Nat} (h : RefIs l a) (k : RefIs l b) : a = b := by
  have h1 : a ≤ b := h.2.elim (fun q => by omega) fun q => k.1 a q.1 q.2
  have h2 : b ≤ a := k.2.elim (fun q => by omega) fun q => h.1 b q.1 q.2
  omega
def refReach (l : List Nat) : Nat := (l.filter fun x => decide (Most l x)).foldl max 0
theorem foldl_max : ∀ (l : List Nat) (a : Nat), (∀ x ∈ l, x ≤ l.foldl max a) ∧ a ≤ l.foldl max a ∧ (l.foldl max a = a ∨ l.foldl max a ∈ l)
  | [], a => ⟨by simp, Nat.le_refl _, .inl rfl⟩
  | y :: l, a => by
    obtain ⟨h1, h2, h3⟩ := foldl_max l (max a y)
    rw [List.foldl_cons]
    refine ⟨fun x hx => ?_, by omega, ?_⟩
    · rcases List.mem_cons.1 hx with rfl | q
      · omega
      · exact h1 x q
    · rcases h3 with q | q
      · rw [q]
        rcases Nat.le_total a y with q2 | q2
        · right; rw [Nat.max_eq_right q2]; exact List.mem_cons_self ..
        · left; exact Nat.max_eq_left q2
      · exact .inr (List.mem_cons_of_mem _ q)
theorem refReach_is (l : List Nat) : RefIs l (refReach l) := by
  obtain ⟨h1, h2, h3⟩ := foldl_max (l.filter fun x => decide (Most l x)) 0
  refine ⟨fun x hx hM => h1 x (List.mem_filter.2 ⟨hx, decide_eq_true hM⟩), ?_⟩
  rcases h3 with q | q
  · exact .inl q
  · have := List.mem_filter.1 q
    exact .inr ⟨this.1, of_decide_eq_true this.2⟩
theorem ref_yes {l : List Nat} {i b n : Nat} (h : RefTo l i b) (hi : i < l.length) (hn : n = cge l (nth l i)) (hc : (((l.length - n : Nat) : Int) < ((n : Nat) : Int)) ∧ ((b : Nat) : Int) < ((nth l i : Nat) : Int)) : RefTo l (i + 1) (nth l i) := by
  have hm := nth_mem hi
  have hle := cge_le l (nth l i)
  refine ⟨fun x hx hM => ?_, .inr ⟨hm, by unfold Most; omega⟩⟩
  rw [take_nth hi] at hx
  rcases List.mem_append.1 hx with q | q
  · have := h.1 x q hM; omega
  · rw [List.mem_singleton.1 q]; exact Nat.le_refl _
theorem ref_no {l : List Nat} {i b n : Nat} (h : RefTo l i b) (hi : i < l.length) (hn : n = cge l (nth l i)) (hc : ¬ ((((l.length - n : Nat) : Int) < ((n : Nat) : Int)) ∧ ((b : Nat) : Int) < ((nth l i : Nat) : Int))) : RefTo l (i + 1) b := by
  refine ⟨fun x hx hM => ?_, h.2⟩
  rw [take_nth hi] at hx
  rcases List.mem_append.1 hx with q | q
  · exact h.1 x q hM
  · rw [List.mem_singleton.1 q] at hM ⊢
    unfold Most at hM
    have hle := cge_le l (nth l i)
    exact Nat.le_of_not_lt fun q => hc ⟨by omega, by omega⟩
theorem cge_stepT {l : List Nat} {k x : Nat} (hk : k < l.length) (h : ((x : Nat) : Int) ≤ ((nth l k : Nat) : Int)) : cge (l.take k) x + 1 = cge (l.take (k + 1)) x := by
  rw [take_nth hk, cge_snoc, if_pos (by omega)]
theorem cge_stepF {l : List Nat} {k x : Nat} (hk : k < l.length) (h : ¬ ((x : Nat) : Int) ≤ ((nth l k : Nat) : Int)) : cge (l.take k) x = cge (l.take (k + 1)) x := by
  rw [take_nth hk, cge_snoc, if_neg (by omega), Nat.add_zero]
theorem ref_is {l : List Nat} {n b : Nat} (h : RefIs l b) (h1 : Most l n) (h2 : 2 * cgt l n ≤ l.length) (h3 : n ∈ l) : n = b := by
  have h4 := h.1 n h3 h1
  rcases h.2 with q | ⟨_, q⟩
  · omega
  · rcases Nat.lt_or_ge n b with q2 | q2
    · have := cge_cgt (l := l) q2
      unfold Most at q
      omega
    · omega
theorem refReached_s (v : Value) (l : List Nat) (w : World) (hl : l.length ≤ 1000000000) (hv : Rd w [] (Res.sl v l.length (l.flatMap U1))) : Rets Try.prog 20 #[v] w fun u_ w' => u_ = .int .u64 (refReach l : Nat) ∧ Own w [] [] w' := by
  refine fn_enter (args := [v]) Try.func20 rfl Try.ntmps20 rfl (Own.start w) ?_
  refine c_reg ?_
  refine l_as rfl ?_
  refine l_end ?_
  refine c_reg ?_
  refine l_as rfl ?_
  refine l_end ?_
  refine c_seq ?_
  refine c_reg ?_
  refine l_as rfl ?_
  refine l_end ?_
  refine c_block ?_
  refine c_loop2 (fun (i b : Nat) => [(0, v), (3, .int .u64 (b : Nat)), (4, .int .i64 (i : Nat))]) (fun (i b : Nat) => i ≤ l.length ∧ RefTo l i b) (fun (i b : Nat) => []) (fun (i b : Nat) => l.length - i) (fun w' hw => ⟨0, 0, ⟨rfl, rfl, rfl, trivial⟩, ⟨Nat.zero_le _, by simp [RefTo]⟩, hw⟩) (fun i b g hΦ => ?_)
  have hi1 := hΦ.1
  have hR := hΦ.2
  refine c_seq ?_
  refine c_reg ?_
  refine l_mv rfl ?_
  refine l_mv rfl ?_
  refine l_lenS (len := l.length) (cs := (l.flatMap U1)) (by kernel_rfl) rfl (fun w' hw' => Own.rd hv hw') rfl ?_
  refine l_lss rfl rfl rfl ?_
  refine l_end ?_
  refine c_dec rfl (fun c1 => ?_) (fun c1 => ?_)
  ·
    refine c_skipC ?_
    refine c_seq ?_
    refine c_block ?_
    refine c_reg ?_
    refine l_as rfl ?_
    refine l_end ?_
    refine c_seq ?_
    refine c_reg ?_
    refine l_as rfl ?_
    refine l_end ?_
    refine c_block ?_
    refine c_loop2 (fun (k n : Nat) => [(0, v), (3, .int .u64 (b : Nat)), (4, .int .i64 (i : Nat)), (5, .int .i64 (n : Nat)), (6, .int .i64 (k : Nat))]) (fun (k n : Nat) => k ≤ l.length ∧ n = cge (l.take k) (nth l i)) (fun (k n : Nat) => []) (fun (k n : Nat) => l.length - k) (fun w' hw => ⟨0, 0, ⟨rfl, rfl, rfl, rfl, rfl, trivial⟩, ⟨Nat.zero_le _, rfl⟩, hw⟩) (fun k n g hΦ => ?_)
    have hk1 := hΦ.1
    have hn1 := hΦ.2
    have hn2 : n ≤ k := by rw [hn1]; exact Nat.le_trans (cge_le _ _) (List.length_take_le _ _)
    refine c_seq ?_
    refine c_reg ?_
    refine l_mv rfl ?_
    refine l_mv rfl ?_
    refine l_lenS (len := l.length) (cs := (l.flatMap U1)) (by kernel_rfl) rfl (fun w' hw' => Own.rd hv hw') rfl ?_
    refine l_lss rfl rfl rfl ?_
    refine l_end ?_
    refine c_dec rfl (fun c2 => ?_) (fun c2 => ?_)
    ·
      refine c_skipC ?_
      refine c_seq ?_
      refine c_block ?_
      refine c_quiets (by kernel_rfl) (by kernel_rfl) ?_
      refine q_val rfl (v_mv) ?_
      refine q_val rfl (v_mv) ?_
      refine q_val rfl (v_idxS (j := k) (sz := 1) (len := l.length) (cs := (l.flatMap U1)) rfl rfl (by kernel_rfl) (fun w' hw' => Own.rd hv hw') rfl (by omega)) ?_
      refine q_val rfl (v_ldS (v := v) (off := offV v + k * 1) (k * 1 + 0) (cs := (l.flatMap U1)) rfl (by omega) (fun w' hw' => Own.rd hv hw') (flat_at (sz := 1) (fun _ => rfl) (nth_some (by omega)) (i := 0) rfl) (by kernel_rfl)) ?_
      refine q_val rfl (v_mv) ?_
      refine q_val rfl (v_mv) ?_
      refine q_val rfl (v_idxS (j := i) (sz := 1) (len := l.length) (cs := (l.flatMap U1)) rfl rfl (by kernel_rfl) (fun w' hw' => Own.rd hv hw') rfl (by omega)) ?_
      refine q_val rfl (v_ldS (v := v) (off := offV v + i * 1) (i * 1 + 0) (cs := (l.flatMap U1)) rfl (by omega) (fun w' hw' => Own.rd hv hw') (flat_at (sz := 1) (fun _ => rfl) (nth_some (by omega)) (i := 0) rfl) (by kernel_rfl)) ?_
      refine q_val rfl (v_geq rfl rfl) ?_
      refine q_end ?_
      refine c_dec rfl (fun c3 => ?_) (fun c3 => ?_)
      ·
        refine c_last ?_
        refine l_mv rfl ?_
        refine l_add rfl rfl (wi64 (by omega)) rfl ?_
        refine l_as rfl ?_
        refine l_end ?_
        refine c_last ?_
        refine l_mv rfl ?_
        refine l_add rfl rfl (wi64 (by omega)) rfl ?_
        refine l_as rfl ?_
        exact l_nil (fun w' hw => ⟨k + 1, n + 1, ⟨rfl, rfl, rfl, rfl, rfl, trivial⟩, ⟨by omega, by rw [hn1]; exact cge_stepT (by omega) c3⟩, hw, (by omega)⟩)
      ·
        refine c_skipC ?_
        refine c_last ?_
        refine l_mv rfl ?_
        refine l_add rfl rfl (wi64 (by omega)) rfl ?_
        refine l_as rfl ?_
        exact l_nil (fun w' hw => ⟨k + 1, n, ⟨rfl, rfl, rfl, rfl, rfl, trivial⟩, ⟨by omega, by rw [hn1]; exact cge_stepF (by omega) c3⟩, hw, (by omega)⟩)
    ·
      refine c_exitC rfl ?_
      have hn3 : n = cge l (nth l i) := by rw [List.take_of_length_le (by omega)] at hn1; exact hn1
      refine c_reg ?_
      refine l_mv rfl ?_
      refine l_mv rfl ?_
      refine l_lenS (len := l.length) (cs := (l.flatMap U1)) (by kernel_rfl) rfl (fun w' hw' => Own.rd hv hw') rfl ?_
      refine l_mv rfl ?_
      refine l_sub (c := ((l.length - n : Nat) : Int)) rfl rfl (wsi (by omega) (by omega)) rfl ?_
      refine l_gtr rfl rfl rfl ?_
      refine l_mv rfl ?_
      refine l_band (q := ((l.length - n : Nat) : Int) < ((n : Nat) : Int)) 6 6 [42, 41, 40, 39, 38, 37] (((b : Nat) : Int) < (((nth l i) : Nat) : Int)) rfl rfl rfl rfl rfl rfl trivial rfl (fun h11_6 => ?_) (fun g11_13 => ?_)
      ·
        refine l_on rfl (gT h11_6) ?_
        refine l_mv rfl ?_
        refine l_on rfl (gT h11_6) ?_
        refine l_mv rfl ?_
        refine l_on rfl (gT h11_6) ?_
        refine l_idxS (j := i) (sz := 1) (len := l.length) (cs := (l.flatMap U1)) rfl rfl (by kernel_rfl) (fun w' hw' => Own.rd hv hw') rfl (by omega) rfl ?_
        refine l_on rfl (gT h11_6) ?_
        refine l_ldS (v := v) (off := offV v + i * 1) (i * 1 + 0) (cs := (l.flatMap U1)) rfl (by omega) (fun w' hw' => Own.rd hv hw') (flat_at (sz := 1) (fun _ => rfl) (nth_some (by omega)) (i := 0) rfl) (by kernel_rfl) rfl ?_
        refine l_on rfl (gT h11_6) ?_
        refine l_mv rfl ?_
        refine l_on rfl (gT h11_6) ?_
        refine l_gtr rfl rfl rfl ?_
        exact l_nil (fun w' hw => ⟨(by repeat (first | exact Out.refl _ _ | refine Out.upd rfl ?_ | refine Out.msk rfl ?_)), rfl, hw⟩)
      refine l_end ?_
      refine c_dec rfl (fun c4 => ?_) (fun c4 => ?_)
      ·
        refine c_last ?_
        refine l_mv rfl ?_
        refine l_mv rfl ?_
        refine l_idxS (j := i) (sz := 1) (len := l.length) (cs := (l.flatMap U1)) rfl rfl (by kernel_rfl) (fun w' hw' => Own.rd hv hw') rfl (by omega) rfl ?_
        refine l_ldS (v := v) (off := offV v + i * 1) (i * 1 + 0) (cs := (l.flatMap U1)) rfl (by omega) (fun w' hw' => Own.rd hv hw') (flat_at (sz := 1) (fun _ => rfl) (nth_some (by omega)) (i := 0) rfl) (by kernel_rfl) rfl ?_
        refine l_as rfl ?_
        refine l_end ?_
        refine c_last ?_
        refine l_mv rfl ?_
        refine l_add rfl rfl (wi64 (by omega)) rfl ?_
        refine l_as rfl ?_
        exact l_nil (fun w' hw => ⟨i + 1, nth l i, ⟨rfl, rfl, rfl, trivial⟩, ⟨by omega, ref_yes hR (by omega) hn3 c4⟩, hw, (by omega)⟩)
      ·
        refine c_skipC ?_
        refine c_last ?_
        refine l_mv rfl ?_
        refine l_add rfl rfl (wi64 (by omega)) rfl ?_
        refine l_as rfl ?_
        exact l_nil (fun w' hw => ⟨i + 1, b, ⟨rfl, rfl, rfl, trivial⟩, ⟨by omega, ref_no hR (by omega) hn3 c4⟩, hw, (by omega)⟩)
  ·
    refine c_exitC rfl ?_
    refine c_reg ?_
    refine l_mv rfl ?_
    refine l_as rfl ?_
    refine l_end ?_
    exact c_ret (ret1 (v := .int .u64 (b : Nat)) rfl rfl (fun w' hw => ⟨(by rw [ref_uniq (refReach_is l) (show RefIs l b by have h := hR; unfold RefTo at h; rwa [List.take_of_length_le (by omega)] at h)]), hw.drop⟩))
/-- Of whom p holds of their places. -/
def selV (p : Nat → Bool) (vs : List Int) (l : List Nat) (i : Nat) : List Int := (((vs.zip l).take i).filter fun q => p q.2).map (·.1)
theorem selV_step {p : Nat → Bool} {vs : List Int} {l : List Nat} {i : Nat} (h1 : i < vs.length) (h2 : i < l.length) : selV p vs l (i + 1) = selV p vs l i ++ if p (nth l i) then [nth vs i] else [] := by
  unfold selV
  have h : i < (vs.zip l).length := by rw [List.length_zip]; omega
  have e : (vs.zip l)[i]? = some (nth vs i, nth l i) := by
    rw [List.getElem?_zip_eq_some]
    exact ⟨nth_some h1, nth_some h2⟩
  rw [List.take_add_one, e, List.filter_append, List.map_append]
  congr 1
  by_cases q : p (nth l i) <;> simp [q]
theorem cnt_selV {p : Nat → Bool} {vs : List Int} {l : List Nat} (hv : vs.Nodup) (hl : l.length = vs.length) {i : Nat} (hi : vs.length ≤ i) : cnt vs (selV p vs l i) = (l.filter p).length := by
  have h1 : selV p vs l i = ((vs.zip l).filter fun q => p q.2).map (·.1) := by
    unfold selV
    rw [List.take_of_length_le (by rw [List.length_zip]; omega)]
  have hsub : (selV p vs l i).Sublist vs := by
    rw [h1]
    have := (List.filter_sublist (p := fun q : Int × Nat => p q.2) (l := vs.zip l)).map (·.1)
    rwa [List.map_fst_zip (by omega)] at this
  have h2 : (vs.filter (· ∈ selV p vs l i)).Perm (selV p vs l i) := by
    refine (List.perm_ext_iff_of_nodup (hv.filter _) (hv.sublist hsub)).2 fun a => ?_
    rw [List.mem_filter]
    simp only [decide_eq_true_eq]
    exact ⟨fun h => h.2, fun h => ⟨hsub.subset h, h⟩⟩
  unfold cnt
  rw [h2.length_eq, h1, List.length_map]
  have h3 : l = (vs.zip l).map (·.2) := (List.map_snd_zip (by omega)).symm
  conv => rhs; rw [h3, List.filter_map, List.length_map]
  rfl
theorem selV_len (p : Nat → Bool) (vs : List Int) (l : List Nat) (i : Nat) : (selV p vs l i).length ≤ l.length := by
  unfold selV
  rw [List.length_map]
  refine Nat.le_trans (List.length_filter_le _ _) ?_
  rw [List.length_take, List.length_zip]
  omega
theorem ans_bad {c : ConfD} {l : List Nat} {n : Nat} {e : Int} (h : ReachedIs c l n e) (hc : ¬ c.ok) : e = 2 ∧ ((n : Nat) : Int) = ((0 : Nat) : Int) := by
  obtain ⟨h1, h2⟩ := h.1 hc; exact ⟨h2, by rw [h1]⟩
theorem ans_len {c : ConfD} {l : List Nat} {n : Nat} {e : Int} (h : ReachedIs c l n e) (hc : c.ok) (hl : ((l.length : Nat) : Int) ≠ ((c.vs.length : Nat) : Int)) : e = 1 ∧ ((n : Nat) : Int) = ((0 : Nat) : Int) := by
  obtain ⟨h1, h2⟩ := h.2.1 hc (fun q => hl (by rw [q])); exact ⟨h2, by rw [h1]⟩
theorem ok_nodup {c : ConfD} (h : c.ok) : c.vs.Nodup := ((List.pairwise_cons.1 h.1.1.1.1).2).imp fun q => by omega
theorem ans_ok {c d : ConfD} {l : List Nat} {n : Nat} {e : Int} (h : ReachedIs d l n e) (hd : d.vs = c.vs) (hok : d.ok ↔ c.ok) (hc : c.ok) (hl : ¬ ((l.length : Nat) : Int) ≠ ((c.vs.length : Nat) : Int)) {i : Nat} (hi : l.length ≤ i) :
    (((e = 0 ∧ ((n : Nat) : Int) = ((refReach l : Nat) : Int)) ∧ c.quorum (selV (fun y => decide (n ≤ y)) c.vs l i)) ∧ ¬ c.quorum (selV (fun y => decide (n < y)) c.vs l i)) := by
  have hl' : l.length = c.vs.length := by omega
  obtain ⟨h0, h1, h2, h3⟩ := h.2.2 (hok.2 hc) (by rw [hd]; exact hl')
  refine ⟨⟨⟨h0, by rw [ref_is (refReach_is l) h1 h2 h3]⟩, ⟨hc, ?_⟩⟩, fun q => ?_⟩
  · rw [cnt_selV (ok_nodup hc) hl' (by omega)]
    unfold Most cge at h1
    omega
  · have := q.2
    rw [cnt_selV (ok_nodup hc) hl' (by omega)] at this
    unfold cgt at h2
    omega
theorem confReached_s (c : ConfD) (v : Value) (l : List Nat) (w : World) (hf : c.few) (hl : l.length ≤ 1000000000) (hl0 : Rd w [] (Res.sl v l.length (l.flatMap U1))) (rd_c : ConfD.rd c w []) : Rets Try.prog 4 #[.agg (ConfD.cells c).toArray, v] w fun u_ w' => u_ = .bool true ∧ Own w [] [] w' := by
  have hv := hf.vs
  have hl2 := hf.ls
  refine fn_enter (args := [.agg (ConfD.cells c).toArray, v]) Try.func4 rfl Try.ntmps4 rfl (Own.start w) ?_
  refine c_reg ?_
  refine l_box rfl rfl (fun b2 => ?_)
  refine l_as rfl ?_
  refine l_end ?_
  refine c_reg ?_
  refine l_ldr (cs := (ConfD.cells c)) 0 rfl rfl (by kernel_rfl) rfl ?_
  refine l_call (by kernel_rfl) rfl rfl (fun w' hw => ?_)
  refine (ownConf_s c w' hf.wf (rd_c.at0 hw)).mono ?_
  rintro _ w1 ⟨a1_, b2_, rfl, hO⟩
  refine (?_ : CL _ _ _ _ _ _ (Own w [] [Res.row b2 24 (ConfD.cells c), Res.vec 3 1 a1_ c.vs.length (c.vs.flatMap I1), Res.vec 3 1 b2_ c.ls.length (c.ls.flatMap I1)])) w1 (hw.frame0 hO)
  refine l_bsl (e := 35) (sz := 1) (vs := []) (by kernel_rfl) rfl rfl (by simp [Value.cells]) (by decide) rfl (fun b13 => ?_)
  refine l_mv rfl ?_
  refine l_appF (g := U1) (sz := 1) (by' := 8) (fun _ => rfl) (l := []) (l' := l) (by simp [cell1, U1]) 3 (by kernel_rfl) rfl rfl rfl (fun w' hw' => Own.rd hl0 hw') (by first | omega | (simp; omega)) (by decide) rfl (fun v15 => ?_)
  refine l_call (by kernel_rfl) rfl rfl (fun w' hw => ?_)
  refine (reached_s ({ c with vv := a1_, lv := b2_ } : ConfD) v15 l w' ⟨hf.vs, hf.ls⟩ (by first | assumption | omega | (simp <;> omega) | (constructor <;> (first | omega | (simp only [LenOk]; omega) | (simp <;> omega)))) ⟨(hw.rdVec 1 rfl [3] rfl rfl), (hw.rdVec 2 rfl [3] rfl rfl)⟩ (hw.give [3] rfl (by decide))).mono ?_
  rintro _ w1 ⟨n3_, e4_, rfl, hf1_5, hO⟩
  refine (?_ : CL _ _ _ _ _ _ (Own w [] [Res.row b2 24 (ConfD.cells c), Res.vec 3 1 a1_ c.vs.length (c.vs.flatMap I1), Res.vec 3 1 b2_ c.ls.length (c.ls.flatMap I1), Res.vec 35 1 v15 l.length (l.flatMap U1)])) w1 (hw.frameL [3] rfl hO)
  refine l_mv rfl ?_
  refine l_ext (vs := [.int .u64 (n3_ : Nat), .int .i64 e4_]) rfl rfl rfl ?_
  refine l_ext (vs := [.int .u64 (n3_ : Nat), .int .i64 e4_]) rfl rfl rfl ?_
  refine l_as rfl ?_
  refine l_as rfl ?_
  refine l_end ?_
  refine c_seq ?_
  refine c_reg ?_
  refine l_call (by kernel_rfl) rfl rfl (fun w' hw => ?_)
  refine (answers_s w').mono ?_
  rintro _ w1 ⟨rfl, hO⟩
  refine (?_ : CL _ _ _ _ _ _ (Own w [] [Res.row b2 24 (ConfD.cells c), Res.vec 3 1 a1_ c.vs.length (c.vs.flatMap I1), Res.vec 3 1 b2_ c.ls.length (c.ls.flatMap I1), Res.vec 35 1 v15 l.length (l.flatMap U1)])) w1 (hw.frame0 hO)
  refine l_not (b := true) rfl rfl ?_
  refine l_end ?_
  refine c_no rfl ?_
  refine c_skipC ?_
  refine c_seq ?_
  refine c_reg ?_
  refine l_ldr (cs := (ConfD.cells c)) 0 rfl rfl (by kernel_rfl) rfl ?_
  refine l_call (by kernel_rfl) rfl rfl (fun w' hw => ?_)
  refine (confOK_spec c w' hf.wf (rd_c.at0 hw)).mono ?_
  rintro _ w1 ⟨rfl, hO⟩
  refine (?_ : CL _ _ _ _ _ _ (Own w [] [Res.row b2 24 (ConfD.cells c), Res.vec 3 1 a1_ c.vs.length (c.vs.flatMap I1), Res.vec 3 1 b2_ c.ls.length (c.ls.flatMap I1), Res.vec 35 1 v15 l.length (l.flatMap U1)])) w1 (hw.frame0 hO)
  refine l_notp (q := c.ok) rfl rfl ?_
  refine l_end ?_
  refine c_dec rfl (fun c2 => ?_) (fun c2 => ?_)
  ·
    refine c_reg ?_
    refine l_mv rfl ?_
    refine l_eq rfl rfl rfl ?_
    refine l_mv rfl ?_
    refine l_band (q := e4_ = 2) 2 2 [28, 27] (((n3_ : Nat) : Int) = ((0 : Nat) : Int)) rfl rfl rfl rfl rfl rfl trivial rfl (fun h5_2 => ?_) (fun g5_5 => ?_)
    ·
      refine l_on rfl (gT h5_2) ?_
      refine l_mv rfl ?_
      refine l_on rfl (gT h5_2) ?_
      refine l_eq rfl rfl rfl ?_
      exact l_nil (fun w' hw => ⟨(by repeat (first | exact Out.refl _ _ | refine Out.upd rfl ?_ | refine Out.msk rfl ?_)), rfl, hw⟩)
    refine l_as rfl ?_
    refine l_end ?_
    exact c_ret (ret1 (v := .bool (decide ((e4_ = 2) ∧ (((n3_ : Nat) : Int) = ((0 : Nat) : Int))))) rfl rfl (fun w' hw => ⟨(by congr 1; exact decide_eq_true (ans_bad hf1_5 c2)), hw.drop⟩))
  ·
    refine c_skipC ?_
    refine c_seq ?_
    refine c_reg ?_
    refine l_mv rfl ?_
    refine l_lenS (len := l.length) (cs := (l.flatMap U1)) (by kernel_rfl) rfl (fun w' hw' => Own.rd hl0 hw') rfl ?_
    refine l_fld (o := 0) rfl (by kernel_rfl) rfl ?_
    refine l_ldo 0 (v := c.vv) rfl rfl rfl (by kernel_rfl) rfl ?_
    refine l_lenS (len := c.vs.length) (cs := (c.vs.flatMap I1)) (by kernel_rfl) rfl (fun w' hw' => Own.rd rd_c.vv hw') rfl ?_
    refine l_ne rfl rfl rfl ?_
    refine l_end ?_
    refine c_dec rfl (fun c3 => ?_) (fun c3 => ?_)
    ·
      refine c_reg ?_
      refine l_mv rfl ?_
      refine l_eq rfl rfl rfl ?_
      refine l_mv rfl ?_
      refine l_band (q := e4_ = 1) 2 2 [40, 39] (((n3_ : Nat) : Int) = ((0 : Nat) : Int)) rfl rfl rfl rfl rfl rfl trivial rfl (fun h7_2 => ?_) (fun g7_5 => ?_)
      ·
        refine l_on rfl (gT h7_2) ?_
        refine l_mv rfl ?_
        refine l_on rfl (gT h7_2) ?_
        refine l_eq rfl rfl rfl ?_
        exact l_nil (fun w' hw => ⟨(by repeat (first | exact Out.refl _ _ | refine Out.upd rfl ?_ | refine Out.msk rfl ?_)), rfl, hw⟩)
      refine l_as rfl ?_
      refine l_end ?_
      exact c_ret (ret1 (v := .bool (decide ((e4_ = 1) ∧ (((n3_ : Nat) : Int) = ((0 : Nat) : Int))))) rfl rfl (fun w' hw => ⟨(by congr 1; exact decide_eq_true (ans_len hf1_5 (Decidable.not_not.1 c2) c3)), hw.drop⟩))
    ·
      refine c_skipC ?_
      refine c_reg ?_
      refine l_as rfl ?_
      refine l_as rfl ?_
      refine l_end ?_
      refine c_seq ?_
      refine c_reg ?_
      refine l_as rfl ?_
      refine l_end ?_
      refine c_block ?_
      refine c_loop3 (fun (i : Nat) (rv mv : Value) => [(1, v), (2, .pointer (some ⟨b2, 0, none⟩)), (5, .int .u64 (n3_ : Nat)), (6, .int .i64 e4_), (7, rv), (8, mv), (9, .int .i64 (i : Nat))]) (fun (i : Nat) (rv mv : Value) => i ≤ l.length) (fun (i : Nat) (rv mv : Value) => [Res.row b2 24 (ConfD.cells c), Res.vec 3 1 rv (selV (fun y => decide (n3_ ≤ y)) c.vs l i).length ((selV (fun y => decide (n3_ ≤ y)) c.vs l i).flatMap I1), Res.vec 3 1 mv (selV (fun y => decide (n3_ < y)) c.vs l i).length ((selV (fun y => decide (n3_ < y)) c.vs l i).flatMap I1)]) (fun (i : Nat) (rv mv : Value) => l.length - i) (fun w' hw => ⟨0, .slice none 0 0, .slice none 0 0, ⟨rfl, rfl, rfl, rfl, rfl, rfl, rfl, trivial⟩, Nat.zero_le _, (own_nil (own_nil hw 3 1) 3 1).sel [0, 4, 5] rfl (by decide)⟩) (fun i rv mv g hΦ => ?_)
      have hi1 := hΦ
      have hs1 := selV_len (fun y => decide (n3_ ≤ y)) c.vs l i
      have hs2 := selV_len (fun y => decide (n3_ < y)) c.vs l i
      refine c_seq ?_
      refine c_reg ?_
      refine l_mv rfl ?_
      refine l_mv rfl ?_
      refine l_lenS (len := l.length) (cs := (l.flatMap U1)) (by kernel_rfl) rfl (fun w' hw' => Own.rd hl0 hw') rfl ?_
      refine l_lss rfl rfl rfl ?_
      refine l_end ?_
      refine c_dec rfl (fun c4 => ?_) (fun c4 => ?_)
      ·
        refine c_skipC ?_
        refine c_seq ?_
        refine c_block ?_
        refine c_cut1 (fun (rv2 : Value) => [(1, v), (2, .pointer (some ⟨b2, 0, none⟩)), (5, .int .u64 (n3_ : Nat)), (6, .int .i64 e4_), (7, rv2), (8, mv), (9, .int .i64 (i : Nat))]) (fun (rv2 : Value) => i < l.length) (fun (rv2 : Value) => [Res.row b2 24 (ConfD.cells c), Res.vec 3 1 rv2 (selV (fun y => decide (n3_ ≤ y)) c.vs l (i + 1)).length ((selV (fun y => decide (n3_ ≤ y)) c.vs l (i + 1)).flatMap I1), Res.vec 3 1 mv (selV (fun y => decide (n3_ < y)) c.vs l i).length ((selV (fun y => decide (n3_ < y)) c.vs l i).flatMap I1)]) ?_ (fun rv2 g hΦ => ?_)
        ·
          refine c_reg ?_
          refine l_mv rfl ?_
          refine l_mv rfl ?_
          refine l_idxS (j := i) (sz := 1) (len := l.length) (cs := (l.flatMap U1)) rfl rfl (by kernel_rfl) (fun w' hw' => Own.rd hl0 hw') rfl (by omega) rfl ?_
          refine l_ldS (v := v) (off := offV v + i * 1) (i * 1 + 0) (cs := (l.flatMap U1)) rfl (by omega) (fun w' hw' => Own.rd hl0 hw') (flat_at (sz := 1) (fun _ => rfl) (nth_some (by omega)) (i := 0) rfl) (by kernel_rfl) rfl ?_
          refine l_mv rfl ?_
          refine l_geq rfl rfl rfl ?_
          refine l_end ?_
          refine c_dec rfl (fun c5 => ?_) (fun c5 => ?_)
          ·
            refine c_last ?_
            refine l_mv rfl ?_
            refine l_fld (o := 0) rfl (by kernel_rfl) rfl ?_
            refine l_ldo 0 (v := c.vv) rfl rfl rfl (by kernel_rfl) rfl ?_
            refine l_mv rfl ?_
            refine l_idxS (j := i) (sz := 1) (len := c.vs.length) (cs := (c.vs.flatMap I1)) rfl rfl (by kernel_rfl) (fun w' hw' => Own.rd rd_c.vv hw') rfl (by omega) rfl ?_
            refine l_ldS (v := c.vv) (off := offV c.vv + i * 1) (i * 1 + 0) (cs := (c.vs.flatMap I1)) rfl (by omega) (fun w' hw' => Own.rd rd_c.vv hw') (flat_at (sz := 1) (fun _ => rfl) (nth_some (by omega)) (i := 0) rfl) (by kernel_rfl) rfl ?_
            refine l_bsl (e := 3) (sz := 1) (vs := [.int .i64 (nth c.vs i)]) (by kernel_rfl) rfl rfl (by simp [Value.cells]) (by decide) rfl (fun b60 => ?_)
            refine l_appF (g := I1) (sz := 1) (by' := 8) (fun _ => rfl) (l := (selV (fun y => decide (n3_ ≤ y)) c.vs l i)) (l' := [(nth c.vs i)]) (by simp [cell1, I1]) 1 (by kernel_rfl) rfl rfl rfl (fun w' hw' => Vec.sl (Own.holds hw' 3 _ rfl)) (by first | omega | (simp; omega)) (by decide) rfl (fun v61 => ?_)
            refine l_as rfl ?_
            exact l_nil (fun w' hw => ⟨v61, ⟨rfl, rfl, rfl, rfl, rfl, rfl, rfl, trivial⟩, (by omega), (by rw [selV_step (by omega) (by omega), if_pos (decide_eq_true (by omega))]; exact hw.sel [0, 1, 2] rfl (by decide))⟩)
          ·
            exact c_skip (fun w' hw => ⟨rv, ⟨rfl, rfl, rfl, rfl, rfl, rfl, rfl, trivial⟩, (by omega), (by rw [selV_step (by omega) (by omega), if_neg (by simp; omega), List.append_nil]; exact hw)⟩)
        have hi2 := hΦ
        refine c_reg ?_
        refine l_mv rfl ?_
        refine l_mv rfl ?_
        refine l_idxS (j := i) (sz := 1) (len := l.length) (cs := (l.flatMap U1)) rfl rfl (by kernel_rfl) (fun w' hw' => Own.rd hl0 hw') rfl (by omega) rfl ?_
        refine l_ldS (v := v) (off := offV v + i * 1) (i * 1 + 0) (cs := (l.flatMap U1)) rfl (by omega) (fun w' hw' => Own.rd hl0 hw') (flat_at (sz := 1) (fun _ => rfl) (nth_some (by omega)) (i := 0) rfl) (by kernel_rfl) rfl ?_
        refine l_mv rfl ?_
        refine l_gtr rfl rfl rfl ?_
        refine l_end ?_
        refine c_dec rfl (fun c6 => ?_) (fun c6 => ?_)
        ·
          refine c_last ?_
          refine l_mv rfl ?_
          refine l_fld (o := 0) rfl (by kernel_rfl) rfl ?_
          refine l_ldo 0 (v := c.vv) rfl rfl rfl (by kernel_rfl) rfl ?_
          refine l_mv rfl ?_
          refine l_idxS (j := i) (sz := 1) (len := c.vs.length) (cs := (c.vs.flatMap I1)) rfl rfl (by kernel_rfl) (fun w' hw' => Own.rd rd_c.vv hw') rfl (by omega) rfl ?_
          refine l_ldS (v := c.vv) (off := offV c.vv + i * 1) (i * 1 + 0) (cs := (c.vs.flatMap I1)) rfl (by omega) (fun w' hw' => Own.rd rd_c.vv hw') (flat_at (sz := 1) (fun _ => rfl) (nth_some (by omega)) (i := 0) rfl) (by kernel_rfl) rfl ?_
          refine l_bsl (e := 3) (sz := 1) (vs := [.int .i64 (nth c.vs i)]) (by kernel_rfl) rfl rfl (by simp [Value.cells]) (by decide) rfl (fun b74 => ?_)
          refine l_appF (g := I1) (sz := 1) (by' := 8) (fun _ => rfl) (l := (selV (fun y => decide (n3_ < y)) c.vs l i)) (l' := [(nth c.vs i)]) (by simp [cell1, I1]) 2 (by kernel_rfl) rfl rfl rfl (fun w' hw' => Vec.sl (Own.holds hw' 3 _ rfl)) (by first | omega | (simp; omega)) (by decide) rfl (fun v75 => ?_)
          refine l_as rfl ?_
          refine l_end ?_
          refine c_last ?_
          refine l_mv rfl ?_
          refine l_add rfl rfl (wi64 (by omega)) rfl ?_
          refine l_as rfl ?_
          exact l_nil (fun w' hw => ⟨i + 1, rv2, v75, ⟨rfl, rfl, rfl, rfl, rfl, rfl, rfl, trivial⟩, (by omega), (by rw [selV_step (p := fun y => decide (n3_ < y)) (by omega) (by omega), if_pos (decide_eq_true (by omega))]; exact hw.sel [0, 1, 2] rfl (by decide)), (by omega)⟩)
        ·
          refine c_skipC ?_
          refine c_last ?_
          refine l_mv rfl ?_
          refine l_add rfl rfl (wi64 (by omega)) rfl ?_
          refine l_as rfl ?_
          exact l_nil (fun w' hw => ⟨i + 1, rv2, mv, ⟨rfl, rfl, rfl, rfl, rfl, rfl, rfl, trivial⟩, (by omega), (by rw [selV_step (p := fun y => decide (n3_ < y)) (by omega) (by omega), if_neg (by simp; omega), List.append_nil]; exact hw), (by omega)⟩)
      ·
        refine c_exitC rfl ?_
        refine c_reg ?_
        refine l_mv rfl ?_
        refine l_eq rfl rfl rfl ?_
        refine l_mv rfl ?_
        refine l_band (q := e4_ = 0) 4 2 [82, 81, 80, 79] (((n3_ : Nat) : Int) = ((refReach l : Nat) : Int)) rfl rfl rfl rfl rfl rfl trivial rfl (fun h16_2 => ?_) (fun g16_7 => ?_)
        ·
          refine l_on rfl (gT h16_2) ?_
          refine l_mv rfl ?_
          refine l_on rfl (gT h16_2) ?_
          refine l_mv rfl ?_
          refine l_on rfl (gT h16_2) ?_
          refine l_call (by kernel_rfl) rfl rfl (fun w' hw => ?_)
          refine (refReached_s v l w' (by first | assumption | omega | (simp <;> omega) | (constructor <;> (first | omega | (simp only [LenOk]; omega) | (simp <;> omega)))) (hw.rd0 hl0)).mono ?_
          rintro _ w1 ⟨rfl, hO⟩
          refine (?_ : CL _ _ _ _ _ _ (Own w [] [Res.row b2 24 (ConfD.cells c), Res.vec 3 1 rv (selV (fun y => decide (n3_ ≤ y)) c.vs l i).length ((selV (fun y => decide (n3_ ≤ y)) c.vs l i).flatMap I1), Res.vec 3 1 mv (selV (fun y => decide (n3_ < y)) c.vs l i).length ((selV (fun y => decide (n3_ < y)) c.vs l i).flatMap I1)])) w1 (hw.frame0 hO)
          refine l_on rfl (gT h16_2) ?_
          refine l_eq rfl rfl rfl ?_
          exact l_nil (fun w' hw => ⟨(by repeat (first | exact Out.refl _ _ | refine Out.upd rfl ?_ | refine Out.msk rfl ?_)), rfl, hw⟩)
        refine l_mv rfl ?_
        refine l_band (q := (e4_ = 0) ∧ (((n3_ : Nat) : Int) = ((refReach l : Nat) : Int))) 3 8 [87, 86, 85] (c.quorum (selV (fun y => decide (n3_ ≤ y)) c.vs l i)) rfl rfl rfl rfl rfl rfl trivial rfl (fun h16_8 => ?_) (fun g16_12 => ?_)
        ·
          refine l_on rfl (gT h16_8) ?_
          refine l_ldr (cs := (ConfD.cells c)) 0 rfl rfl (by kernel_rfl) rfl ?_
          refine l_on rfl (gT h16_8) ?_
          refine l_mv rfl ?_
          refine l_on rfl (gT h16_8) ?_
          refine l_call (by kernel_rfl) rfl rfl (fun w' hw => ?_)
          refine (quorum_s c rv (selV (fun y => decide (n3_ ≤ y)) c.vs l i) w' hf (by first | assumption | omega | (simp <;> omega) | (constructor <;> (first | omega | (simp only [LenOk]; omega) | (simp <;> omega)))) (hw.rdVec0 1 rfl) (rd_c.at0 hw)).mono ?_
          rintro _ w1 ⟨rfl, hO⟩
          refine (?_ : CL _ _ _ _ _ _ (Own w [] [Res.row b2 24 (ConfD.cells c), Res.vec 3 1 rv (selV (fun y => decide (n3_ ≤ y)) c.vs l i).length ((selV (fun y => decide (n3_ ≤ y)) c.vs l i).flatMap I1), Res.vec 3 1 mv (selV (fun y => decide (n3_ < y)) c.vs l i).length ((selV (fun y => decide (n3_ < y)) c.vs l i).flatMap I1)])) w1 (hw.frame0 hO)
          exact l_nil (fun w' hw => ⟨(by repeat (first | exact Out.refl _ _ | refine Out.upd rfl ?_ | refine Out.msk rfl ?_)), rfl, hw⟩)
        refine l_mv rfl ?_
        refine l_band (q := ((e4_ = 0) ∧ (((n3_ : Nat) : Int) = ((refReach l : Nat) : Int))) ∧ (c.quorum (selV (fun y => decide (n3_ ≤ y)) c.vs l i))) 4 13 [93, 92, 91, 90] (¬ (c.quorum (selV (fun y => decide (n3_ < y)) c.vs l i))) rfl rfl rfl rfl rfl rfl trivial rfl (fun h16_13 => ?_) (fun g16_18 => ?_)
        ·
          refine l_on rfl (gT h16_13) ?_
          refine l_ldr (cs := (ConfD.cells c)) 0 rfl rfl (by kernel_rfl) rfl ?_
          refine l_on rfl (gT h16_13) ?_
          refine l_mv rfl ?_
          refine l_on rfl (gT h16_13) ?_
          refine l_call (by kernel_rfl) rfl rfl (fun w' hw => ?_)
          refine (quorum_s c mv (selV (fun y => decide (n3_ < y)) c.vs l i) w' (by first | assumption | omega | (simp <;> omega) | (constructor <;> (first | omega | (simp only [LenOk]; omega) | (simp <;> omega)))) (by first | assumption | omega | (simp <;> omega) | (constructor <;> (first | omega | (simp only [LenOk]; omega) | (simp <;> omega)))) (hw.rdVec0 2 rfl) (rd_c.at0 hw)).mono ?_
          rintro _ w1 ⟨rfl, hO⟩
          refine (?_ : CL _ _ _ _ _ _ (Own w [] [Res.row b2 24 (ConfD.cells c), Res.vec 3 1 rv (selV (fun y => decide (n3_ ≤ y)) c.vs l i).length ((selV (fun y => decide (n3_ ≤ y)) c.vs l i).flatMap I1), Res.vec 3 1 mv (selV (fun y => decide (n3_ < y)) c.vs l i).length ((selV (fun y => decide (n3_ < y)) c.vs l i).flatMap I1)])) w1 (hw.frame0 hO)
          refine l_on rfl (gT h16_13) ?_
          refine l_notp (q := c.quorum (selV (fun y => decide (n3_ < y)) c.vs l i)) rfl rfl ?_
          exact l_nil (fun w' hw => ⟨(by repeat (first | exact Out.refl _ _ | refine Out.upd rfl ?_ | refine Out.msk rfl ?_)), rfl, hw⟩)
        refine l_as rfl ?_
        refine l_end ?_
        exact c_ret (ret1 (v := .bool (decide ((((e4_ = 0) ∧ (((n3_ : Nat) : Int) = ((refReach l : Nat) : Int))) ∧ (c.quorum (selV (fun y => decide (n3_ ≤ y)) c.vs l i))) ∧ (¬ (c.quorum (selV (fun y => decide (n3_ < y)) c.vs l i)))))) rfl rfl (fun w' hw => ⟨(by congr 1; exact decide_eq_true (ans_ok hf1_5 rfl Iff.rfl (Decidable.not_not.1 c2) c3 (by omega))), hw.drop⟩))

def NumsWf (W : World) (p : Value × List Nat) : Prop := Rd W [] (Res.sl p.1 p.2.length (p.2.flatMap U1))
theorem rdNums (W : World) : RdA Try.prog W 34 (fun p : Value × List Nat => [p.1]) (NumsWf W) (fun p => p.2.length + 1) :=
  (RdA.slice (sz := 1) Try.underlying34 (by kernel_rfl) (by decide) (fun _ => rfl) (RdA.u64 (W := W) Try.underlying35)).map id (fun _ => rfl) (fun p h => Rd.of h.1) (fun p _ => by rw [sum_one]; exact Nat.le_refl _)

namespace confReached
theorem own : ownKnob Try.prog.godebug = none := by kernel_rfl
theorem laidOut : laidOutB Try.prog = true := by kernel_rfl

theorem contract (H : Type) (enc : TypeId × Value → H) (W : World) (base : Nat) (args : Array Value) (ds gs : List (DataW H)) (before : List MemPlace)
    (hval : ∀ (j : Nat) t v, Try.f4.params[j]? = some t → args[j]? = some v → Value.okWide Try.prog W .any base t v)
    (hW : DataW.Whole enc Try.prog Try.f4.params.toList Rows.confReachedSpec.vars false W args.toList ds gs before) (hk : Rows.uptoSmall H (ds ++ gs) = true) :
    Calls Try.prog 4 args W fun e W' => ∃ v, e = .returned v ∧ Rows.confReachedSpec.post enc Try.prog Try.f4 false true false false W args v W' := by
  have hW' := hW
  obtain ⟨p, q, hA0, hV, rfl, hfz, hnd⟩ := hW
  have hA : DataW.TrodAll enc Try.prog W 0 (fun _ => true) true Try.f4.params.toList args.toList ds p := hA0
  rw [Try.params4] at hA hval
  obtain ⟨v0, vs0, d0, ds0, p0, q0, hargs, rfl, rfl, h0, r0⟩ := trodAll_cons hA
  obtain ⟨v1, vs1, d1, ds1, p1, q1, rfl, rfl, rfl, h1, r1⟩ := trodAll_cons r0
  obtain ⟨rfl, rfl, rfl⟩ := trodAll_nil r1
  obtain rfl : args = #[v0, v1] := by cases args; simp_all
  obtain ⟨rfl, rfl⟩ := trodVars_none hV
  have hB : Rows.uptoBulk d0 + Rows.uptoBulk d1 ≤ 1048576 := by
    have := of_decide_eq_true hk
    simp only [List.append_nil, Rows.uptoBulkAll] at this
    omega
  obtain ⟨u0, hf0⟩ := h0
  obtain ⟨a0, e0, w0, z0⟩ := (rdConf W) H enc _ _ _ hf0
  obtain ⟨u1, hf1⟩ := h1
  obtain ⟨a1, e1, w1, z1⟩ := (rdNums W) H enc _ _ _ hf1
  try dsimp only at z0
  try dsimp only at z1
  obtain rfl := arg_struct Try.underlying24 (hval 0 _ v0 rfl rfl) e0
  obtain rfl := arg_slice Try.underlying34 (hval 1 _ v1 rfl rfl) e1
  refine Calls.mono (confReached_s a0 a1.1 a1.2 W ⟨by omega, by omega⟩ (by omega) w1 w0) fun e W' he => ?_
  obtain ⟨v, rfl, rfl, hO⟩ := he
  exact ⟨_, rfl, law_post laidOut rfl (fun ds h => by
    rw [Try.params4] at h
    match ds, h with
    | [_, _], _ => rfl) rfl Try.underlying4 (by kernel_rfl) hW' (Own.below hO)⟩

set_option maxRecDepth 100000 in
theorem lifted (os : Os) (started : os.Started) (H : Type) (enc : TypeId × Value → H) (F : Stop.Interp) :
    ReturnsInHanded {} Try.checked os 4 .any ((Rows.OpenSpec.upto Rows.confReachedSpec).pre6 enc Try.prog Try.f4 Rows.confReachedUptoRow.domain false) (((Rows.OpenSpec.upto Rows.confReachedSpec).at F).post enc Try.prog Try.f4 false true false false) := by
  refine returnsInHanded_of_cond (C := Try.checked) (s := Rows.OpenSpec.upto Rows.confReachedSpec) (k := Rows.uptoSmall) rfl own started (by kernel_rfl) Try.func4
    (OpenSpec.witness (enc := enc) (C := Try.checked) (s := Rows.OpenSpec.upto Rows.confReachedSpec) (k := Rows.uptoSmall) rfl false ⟨#[], #[.agg #[.slice none 0 0, .slice none 0 0], .slice none 0 0], []⟩ 8 (by kernel_rfl) (by kernel_rfl) (by kernel_rfl)
      (x := ([.agg [.nil, .nil], .nil], [], [])) (by kernel_rfl) rfl (by kernel_rfl)) ?_
  intro W base args ds gs before hval hW _ hk _
  exact contract H enc W base args ds gs before hval hW hk

/-- ConfReached: proved. -/
theorem proved : Rows.ConfReachedUptoSaid :=
  OpenClaim.holds_of_cond 4 Try.f4 rfl rfl rfl rfl rfl rfl rfl ⟨rfl, rfl, rfl, rfl, rfl⟩ rfl rfl rfl rfl rfl (by kernel_rfl) Try.func4 (by kernel_rfl)
    (of_decide_eq_true (by kernel_rfl)) (by unfold Func.isWrapper; first | (rw [if_pos (by decide +kernel)]; kernel_rfl) | (rw [if_neg (by decide +kernel)]; exact ⟨rfl, rfl⟩))
    (fun os started H enc _ F => lifted os started H enc F)
end confReached
end Go.Proofs.Ytniiobmkcbeknaa
