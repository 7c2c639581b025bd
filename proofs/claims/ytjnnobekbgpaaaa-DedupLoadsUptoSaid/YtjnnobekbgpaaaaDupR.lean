/-
  THE LAST REPLIES: the reference, and what is done to both at once.
-/
import Derived.Test.YtjnnobekbgpaaaaDup
set_option linter.unusedVariables false
set_option maxRecDepth 10000
namespace Go.Proofs.Ytjnnobekbgpaaaa
open Go Go.Sc Go.Proofs

def KR (l : List RepD) : List (Nat × RepD) := l.map fun r => (r.session, r)
theorem KR_len (l : List RepD) : (KR l).length = l.length := by simp [KR]
structure COk (l : List RepD) : Prop where
  up : (l.map (·.session)).Pairwise (· < ·)
  each : ∀ r ∈ l, r.ok ∧ 1 ≤ r.session ∧ 1 ≤ r.seq
  len : l.length ≤ 32
def CRel (kl : List (Nat × RepD)) (l : List RepD) : Prop := kl.Perm (KR l)
section
variable {kl : List (Nat × RepD)} {l : List RepD} {r : RepD} {s q : Nat}
theorem KR_nd (h : (l.map (·.session)).Pairwise (· < ·)) : KNd (KR l) := by
  unfold KNd KR; rw [List.map_map]
  exact h.imp fun q => by omega
theorem COk.nd (h : COk l) (hr : CRel kl l) : KNd kl := (KR_nd h.up).perm hr.symm
theorem find_rel (h : COk l) (hr : CRel kl l) (s q : Nat) : findK kl s q = findK (KR l) s q := by
  unfold findK; rw [getA_perm (h.nd hr) hr, hr.length_eq]
theorem getR_of (h : (l.map (·.session)).Pairwise (· < ·)) (hm : r ∈ l) : getA r.session (KR l) = some r := getA_of (KR_nd h) (List.mem_map.2 ⟨r, hm, rfl⟩)
theorem getR_mem (hg : getA s (KR l) = some r) : r ∈ l ∧ r.session = s := by
  have := getA_mem hg
  obtain ⟨x, hx, e⟩ := List.mem_map.1 this
  simp only [Prod.mk.injEq] at e
  exact ⟨e.2 ▸ hx, e.2 ▸ e.1⟩
/-- Where a reply is kept. -/
def insR (r : RepD) (l : List RepD) : List RepD := l.filter (fun x => decide (x.session < r.session)) ++ r :: l.filter (fun x => decide (r.session < x.session))
def doneL (l : List RepD) (r : RepD) : List RepD := if r.ok ∧ (findK (KR l) r.session r.seq).2 = 8 then insR r l else l
theorem split3 (s : Nat) : ∀ l : List RepD, (l.filter fun x => decide (x.session ≠ s)).Perm (l.filter (fun x => decide (x.session < s)) ++ l.filter (fun x => decide (s < x.session)))
  | [] => .refl _
  | a :: l => by
    have ih := split3 s l
    rcases Nat.lt_trichotomy a.session s with h | h | h
    · rw [List.filter_cons_of_pos (by simp; omega), List.filter_cons_of_pos (by simp; omega), List.filter_cons_of_neg (by simp; omega)]
      exact ih.cons _
    · rw [List.filter_cons_of_neg (by simp; omega), List.filter_cons_of_neg (by simp; omega), List.filter_cons_of_neg (by simp; omega)]
      exact ih
    · rw [List.filter_cons_of_pos (by simp; omega), List.filter_cons_of_neg (by simp; omega), List.filter_cons_of_pos (by simp; omega)]
      exact (ih.cons _).trans List.perm_middle.symm
theorem insR_perm (r : RepD) (l : List RepD) : (insR r l).Perm (r :: l.filter fun x => decide (x.session ≠ r.session)) := by
  unfold insR
  exact List.perm_middle.trans ((split3 r.session l).symm.cons _)
theorem KR_filter (s : Nat) (l : List RepD) : KR (l.filter fun x => decide (x.session ≠ s)) = (KR l).filter fun p => decide (p.1 ≠ s) := by
  unfold KR; rw [List.filter_map]; rfl
theorem done_rel (h : COk l) (hr : CRel kl l) (r : RepD) : CRel (doneK kl r) (doneL l r) := by
  unfold doneK doneL
  rw [find_rel h hr]
  split
  · refine (putA_perm (h.nd hr)).trans ?_
    refine List.Perm.trans ?_ ((insR_perm r l).map fun r => (r.session, r)).symm
    rw [List.map_cons]
    refine List.Perm.cons _ ?_
    have e := KR_filter r.session l
    unfold KR at e
    rw [e]
    exact List.Perm.filter _ hr
  · exact hr
theorem find8_not1 {kl : List (Nat × RepD)} (h : (findK kl s q).2 = 8) : s ≠ 0 ∧ q ≠ 0 := by
  unfold findK at h
  split at h
  · cases h
  · omega
theorem doneL_ok (h : COk l) (r : RepD) : COk (doneL l r) := by
  unfold doneL
  split
  · rename_i c
    obtain ⟨c1, c2⟩ := c
    have hn := find8_not1 c2
    have hp := insR_perm r l
    refine ⟨?_, fun x hx => ?_, ?_⟩
    · unfold insR
      rw [List.map_append, List.map_cons, List.pairwise_append, List.pairwise_cons]
      refine ⟨h.up.sublist (List.filter_sublist.map _), ⟨fun a ha => ?_, h.up.sublist (List.filter_sublist.map _)⟩, fun a ha b hb => ?_⟩
      · obtain ⟨x, hx, rfl⟩ := List.mem_map.1 ha
        simpa using (List.mem_filter.1 hx).2
      · obtain ⟨x, hx, rfl⟩ := List.mem_map.1 ha
        have h1 : x.session < r.session := by simpa using (List.mem_filter.1 hx).2
        rcases List.mem_cons.1 hb with rfl | hb
        · exact h1
        · obtain ⟨y, hy, rfl⟩ := List.mem_map.1 hb
          have h2 : r.session < y.session := by simpa using (List.mem_filter.1 hy).2
          omega
    · rcases List.mem_cons.1 (hp.mem_iff.1 hx) with rfl | hx
      · exact ⟨c1, by omega, by omega⟩
      · exact h.each x (List.mem_filter.1 hx).1
    · rw [hp.length_eq, List.length_cons]
      have h1 := h.len
      have h2 := List.length_filter_le (fun x : RepD => decide (x.session ≠ r.session)) l
      cases hg : getA r.session (KR l) with
      | none =>
        unfold findK at c2
        rw [if_neg (by omega), hg] at c2
        have c3 : (if 32 ≤ (KR l).length then (RepD.zero, (7 : Int)) else (RepD.zero, 8)).2 = 8 := c2
        split at c3
        · cases c3
        · rw [KR_len] at *; omega
      | some x =>
        obtain ⟨hx, hs⟩ := getR_mem hg
        have : (l.filter fun x => decide (x.session ≠ r.session)).length < l.length := by
          refine Nat.lt_of_le_of_ne h2 fun q => ?_
          have := List.length_filter_eq_length_iff.1 q x hx
          simp at this; exact this hs
        omega
  · exact h
theorem COk.start : COk [] := ⟨by simp, by simp, by simp⟩
theorem CRel.start : CRel [] [] := .refl _
theorem up_le_lt : ∀ {l m : List Nat}, l.Perm m → l.Pairwise (fun x y => x ≤ y) → m.Pairwise (· < ·) → l = m := fun hp h1 h2 =>
  hp.eq_of_pairwise (fun a b _ _ h3 h4 => Nat.le_antisymm h3 h4) h1 (h2.imp fun q => by omega)
/-- All of them, by rising sessions: those of the reference. -/
theorem all_eq (h : COk l) (hr : CRel kl l) {ks : List Nat} (h1 : ks.Perm (kl.map (·.1))) (h2 : ks.Pairwise fun x y => x ≤ y) : ks.map (fun k => (getA k kl).getD RepD.zero) = l := by
  have e : ks = l.map (·.session) := by
    refine up_le_lt (h1.trans ?_) h2 h.up
    have := hr.map (·.1)
    refine this.trans ?_
    unfold KR; rw [List.map_map]; exact .refl _
  rw [e, List.map_map]
  conv => rhs; rw [← List.map_id l]
  refine List.map_congr_left fun x hx => ?_
  show (getA x.session kl).getD RepD.zero = x
  rw [getA_perm (h.nd hr) hr, getR_of h.up hx]; rfl
/-- The reference's round: what was made anew so far. -/
def InsI (r : RepD) (l : List RepD) (i : Nat) (p : Bool) (os : List RepD) : Prop :=
  (p = false ∧ os = l.take i ∧ ∀ x ∈ l.take i, x.session < r.session) ∨
  (p = true ∧ os = (l.take i).filter (fun x => decide (x.session < r.session)) ++ r :: (l.take i).filter (fun x => decide (r.session < x.session)) ∧ ∃ x ∈ l.take i, r.session ≤ x.session)
theorem InsI.start (r : RepD) (l : List RepD) : InsI r l 0 false [] := .inl ⟨rfl, rfl, by simp⟩
theorem lt_all {l : List RepD} {s : Nat} (h : ∀ x ∈ l, x.session < s) : l.filter (fun x => decide (x.session < s)) = l ∧ l.filter (fun x => decide (s < x.session)) = [] :=
  ⟨List.filter_eq_self.2 fun x hx => by simpa using h x hx, List.filter_eq_nil_iff.2 fun x hx => by have := h x hx; simp; omega⟩
theorem up_at (h : (l.map (·.session)).Pairwise (· < ·)) {i : Nat} (hi : i < l.length) {x : RepD} (hx : x ∈ l.take i) : x.session < (nth l i).session := by
  obtain ⟨j, hj, e⟩ := List.mem_iff_getElem.1 hx
  have hj' : j < i := by rw [List.length_take] at hj; omega
  have := List.pairwise_iff_getElem.1 h j i (by rw [List.length_map]; omega) (by rw [List.length_map]; exact hi) hj'
  rw [List.getElem_map, List.getElem_map] at this
  rw [List.getElem_take] at e
  have e2 := nth_eq (List.getElem?_eq_getElem hi)
  rw [e2, ← e]; exact this
theorem InsI.put {i : Nat} {p : Bool} {os : List RepD} (h : InsI r l i p os) (hi : i < l.length) (hp : p = false) (hge : r.session ≤ (nth l i).session) : InsI r l (i + 1) true (os ++ [r] ++ if (nth l i).session ≠ r.session then [nth l i] else []) := by
  rcases h with ⟨_, h2, h3⟩ | ⟨h1, _⟩
  · obtain ⟨f1, f2⟩ := lt_all h3
    refine .inr ⟨rfl, ?_, nth l i, by rw [take_nth hi]; simp, hge⟩
    rw [take_nth hi, List.filter_append, List.filter_append, f1, f2, List.filter_cons_of_neg (by simp; omega), List.filter_nil, List.append_nil, List.nil_append, h2, List.append_assoc]
    congr 1
    by_cases c : (nth l i).session ≠ r.session
    · rw [if_pos c, List.filter_cons_of_pos (by simp; omega)]; rfl
    · rw [if_neg c, List.filter_cons_of_neg (by simp; omega)]; rfl
  · rw [hp] at h1; cases h1
theorem InsI.more (hu : (l.map (·.session)).Pairwise (· < ·)) {i : Nat} {p : Bool} {os : List RepD} (h : InsI r l i p os) (hi : i < l.length) (hn : ¬ (p = false ∧ r.session ≤ (nth l i).session)) : InsI r l (i + 1) p (os ++ [nth l i]) ∧ (nth l i).session ≠ r.session := by
  rcases h with ⟨h1, h2, h3⟩ | ⟨h1, h2, y, hy, h3⟩
  · have hlt : (nth l i).session < r.session := Nat.not_le.1 fun q => hn ⟨h1, q⟩
    refine ⟨.inl ⟨h1, by rw [h2, take_nth hi], fun x hx => ?_⟩, by omega⟩
    rw [take_nth hi] at hx
    rcases List.mem_append.1 hx with q | q
    · exact h3 x q
    · rw [List.mem_singleton.1 q]; exact hlt
  · have hgt := up_at hu hi hy
    refine ⟨.inr ⟨h1, ?_, y, by rw [take_nth hi]; exact List.mem_append_left _ hy, h3⟩, by omega⟩
    rw [take_nth hi, List.filter_append, List.filter_append, List.filter_cons_of_neg (by simp; omega), List.filter_nil, List.append_nil, List.filter_cons_of_pos (by simp; omega), List.filter_nil, h2, List.append_assoc]
    rfl
theorem InsI.done {i : Nat} {p : Bool} {os : List RepD} (h : InsI r l i p os) (hi : l.length ≤ i) : os ++ (if p = false then [r] else []) = insR r l := by
  unfold InsI at h
  rw [List.take_of_length_le hi] at h
  rcases h with ⟨h1, h2, h3⟩ | ⟨h1, h2, _⟩
  · obtain ⟨f1, f2⟩ := lt_all h3
    unfold insR; rw [f1, f2, if_pos h1, h2]
  · rw [h1, if_neg (by decide), List.append_nil, h2]; rfl
theorem InsI.len {i : Nat} {p : Bool} {os : List RepD} (h : InsI r l i p os) : os.length ≤ l.length + 1 := by
  rcases h with ⟨h1, h2, h3⟩ | ⟨h1, h2, _⟩
  · rw [h2, List.length_take]; omega
  · have hp := insR_perm r (l.take i)
    have : os = insR r (l.take i) := h2
    rw [this, hp.length_eq, List.length_cons]
    have := List.length_filter_le (fun x : RepD => decide (x.session ≠ r.session)) (l.take i)
    rw [List.length_take] at this; omega
end
theorem notF {p : Bool} (h : (!p) = true) : p = false := by cases p <;> simp_all
theorem notF' {p : Bool} (h : p = false) : (!p) = true := by rw [h]; rfl
theorem noneR {l : List RepD} {s i : Nat} (h : ∀ r ∈ l.take i, r.session ≠ s) (hi : l.length ≤ i) : getA s (KR l) = none := by
  rw [List.take_of_length_le hi] at h
  rw [getA_none]
  intro p hp
  obtain ⟨x, hx, rfl⟩ := List.mem_map.1 hp
  exact h x hx
theorem rdone2 {r : RepD} (hn : ¬ r.ok) (l : List RepD) : 2 = doneE r (findK (KR l) r.session r.seq).2 ∧ l = doneL l r := by
  unfold doneE doneL
  rw [if_pos hn, if_neg fun k => hn k.1]
  exact ⟨rfl, rfl⟩
theorem rdoneX {r : RepD} {l : List RepD} {e : Int} (h : ¬ ¬ r.ok) (he : (findK (KR l) r.session r.seq).2 = e) (h8 : e ≠ 8) : (if e = 0 then 9 else e) = doneE r (findK (KR l) r.session r.seq).2 ∧ l = doneL l r := by
  unfold doneE doneL
  refine ⟨?_, ?_⟩
  · rw [if_neg h, he, if_neg h8]
  · rw [he, if_neg fun k => h8 k.2]
theorem rdone0 {r : RepD} {l : List RepD} {e : Int} (h : ¬ ¬ r.ok) (he : (findK (KR l) r.session r.seq).2 = e) (h8 : ¬ e ≠ 8) : 0 = doneE r (findK (KR l) r.session r.seq).2 ∧ insR r l = doneL l r := by
  have h8 : e = 8 := Decidable.not_not.1 h8
  unfold doneE doneL
  refine ⟨?_, ?_⟩
  · rw [if_neg h, he, if_pos h8]
  · rw [he, if_pos ⟨Decidable.not_not.1 h, h8⟩]
theorem replyOK_s (r : RepD) (w : World) : Rets Try.prog 11 #[.agg (RepD.cells r).toArray] w fun u_ w' => u_ = .bool (decide r.ok) ∧ Own w [] [] w' := by
  refine fn_enter (args := [.agg (RepD.cells r).toArray]) Try.func11 rfl Try.ntmps11 rfl (Own.start w) ?_
  refine c_reg ?_
  refine l_box rfl rfl (fun b1 => ?_)
  refine l_as rfl ?_
  refine l_end ?_
  refine c_reg ?_
  refine l_fld (o := 2) rfl (by kernel_rfl) rfl ?_
  refine l_ldo 0 (v := .int .i64 r.e) rfl rfl rfl (by kernel_rfl) rfl ?_
  refine l_geq rfl rfl rfl ?_
  refine l_mv rfl ?_
  refine l_band (q := 0 ≤ r.e) 3 3 [9, 8, 7] (r.e ≤ 20) rfl rfl rfl rfl rfl rfl trivial rfl (fun h1_3 => ?_) (fun g1_7 => ?_)
  ·
    refine l_on rfl (gT h1_3) ?_
    refine l_fld (o := 2) rfl (by kernel_rfl) rfl ?_
    refine l_on rfl (gT h1_3) ?_
    refine l_ldo 0 (v := .int .i64 r.e) rfl rfl rfl (by kernel_rfl) rfl ?_
    refine l_on rfl (gT h1_3) ?_
    refine l_leq rfl rfl rfl ?_
    exact l_nil (fun w' hw => ⟨(by repeat (first | exact Out.refl _ _ | refine Out.upd rfl ?_ | refine Out.msk rfl ?_)), rfl, hw⟩)
  refine l_as rfl ?_
  refine l_end ?_
  exact c_ret (ret1 (v := .bool (decide ((0 ≤ r.e) ∧ (r.e ≤ 20)))) rfl rfl (fun w' hw => ⟨rfl, hw.drop⟩))
theorem rcfind_s (wb : Nat) (lv : Value) (l : List RepD) (s q : Nat) (w : World) (ho : COk l) (hin : Own w (fps [Res.row wb 42 [lv], Res.vec 26 6 lv l.length (l.flatMap RepD.cells)]) [Res.row wb 42 [lv], Res.vec 26 6 lv l.length (l.flatMap RepD.cells)] w) : Rets Try.prog 24 #[.pointer (some ⟨wb, 0, none⟩), .int .u64 (s : Nat), .int .u64 (q : Nat)] w fun u_ w' => ∃ (x : RepD) (e : Int), u_ = .tuple #[.agg (RepD.cells x).toArray, .int .i64 e] ∧ findK (KR l) s q = (x, e) ∧ Own w (fps [Res.row wb 42 [lv], Res.vec 26 6 lv l.length (l.flatMap RepD.cells)]) [Res.row wb 42 [lv], Res.vec 26 6 lv l.length (l.flatMap RepD.cells)] w' := by
  have hll := ho.len
  refine fn_enter (args := [.pointer (some ⟨wb, 0, none⟩), .int .u64 (s : Nat), .int .u64 (q : Nat)]) Try.func24 rfl Try.ntmps24 rfl (show Own w (fps [Res.row wb 42 [lv], Res.vec 26 6 lv l.length (l.flatMap RepD.cells)]) [Res.row wb 42 [lv], Res.vec 26 6 lv l.length (l.flatMap RepD.cells)] w from hin) ?_
  refine c_reg ?_
  refine l_new (v := .agg #[.int .u64 (0 : Nat), .int .u64 (0 : Nat), .int .i64 0, .int .u64 (0 : Nat), .int .i64 0, .int .i64 0]) (by kernel_rfl) rfl (fun b6 => ?_)
  refine l_as rfl ?_
  refine l_end ?_
  refine c_seq ?_
  refine c_reg ?_
  refine l_mv rfl ?_
  refine l_eq rfl rfl rfl ?_
  refine l_mv rfl ?_
  refine l_bor (q := ((s : Nat) : Int) = ((0 : Nat) : Int)) 2 2 [13, 12] (((q : Nat) : Int) = ((0 : Nat) : Int)) rfl rfl rfl rfl rfl rfl trivial rfl (fun h1_2 => ?_) (fun g1_5 => ?_)
  ·
    refine l_on rfl (gF h1_2) ?_
    refine l_mv rfl ?_
    refine l_on rfl (gF h1_2) ?_
    refine l_eq rfl rfl rfl ?_
    exact l_nil (fun w' hw => ⟨(by repeat (first | exact Out.refl _ _ | refine Out.upd rfl ?_ | refine Out.msk rfl ?_)), rfl, hw⟩)
  refine l_end ?_
  refine c_dec rfl (fun c1 => ?_) (fun c1 => ?_)
  ·
    refine c_reg ?_
    refine l_bld (cs := [.int .u64 (0 : Nat), .int .u64 (0 : Nat), .int .i64 0, .int .u64 (0 : Nat), .int .i64 0, .int .i64 0]) (z := [.int .u64 (0 : Nat), .int .u64 (0 : Nat), .int .i64 0, .int .u64 (0 : Nat), .int .i64 0, .int .i64 0]) (pl := [(0, 1), (1, 1), (2, 1), (3, 1), (4, 1), (5, 1)]) (by kernel_rfl) (by kernel_rfl) rfl ?_
    refine l_stN (cs := [.int .u64 (0 : Nat), .int .u64 (0 : Nat), .int .i64 0, .int .u64 (0 : Nat), .int .i64 0, .int .i64 0]) (vs := [.int .u64 (0 : Nat), .int .u64 (0 : Nat), .int .i64 0, .int .u64 (0 : Nat), .int .i64 0, .int .i64 0]) 2 rfl rfl rfl (by kernel_rfl) (allc_cons rfl (allc_cons rfl (allc_cons rfl (allc_cons rfl (allc_cons rfl (allc_cons rfl allc_nil)))))) (Nat.le_of_ble_eq_true rfl) ?_
    refine l_as rfl ?_
    refine l_end ?_
    exact c_ret (retc2 (cs := [.int .u64 (0 : Nat), .int .u64 (0 : Nat), .int .i64 0, .int .u64 (0 : Nat), .int .i64 0, .int .i64 0]) (v := .int .i64 1) rfl rfl rfl (by kernel_rfl) (Own.rowCells (i := 2) rfl) (fun w' hw => ⟨RepD.zero, 1, rfl, find1 c1, hw.sel [0, 1] rfl (by decide)⟩))
  ·
    refine c_skipC ?_
    refine c_seq ?_
    refine c_reg ?_
    refine l_as rfl ?_
    refine l_end ?_
    refine c_block ?_
    refine c_loop1 (fun (i : Nat) => [(0, .pointer (some ⟨wb, 0, none⟩)), (1, .int .u64 (s : Nat)), (2, .int .u64 (q : Nat)), (6, .pointer (some ⟨b6, 0, none⟩)), (8, .int .i64 (i : Nat))]) (fun (i : Nat) => i ≤ l.length ∧ ∀ r ∈ l.take i, r.session ≠ s) (fun (i : Nat) => [Res.row wb 42 [lv], Res.vec 26 6 lv l.length (l.flatMap RepD.cells), Res.row b6 26 [.int .u64 (0 : Nat), .int .u64 (0 : Nat), .int .i64 0, .int .u64 (0 : Nat), .int .i64 0, .int .i64 0]]) (fun (i : Nat) => l.length - i) (fun w' hw => ⟨0, ⟨rfl, rfl, rfl, rfl, rfl, trivial⟩, ⟨Nat.zero_le _, by simp⟩, hw⟩) (fun i g hΦ => ?_)
    have hi := hΦ.1
    have hI := hΦ.2
    refine c_seq ?_
    refine c_reg ?_
    refine l_mv rfl ?_
    refine l_mv rfl ?_
    refine l_nck rfl rfl ?_
    refine l_fld (o := 0) rfl (by kernel_rfl) rfl ?_
    refine l_ldo 0 (v := lv) rfl rfl rfl (by kernel_rfl) rfl ?_
    refine l_lenS (len := l.length) (cs := (l.flatMap RepD.cells)) (by kernel_rfl) rfl (fun w' hw' => Vec.sl (Own.holds hw' 1 _ rfl)) rfl ?_
    refine l_lss rfl rfl rfl ?_
    refine l_end ?_
    refine c_dec rfl (fun c2 => ?_) (fun c2 => ?_)
    ·
      refine c_skipC ?_
      refine c_seq ?_
      refine c_block ?_
      refine c_seq ?_
      refine c_reg ?_
      refine l_mv rfl ?_
      refine l_nck rfl rfl ?_
      refine l_fld (o := 0) rfl (by kernel_rfl) rfl ?_
      refine l_ldo 0 (v := lv) rfl rfl rfl (by kernel_rfl) rfl ?_
      refine l_mv rfl ?_
      refine l_idxS (j := i) (sz := 6) (len := l.length) (cs := (l.flatMap RepD.cells)) rfl rfl (by kernel_rfl) (fun w' hw' => Vec.sl (Own.holds hw' 1 _ rfl)) rfl (by omega) rfl ?_
      refine l_fld (o := 0) rfl (by kernel_rfl) rfl ?_
      refine l_ldS (v := lv) (off := offV lv + i * 6 + 0) (i * 6 + 0) (cs := (l.flatMap RepD.cells)) rfl (by omega) (fun w' hw' => Vec.sl (Own.holds hw' 1 _ rfl)) (flat_at (sz := 6) (fun _ => rfl) (nth_some (by omega)) (i := 0) rfl) (by kernel_rfl) rfl ?_
      refine l_mv rfl ?_
      refine l_ne rfl rfl rfl ?_
      refine l_end ?_
      refine c_dec rfl (fun c3 => ?_) (fun c3 => ?_)
      ·
        refine c_exitC rfl ?_
        refine c_last ?_
        refine l_mv rfl ?_
        refine l_add rfl rfl (wi64 (by omega)) rfl ?_
        refine l_as rfl ?_
        exact l_nil (fun w' hw => ⟨i + 1, ⟨rfl, rfl, rfl, rfl, rfl, trivial⟩, ⟨by omega, by rw [take_nth (by omega)]; intro r hr; rcases List.mem_append.1 hr with q1 | q1; exact hI r q1; rw [List.mem_singleton.1 q1]; omega⟩, hw, (by omega)⟩)
      ·
        have hg : getA s (KR l) = some (nth l i) := by rw [show s = (nth l i).session by omega]; exact getR_of ho.up (nth_mem (by omega))
        refine c_skipC ?_
        refine c_seq ?_
        refine c_reg ?_
        refine l_mv rfl ?_
        refine l_mv rfl ?_
        refine l_nck rfl rfl ?_
        refine l_fld (o := 0) rfl (by kernel_rfl) rfl ?_
        refine l_ldo 0 (v := lv) rfl rfl rfl (by kernel_rfl) rfl ?_
        refine l_mv rfl ?_
        refine l_idxS (j := i) (sz := 6) (len := l.length) (cs := (l.flatMap RepD.cells)) rfl rfl (by kernel_rfl) (fun w' hw' => Vec.sl (Own.holds hw' 1 _ rfl)) rfl (by omega) rfl ?_
        refine l_fld (o := 1) rfl (by kernel_rfl) rfl ?_
        refine l_ldS (v := lv) (off := offV lv + i * 6 + 1) (i * 6 + 1) (cs := (l.flatMap RepD.cells)) rfl (by omega) (fun w' hw' => Vec.sl (Own.holds hw' 1 _ rfl)) (flat_at (sz := 6) (fun _ => rfl) (nth_some (by omega)) (i := 1) rfl) (by kernel_rfl) rfl ?_
        refine l_gtr rfl rfl rfl ?_
        refine l_end ?_
        refine c_dec rfl (fun c4 => ?_) (fun c4 => ?_)
        ·
          refine c_reg ?_
          refine l_bld (cs := [.int .u64 (0 : Nat), .int .u64 (0 : Nat), .int .i64 0, .int .u64 (0 : Nat), .int .i64 0, .int .i64 0]) (z := [.int .u64 (0 : Nat), .int .u64 (0 : Nat), .int .i64 0, .int .u64 (0 : Nat), .int .i64 0, .int .i64 0]) (pl := [(0, 1), (1, 1), (2, 1), (3, 1), (4, 1), (5, 1)]) (by kernel_rfl) (by kernel_rfl) rfl ?_
          refine l_stN (cs := [.int .u64 (0 : Nat), .int .u64 (0 : Nat), .int .i64 0, .int .u64 (0 : Nat), .int .i64 0, .int .i64 0]) (vs := [.int .u64 (0 : Nat), .int .u64 (0 : Nat), .int .i64 0, .int .u64 (0 : Nat), .int .i64 0, .int .i64 0]) 2 rfl rfl rfl (by kernel_rfl) (allc_cons rfl (allc_cons rfl (allc_cons rfl (allc_cons rfl (allc_cons rfl (allc_cons rfl allc_nil)))))) (Nat.le_of_ble_eq_true rfl) ?_
          refine l_as rfl ?_
          refine l_end ?_
          exact c_ret (retc2 (cs := [.int .u64 (0 : Nat), .int .u64 (0 : Nat), .int .i64 0, .int .u64 (0 : Nat), .int .i64 0, .int .i64 0]) (v := .int .i64 8) rfl rfl rfl (by kernel_rfl) (Own.rowCells (i := 2) rfl) (fun w' hw => ⟨RepD.zero, 8, rfl, (by unfold findK; rw [if_neg (by omega), hg]; show (if (nth l i).seq < q then _ else _) = _; rw [if_pos (by omega)]), hw.sel [0, 1] rfl (by decide)⟩))
        ·
          refine c_skipC ?_
          refine c_seq ?_
          refine c_reg ?_
          refine l_mv rfl ?_
          refine l_mv rfl ?_
          refine l_nck rfl rfl ?_
          refine l_fld (o := 0) rfl (by kernel_rfl) rfl ?_
          refine l_ldo 0 (v := lv) rfl rfl rfl (by kernel_rfl) rfl ?_
          refine l_mv rfl ?_
          refine l_idxS (j := i) (sz := 6) (len := l.length) (cs := (l.flatMap RepD.cells)) rfl rfl (by kernel_rfl) (fun w' hw' => Vec.sl (Own.holds hw' 1 _ rfl)) rfl (by omega) rfl ?_
          refine l_fld (o := 1) rfl (by kernel_rfl) rfl ?_
          refine l_ldS (v := lv) (off := offV lv + i * 6 + 1) (i * 6 + 1) (cs := (l.flatMap RepD.cells)) rfl (by omega) (fun w' hw' => Vec.sl (Own.holds hw' 1 _ rfl)) (flat_at (sz := 6) (fun _ => rfl) (nth_some (by omega)) (i := 1) rfl) (by kernel_rfl) rfl ?_
          refine l_lss rfl rfl rfl ?_
          refine l_end ?_
          refine c_dec rfl (fun c5 => ?_) (fun c5 => ?_)
          ·
            refine c_reg ?_
            refine l_bld (cs := [.int .u64 (0 : Nat), .int .u64 (0 : Nat), .int .i64 0, .int .u64 (0 : Nat), .int .i64 0, .int .i64 0]) (z := [.int .u64 (0 : Nat), .int .u64 (0 : Nat), .int .i64 0, .int .u64 (0 : Nat), .int .i64 0, .int .i64 0]) (pl := [(0, 1), (1, 1), (2, 1), (3, 1), (4, 1), (5, 1)]) (by kernel_rfl) (by kernel_rfl) rfl ?_
            refine l_stN (cs := [.int .u64 (0 : Nat), .int .u64 (0 : Nat), .int .i64 0, .int .u64 (0 : Nat), .int .i64 0, .int .i64 0]) (vs := [.int .u64 (0 : Nat), .int .u64 (0 : Nat), .int .i64 0, .int .u64 (0 : Nat), .int .i64 0, .int .i64 0]) 2 rfl rfl rfl (by kernel_rfl) (allc_cons rfl (allc_cons rfl (allc_cons rfl (allc_cons rfl (allc_cons rfl (allc_cons rfl allc_nil)))))) (Nat.le_of_ble_eq_true rfl) ?_
            refine l_as rfl ?_
            refine l_end ?_
            exact c_ret (retc2 (cs := [.int .u64 (0 : Nat), .int .u64 (0 : Nat), .int .i64 0, .int .u64 (0 : Nat), .int .i64 0, .int .i64 0]) (v := .int .i64 13) rfl rfl rfl (by kernel_rfl) (Own.rowCells (i := 2) rfl) (fun w' hw => ⟨RepD.zero, 13, rfl, (by unfold findK; rw [if_neg (by omega), hg]; show (if (nth l i).seq < q then _ else if q < (nth l i).seq then _ else _) = _; rw [if_neg (by omega), if_pos (by omega)]), hw.sel [0, 1] rfl (by decide)⟩))
          ·
            refine c_skipC ?_
            refine c_reg ?_
            refine l_mv rfl ?_
            refine l_nck rfl rfl ?_
            refine l_fld (o := 0) rfl (by kernel_rfl) rfl ?_
            refine l_ldo 0 (v := lv) rfl rfl rfl (by kernel_rfl) rfl ?_
            refine l_mv rfl ?_
            refine l_idxS (j := i) (sz := 6) (len := l.length) (cs := (l.flatMap RepD.cells)) rfl rfl (by kernel_rfl) (fun w' hw' => Vec.sl (Own.holds hw' 1 _ rfl)) rfl (by omega) rfl ?_
            refine l_ldSN (v := lv) (off := offV lv + i * 6) (i * 6 + 0) (cs := (l.flatMap RepD.cells)) (RepD.cells (nth l i)) rfl (by omega) (fun w' hw' => Vec.sl (Own.holds hw' 1 _ rfl)) (flat_atN (sz := 6) (fun _ => rfl) (nth_some (by omega)) (o := 0) (us := (RepD.cells (nth l i))) (fun k u h => by rw [Nat.zero_add]; exact h)) (by kernel_rfl) rfl ?_
            refine l_stN (cs := [.int .u64 (0 : Nat), .int .u64 (0 : Nat), .int .i64 0, .int .u64 (0 : Nat), .int .i64 0, .int .i64 0]) (vs := [.int .u64 ((nth l i).session : Nat), .int .u64 ((nth l i).seq : Nat), .int .i64 ((nth l i).e), .int .u64 ((nth l i).lease : Nat), .int .i64 ((nth l i).amount), .int .i64 ((nth l i).until_)]) 2 rfl rfl rfl (by kernel_rfl) (allc_cons rfl (allc_cons rfl (allc_cons rfl (allc_cons rfl (allc_cons rfl (allc_cons rfl allc_nil)))))) (Nat.le_of_ble_eq_true rfl) ?_
            refine l_as rfl ?_
            refine l_end ?_
            exact c_ret (retc2 (cs := (RepD.cells (nth l i))) (v := .int .i64 0) rfl rfl rfl (by kernel_rfl) (Own.rowCells (i := 2) rfl) (fun w' hw => ⟨nth l i, 0, rfl, (by unfold findK; rw [if_neg (by omega), hg]; show (if (nth l i).seq < q then _ else if q < (nth l i).seq then _ else _) = _; rw [if_neg (by omega), if_neg (by omega)]), hw.sel [0, 1] rfl (by decide)⟩))
    ·
      refine c_exitC rfl ?_
      refine c_seq ?_
      refine c_reg ?_
      refine l_mv rfl ?_
      refine l_nck rfl rfl ?_
      refine l_fld (o := 0) rfl (by kernel_rfl) rfl ?_
      refine l_ldo 0 (v := lv) rfl rfl rfl (by kernel_rfl) rfl ?_
      refine l_lenS (len := l.length) (cs := (l.flatMap RepD.cells)) (by kernel_rfl) rfl (fun w' hw' => Vec.sl (Own.holds hw' 1 _ rfl)) rfl ?_
      refine l_geq rfl rfl rfl ?_
      refine l_end ?_
      refine c_dec rfl (fun c6 => ?_) (fun c6 => ?_)
      ·
        refine c_reg ?_
        refine l_bld (cs := [.int .u64 (0 : Nat), .int .u64 (0 : Nat), .int .i64 0, .int .u64 (0 : Nat), .int .i64 0, .int .i64 0]) (z := [.int .u64 (0 : Nat), .int .u64 (0 : Nat), .int .i64 0, .int .u64 (0 : Nat), .int .i64 0, .int .i64 0]) (pl := [(0, 1), (1, 1), (2, 1), (3, 1), (4, 1), (5, 1)]) (by kernel_rfl) (by kernel_rfl) rfl ?_
        refine l_stN (cs := [.int .u64 (0 : Nat), .int .u64 (0 : Nat), .int .i64 0, .int .u64 (0 : Nat), .int .i64 0, .int .i64 0]) (vs := [.int .u64 (0 : Nat), .int .u64 (0 : Nat), .int .i64 0, .int .u64 (0 : Nat), .int .i64 0, .int .i64 0]) 2 rfl rfl rfl (by kernel_rfl) (allc_cons rfl (allc_cons rfl (allc_cons rfl (allc_cons rfl (allc_cons rfl (allc_cons rfl allc_nil)))))) (Nat.le_of_ble_eq_true rfl) ?_
        refine l_as rfl ?_
        refine l_end ?_
        exact c_ret (retc2 (cs := [.int .u64 (0 : Nat), .int .u64 (0 : Nat), .int .i64 0, .int .u64 (0 : Nat), .int .i64 0, .int .i64 0]) (v := .int .i64 7) rfl rfl rfl (by kernel_rfl) (Own.rowCells (i := 2) rfl) (fun w' hw => ⟨RepD.zero, 7, rfl, (by unfold findK; rw [if_neg (by omega), noneR hI (by omega)]; show (if 32 ≤ (KR l).length then _ else _) = _; rw [if_pos (by rw [KR_len]; omega)]), hw.sel [0, 1] rfl (by decide)⟩))
      ·
        refine c_skipC ?_
        refine c_reg ?_
        refine l_bld (cs := [.int .u64 (0 : Nat), .int .u64 (0 : Nat), .int .i64 0, .int .u64 (0 : Nat), .int .i64 0, .int .i64 0]) (z := [.int .u64 (0 : Nat), .int .u64 (0 : Nat), .int .i64 0, .int .u64 (0 : Nat), .int .i64 0, .int .i64 0]) (pl := [(0, 1), (1, 1), (2, 1), (3, 1), (4, 1), (5, 1)]) (by kernel_rfl) (by kernel_rfl) rfl ?_
        refine l_stN (cs := [.int .u64 (0 : Nat), .int .u64 (0 : Nat), .int .i64 0, .int .u64 (0 : Nat), .int .i64 0, .int .i64 0]) (vs := [.int .u64 (0 : Nat), .int .u64 (0 : Nat), .int .i64 0, .int .u64 (0 : Nat), .int .i64 0, .int .i64 0]) 2 rfl rfl rfl (by kernel_rfl) (allc_cons rfl (allc_cons rfl (allc_cons rfl (allc_cons rfl (allc_cons rfl (allc_cons rfl allc_nil)))))) (Nat.le_of_ble_eq_true rfl) ?_
        refine l_as rfl ?_
        refine l_end ?_
        exact c_ret (retc2 (cs := [.int .u64 (0 : Nat), .int .u64 (0 : Nat), .int .i64 0, .int .u64 (0 : Nat), .int .i64 0, .int .i64 0]) (v := .int .i64 8) rfl rfl rfl (by kernel_rfl) (Own.rowCells (i := 2) rfl) (fun w' hw => ⟨RepD.zero, 8, rfl, (by unfold findK; rw [if_neg (by omega), noneR hI (by omega)]; show (if 32 ≤ (KR l).length then _ else _) = _; rw [if_neg (by rw [KR_len]; omega)]), hw.sel [0, 1] rfl (by decide)⟩))
theorem rcdone_s (wb : Nat) (lv : Value) (l : List RepD) (r : RepD) (w : World) (ho : COk l) (hin : Own w (fps [Res.row wb 42 [lv], Res.vec 26 6 lv l.length (l.flatMap RepD.cells)]) [Res.row wb 42 [lv], Res.vec 26 6 lv l.length (l.flatMap RepD.cells)] w) : Rets Try.prog 23 #[.pointer (some ⟨wb, 0, none⟩), .agg (RepD.cells r).toArray] w fun u_ w' => ∃ (e : Int) (lv' : Value) (l' : List RepD), u_ = .int .i64 e ∧ e = doneE r (findK (KR l) r.session r.seq).2 ∧ l' = doneL l r ∧ Own w (fps [Res.row wb 42 [lv], Res.vec 26 6 lv l.length (l.flatMap RepD.cells)]) [Res.row wb 42 [lv'], Res.vec 26 6 lv' l'.length (l'.flatMap RepD.cells)] w' := by
  have hll := ho.len
  refine fn_enter (args := [.pointer (some ⟨wb, 0, none⟩), .agg (RepD.cells r).toArray]) Try.func23 rfl Try.ntmps23 rfl (show Own w (fps [Res.row wb 42 [lv], Res.vec 26 6 lv l.length (l.flatMap RepD.cells)]) [Res.row wb 42 [lv], Res.vec 26 6 lv l.length (l.flatMap RepD.cells)] w from hin) ?_
  refine c_reg ?_
  refine l_box rfl rfl (fun b3 => ?_)
  refine l_as rfl ?_
  refine l_end ?_
  refine c_seq ?_
  refine c_reg ?_
  refine l_ldr (cs := (RepD.cells r)) 2 rfl rfl (by kernel_rfl) rfl ?_
  refine l_call (by kernel_rfl) rfl rfl (fun w' hw => ?_)
  refine (replyOK_s r w').mono ?_
  rintro _ w1 ⟨rfl, hO⟩
  refine (?_ : CL _ _ _ _ _ _ (Own w (fps [Res.row wb 42 [lv], Res.vec 26 6 lv l.length (l.flatMap RepD.cells)]) [Res.row wb 42 [lv], Res.vec 26 6 lv l.length (l.flatMap RepD.cells), Res.row b3 26 (RepD.cells r)])) w1 (hw.frame0 hO)
  refine l_notp (q := r.ok) rfl rfl ?_
  refine l_end ?_
  refine c_dec rfl (fun c1 => ?_) (fun c1 => ?_)
  ·
    refine c_reg ?_
    refine l_as rfl ?_
    refine l_end ?_
    exact c_ret (ret1 (v := .int .i64 2) rfl rfl (fun w' hw => ⟨2, lv, l, rfl, (rdone2 c1 l).1, (rdone2 c1 l).2, hw.sel [0, 1] rfl (by decide)⟩))
  ·
    refine c_skipC ?_
    refine c_reg ?_
    refine l_mv rfl ?_
    refine l_fld (o := 0) rfl (by kernel_rfl) rfl ?_
    refine l_ldo 2 (v := .int .u64 (r.session : Nat)) rfl rfl rfl (by kernel_rfl) rfl ?_
    refine l_fld (o := 1) rfl (by kernel_rfl) rfl ?_
    refine l_ldo 2 (v := .int .u64 (r.seq : Nat)) rfl rfl rfl (by kernel_rfl) rfl ?_
    refine l_call (by kernel_rfl) rfl rfl (fun w' hw => ?_)
    refine (rcfind_s wb lv l r.session r.seq w' (by first | assumption | omega | (simp <;> omega) | (constructor <;> (first | omega | (simp only [LenOk]; omega) | (simp <;> omega)))) (hw.give [0, 1] rfl (by decide))).mono ?_
    rintro _ w1 ⟨x1_, e2_, rfl, hf3_5, hO⟩
    have hfe : (findK (KR l) r.session r.seq).2 = e2_ := congrArg Prod.snd hf3_5
    refine (?_ : CL _ _ _ _ _ _ (Own w (fps [Res.row wb 42 [lv], Res.vec 26 6 lv l.length (l.flatMap RepD.cells)]) [Res.row b3 26 (RepD.cells r), Res.row wb 42 [lv], Res.vec 26 6 lv l.length (l.flatMap RepD.cells)])) w1 (hw.frameL [0, 1] rfl hO)
    refine l_mv rfl ?_
    refine l_ext (vs := [.agg (RepD.cells x1_).toArray, .int .i64 e2_]) rfl rfl rfl ?_
    refine l_ext (vs := [.agg (RepD.cells x1_).toArray, .int .i64 e2_]) rfl rfl rfl ?_
    refine l_new (v := .agg #[.int .u64 (0 : Nat), .int .u64 (0 : Nat), .int .i64 0, .int .u64 (0 : Nat), .int .i64 0, .int .i64 0]) (by kernel_rfl) rfl (fun b5 => ?_)
    refine l_stN (cs := [.int .u64 (0 : Nat), .int .u64 (0 : Nat), .int .i64 0, .int .u64 (0 : Nat), .int .i64 0, .int .i64 0]) (vs := [.int .u64 (x1_.session : Nat), .int .u64 (x1_.seq : Nat), .int .i64 x1_.e, .int .u64 (x1_.lease : Nat), .int .i64 x1_.amount, .int .i64 x1_.until_]) 3 rfl rfl rfl (by kernel_rfl) (allc_cons rfl (allc_cons rfl (allc_cons rfl (allc_cons rfl (allc_cons rfl (allc_cons rfl allc_nil)))))) (Nat.le_of_ble_eq_true rfl) ?_
    refine l_as rfl ?_
    refine l_end ?_
    refine c_seq ?_
    refine c_reg ?_
    refine l_mv rfl ?_
    refine l_eq rfl rfl rfl ?_
    refine l_end ?_
    refine c_dec rfl (fun c2 => ?_) (fun c2 => ?_)
    ·
      refine c_reg ?_
      refine l_as rfl ?_
      refine l_end ?_
      exact c_ret (ret1 (v := .int .i64 9) rfl rfl (fun w' hw => ⟨9, lv, l, rfl, (by rw [← (rdoneX c1 hfe (by omega)).1, if_pos c2]), (rdoneX c1 hfe (by omega)).2, hw.sel [1, 2] rfl (by decide)⟩))
    ·
      refine c_skipC ?_
      refine c_seq ?_
      refine c_reg ?_
      refine l_mv rfl ?_
      refine l_ne rfl rfl rfl ?_
      refine l_end ?_
      refine c_dec rfl (fun c3 => ?_) (fun c3 => ?_)
      ·
        refine c_reg ?_
        refine l_mv rfl ?_
        refine l_as rfl ?_
        refine l_end ?_
        exact c_ret (ret1 (v := .int .i64 e2_) rfl rfl (fun w' hw => ⟨e2_, lv, l, rfl, (by rw [← (rdoneX c1 hfe c3).1, if_neg c2]), (rdoneX c1 hfe c3).2, hw.sel [1, 2] rfl (by decide)⟩))
      ·
        refine c_skipC ?_
        refine c_reg ?_
        refine l_as rfl ?_
        refine l_end ?_
        refine c_reg ?_
        refine l_as rfl ?_
        refine l_end ?_
        refine c_seq ?_
        refine c_reg ?_
        refine l_as rfl ?_
        refine l_end ?_
        refine c_block ?_
        refine c_loop4 (fun (i : Nat) (p : Bool) (ov : Value) (os : List RepD) => [(0, .pointer (some ⟨wb, 0, none⟩)), (3, .pointer (some ⟨b3, 0, none⟩)), (7, ov), (8, .bool p), (9, .int .i64 (i : Nat))]) (fun (i : Nat) (p : Bool) (ov : Value) (os : List RepD) => i ≤ l.length ∧ InsI r l i p os) (fun (i : Nat) (p : Bool) (ov : Value) (os : List RepD) => [Res.row b3 26 (RepD.cells r), Res.row wb 42 [lv], Res.vec 26 6 lv l.length (l.flatMap RepD.cells), Res.row b5 26 (RepD.cells x1_), Res.vec 26 6 ov os.length (os.flatMap RepD.cells)]) (fun (i : Nat) (p : Bool) (ov : Value) (os : List RepD) => l.length - i) (fun w' hw => ⟨0, false, .slice none 0 0, [], ⟨rfl, rfl, rfl, rfl, rfl, trivial⟩, ⟨Nat.zero_le _, InsI.start _ _⟩, (own_nil hw 26 6)⟩) (fun i p ov os g hΦ => ?_)
        have hi := hΦ.1
        have hI := hΦ.2
        have hol := hI.len
        refine c_seq ?_
        refine c_reg ?_
        refine l_mv rfl ?_
        refine l_mv rfl ?_
        refine l_nck rfl rfl ?_
        refine l_fld (o := 0) rfl (by kernel_rfl) rfl ?_
        refine l_ldo 1 (v := lv) rfl rfl rfl (by kernel_rfl) rfl ?_
        refine l_lenS (len := l.length) (cs := (l.flatMap RepD.cells)) (by kernel_rfl) rfl (fun w' hw' => Vec.sl (Own.holds hw' 2 _ rfl)) rfl ?_
        refine l_lss rfl rfl rfl ?_
        refine l_end ?_
        refine c_dec rfl (fun c4 => ?_) (fun c4 => ?_)
        ·
          refine c_skipC ?_
          refine c_seq ?_
          refine c_block ?_
          refine c_seq ?_
          refine c_quiets (by kernel_rfl) (by kernel_rfl) ?_
          refine q_val rfl (v_mv) ?_
          refine q_val rfl (v_not (b := p) rfl) ?_
          refine q_val rfl (v_mv) ?_
          refine q_band (q := (!p) = true) 11 2 [49, 48, 47, 46, 45, 44, 43, 42, 41, 40, 39] (((r.session : Nat) : Int) ≤ (((nth l i).session : Nat) : Int)) rfl rfl (bool_dec _) rfl rfl rfl trivial rfl (fun h13_2 => ?_) (fun g13_14 => ?_)
          ·
            refine q_on rfl (bT h13_2) ?_
            refine q_val rfl (v_mv) ?_
            refine q_on rfl (bT h13_2) ?_
            refine q_val rfl (v_nck rfl) ?_
            refine q_on rfl (bT h13_2) ?_
            refine q_val rfl (v_fld (o := 0) rfl (by kernel_rfl)) ?_
            refine q_on rfl (bT h13_2) ?_
            refine q_val rfl (v_ldo 1 (v := lv) rfl rfl rfl (by kernel_rfl)) ?_
            refine q_on rfl (bT h13_2) ?_
            refine q_val rfl (v_mv) ?_
            refine q_on rfl (bT h13_2) ?_
            refine q_val rfl (v_idxS (j := i) (sz := 6) (len := l.length) (cs := (l.flatMap RepD.cells)) rfl rfl (by kernel_rfl) (fun w' hw' => Vec.sl (Own.holds hw' 2 _ rfl)) rfl (by omega)) ?_
            refine q_on rfl (bT h13_2) ?_
            refine q_val rfl (v_fld (o := 0) rfl (by kernel_rfl)) ?_
            refine q_on rfl (bT h13_2) ?_
            refine q_val rfl (v_ldS (v := lv) (off := offV lv + i * 6 + 0) (i * 6 + 0) (cs := (l.flatMap RepD.cells)) rfl (by omega) (fun w' hw' => Vec.sl (Own.holds hw' 2 _ rfl)) (flat_at (sz := 6) (fun _ => rfl) (nth_some (by omega)) (i := 0) rfl) (by kernel_rfl)) ?_
            refine q_on rfl (bT h13_2) ?_
            refine q_val rfl (v_fld (o := 0) rfl (by kernel_rfl)) ?_
            refine q_on rfl (bT h13_2) ?_
            refine q_val rfl (v_ldo 0 (v := .int .u64 (r.session : Nat)) rfl rfl rfl (by kernel_rfl)) ?_
            refine q_on rfl (bT h13_2) ?_
            refine q_val rfl (v_geq rfl rfl) ?_
            exact q_nil (fun w' hw => ⟨(by repeat (first | exact Out.refl _ _ | refine Out.upd rfl ?_ | refine Out.msk rfl ?_)), rfl, hw⟩)
          refine q_end ?_
          refine c_dec rfl (fun c5 => ?_) (fun c5 => ?_)
          ·
            refine c_reg ?_
            refine l_mv rfl ?_
            refine l_ldr (cs := (RepD.cells r)) 0 rfl rfl (by kernel_rfl) rfl ?_
            refine l_bsl (e := 26) (sz := 6) (vs := [.agg (RepD.cells r).toArray]) (by kernel_rfl) rfl rfl (by simp [Value.cells, RepD.cells]) (by decide) rfl (fun b53 => ?_)
            refine l_appF (g := RepD.cells) (sz := 6) (by' := 48) (fun _ => rfl) (l := os) (l' := [r]) (by simp [cell1, RepD.cells, vu]) 4 (by kernel_rfl) rfl rfl rfl (fun w' hw' => Vec.sl (Own.holds hw' 5 _ rfl)) (by first | omega | (simp; omega)) (by decide) rfl (fun v54 => ?_)
            refine l_as rfl ?_
            refine l_end ?_
            refine c_last ?_
            refine l_as rfl ?_
            refine l_end ?_
            refine c_quiets (by kernel_rfl) (by kernel_rfl) ?_
            refine q_val rfl (v_mv) ?_
            refine q_val rfl (v_nck rfl) ?_
            refine q_val rfl (v_fld (o := 0) rfl (by kernel_rfl)) ?_
            refine q_val rfl (v_ldo 1 (v := lv) rfl rfl rfl (by kernel_rfl)) ?_
            refine q_val rfl (v_mv) ?_
            refine q_val rfl (v_idxS (j := i) (sz := 6) (len := l.length) (cs := (l.flatMap RepD.cells)) rfl rfl (by kernel_rfl) (fun w' hw' => Vec.sl (Own.holds hw' 2 _ rfl)) rfl (by omega)) ?_
            refine q_val rfl (v_fld (o := 0) rfl (by kernel_rfl)) ?_
            refine q_val rfl (v_ldS (v := lv) (off := offV lv + i * 6 + 0) (i * 6 + 0) (cs := (l.flatMap RepD.cells)) rfl (by omega) (fun w' hw' => Vec.sl (Own.holds hw' 2 _ rfl)) (flat_at (sz := 6) (fun _ => rfl) (nth_some (by omega)) (i := 0) rfl) (by kernel_rfl)) ?_
            refine q_val rfl (v_fld (o := 0) rfl (by kernel_rfl)) ?_
            refine q_val rfl (v_ldo 0 (v := .int .u64 (r.session : Nat)) rfl rfl rfl (by kernel_rfl)) ?_
            refine q_val rfl (v_ne rfl rfl) ?_
            refine q_end ?_
            refine c_dec rfl (fun c6 => ?_) (fun c6 => ?_)
            ·
              refine c_last ?_
              refine l_mv rfl ?_
              refine l_mv rfl ?_
              refine l_nck rfl rfl ?_
              refine l_fld (o := 0) rfl (by kernel_rfl) rfl ?_
              refine l_ldo 1 (v := lv) rfl rfl rfl (by kernel_rfl) rfl ?_
              refine l_mv rfl ?_
              refine l_idxS (j := i) (sz := 6) (len := l.length) (cs := (l.flatMap RepD.cells)) rfl rfl (by kernel_rfl) (fun w' hw' => Vec.sl (Own.holds hw' 2 _ rfl)) rfl (by omega) rfl ?_
              refine l_ldSN (v := lv) (off := offV lv + i * 6) (i * 6 + 0) (cs := (l.flatMap RepD.cells)) (RepD.cells (nth l i)) rfl (by omega) (fun w' hw' => Vec.sl (Own.holds hw' 2 _ rfl)) (flat_atN (sz := 6) (fun _ => rfl) (nth_some (by omega)) (o := 0) (us := (RepD.cells (nth l i))) (fun k u h => by rw [Nat.zero_add]; exact h)) (by kernel_rfl) rfl ?_
              refine l_bsl (e := 26) (sz := 6) (vs := [.agg (RepD.cells (nth l i)).toArray]) (by kernel_rfl) rfl rfl (by simp [Value.cells, RepD.cells]) (by decide) rfl (fun b74 => ?_)
              refine l_appF (g := RepD.cells) (sz := 6) (by' := 48) (fun _ => rfl) (l := os ++ [r]) (l' := [(nth l i)]) (by simp [cell1, RepD.cells, vu]) 4 (by kernel_rfl) rfl rfl rfl (fun w' hw' => Vec.sl (Own.holds hw' 6 _ rfl)) (by first | omega | (simp; omega)) (by decide) rfl (fun v75 => ?_)
              refine l_as rfl ?_
              refine l_end ?_
              refine c_last ?_
              refine l_mv rfl ?_
              refine l_add rfl rfl (wi64 (by omega)) rfl ?_
              refine l_as rfl ?_
              exact l_nil (fun w' hw => ⟨i + 1, true, v75, os ++ [r] ++ [nth l i], ⟨rfl, rfl, rfl, rfl, rfl, trivial⟩, ⟨by omega, by have h := hI.put (by omega) (notF c5.1) (by omega); rwa [if_pos (by omega)] at h⟩, hw.sel [0, 1, 2, 3, 4] rfl (by decide), (by omega)⟩)
            ·
              refine c_skipC ?_
              refine c_last ?_
              refine l_mv rfl ?_
              refine l_add rfl rfl (wi64 (by omega)) rfl ?_
              refine l_as rfl ?_
              exact l_nil (fun w' hw => ⟨i + 1, true, v54, os ++ [r], ⟨rfl, rfl, rfl, rfl, rfl, trivial⟩, ⟨by omega, by have h := hI.put (by omega) (notF c5.1) (by omega); rwa [if_neg (by omega), List.append_nil] at h⟩, hw.sel [0, 1, 2, 3, 4] rfl (by decide), (by omega)⟩)
          ·
            refine c_skipC ?_
            refine c_quiets (by kernel_rfl) (by kernel_rfl) ?_
            refine q_val rfl (v_mv) ?_
            refine q_val rfl (v_nck rfl) ?_
            refine q_val rfl (v_fld (o := 0) rfl (by kernel_rfl)) ?_
            refine q_val rfl (v_ldo 1 (v := lv) rfl rfl rfl (by kernel_rfl)) ?_
            refine q_val rfl (v_mv) ?_
            refine q_val rfl (v_idxS (j := i) (sz := 6) (len := l.length) (cs := (l.flatMap RepD.cells)) rfl rfl (by kernel_rfl) (fun w' hw' => Vec.sl (Own.holds hw' 2 _ rfl)) rfl (by omega)) ?_
            refine q_val rfl (v_fld (o := 0) rfl (by kernel_rfl)) ?_
            refine q_val rfl (v_ldS (v := lv) (off := offV lv + i * 6 + 0) (i * 6 + 0) (cs := (l.flatMap RepD.cells)) rfl (by omega) (fun w' hw' => Vec.sl (Own.holds hw' 2 _ rfl)) (flat_at (sz := 6) (fun _ => rfl) (nth_some (by omega)) (i := 0) rfl) (by kernel_rfl)) ?_
            refine q_val rfl (v_fld (o := 0) rfl (by kernel_rfl)) ?_
            refine q_val rfl (v_ldo 0 (v := .int .u64 (r.session : Nat)) rfl rfl rfl (by kernel_rfl)) ?_
            refine q_val rfl (v_ne rfl rfl) ?_
            refine q_end ?_
            refine c_dec rfl (fun c7 => ?_) (fun c7 => ?_)
            ·
              refine c_last ?_
              refine l_mv rfl ?_
              refine l_mv rfl ?_
              refine l_nck rfl rfl ?_
              refine l_fld (o := 0) rfl (by kernel_rfl) rfl ?_
              refine l_ldo 1 (v := lv) rfl rfl rfl (by kernel_rfl) rfl ?_
              refine l_mv rfl ?_
              refine l_idxS (j := i) (sz := 6) (len := l.length) (cs := (l.flatMap RepD.cells)) rfl rfl (by kernel_rfl) (fun w' hw' => Vec.sl (Own.holds hw' 2 _ rfl)) rfl (by omega) rfl ?_
              refine l_ldSN (v := lv) (off := offV lv + i * 6) (i * 6 + 0) (cs := (l.flatMap RepD.cells)) (RepD.cells (nth l i)) rfl (by omega) (fun w' hw' => Vec.sl (Own.holds hw' 2 _ rfl)) (flat_atN (sz := 6) (fun _ => rfl) (nth_some (by omega)) (o := 0) (us := (RepD.cells (nth l i))) (fun k u h => by rw [Nat.zero_add]; exact h)) (by kernel_rfl) rfl ?_
              refine l_bsl (e := 26) (sz := 6) (vs := [.agg (RepD.cells (nth l i)).toArray]) (by kernel_rfl) rfl rfl (by simp [Value.cells, RepD.cells]) (by decide) rfl (fun b74 => ?_)
              refine l_appF (g := RepD.cells) (sz := 6) (by' := 48) (fun _ => rfl) (l := os) (l' := [(nth l i)]) (by simp [cell1, RepD.cells, vu]) 4 (by kernel_rfl) rfl rfl rfl (fun w' hw' => Vec.sl (Own.holds hw' 5 _ rfl)) (by first | omega | (simp; omega)) (by decide) rfl (fun v75 => ?_)
              refine l_as rfl ?_
              refine l_end ?_
              refine c_last ?_
              refine l_mv rfl ?_
              refine l_add rfl rfl (wi64 (by omega)) rfl ?_
              refine l_as rfl ?_
              exact l_nil (fun w' hw => ⟨i + 1, p, v75, os ++ [nth l i], ⟨rfl, rfl, rfl, rfl, rfl, trivial⟩, ⟨by omega, (hI.more ho.up (by omega) (fun q => c5 ⟨notF' q.1, by omega⟩)).1⟩, hw.sel [0, 1, 2, 3, 4] rfl (by decide), (by omega)⟩)
            ·
              refine c_skipC ?_
              refine c_last ?_
              refine l_mv rfl ?_
              refine l_add rfl rfl (wi64 (by omega)) rfl ?_
              refine l_as rfl ?_
              exact l_nil (fun w' hw => ⟨i + 1, p, ov, os, ⟨rfl, rfl, rfl, rfl, rfl, trivial⟩, ⟨by omega, absurd (hI.more ho.up (by omega) (fun q => c5 ⟨notF' q.1, by omega⟩)).2 (by omega)⟩, hw, (by omega)⟩)
        ·
          refine c_exitC rfl ?_
          refine c_seq ?_
          refine c_reg ?_
          refine l_mv rfl ?_
          refine l_not (b := p) rfl rfl ?_
          refine l_end ?_
          refine c_if rfl (fun c8 => ?_) (fun c8 => ?_)
          ·
            refine c_last ?_
            refine l_mv rfl ?_
            refine l_ldr (cs := (RepD.cells r)) 0 rfl rfl (by kernel_rfl) rfl ?_
            refine l_bsl (e := 26) (sz := 6) (vs := [.agg (RepD.cells r).toArray]) (by kernel_rfl) rfl rfl (by simp [Value.cells, RepD.cells]) (by decide) rfl (fun b80 => ?_)
            refine l_appF (g := RepD.cells) (sz := 6) (by' := 48) (fun _ => rfl) (l := os) (l' := [r]) (by simp [cell1, RepD.cells, vu]) 4 (by kernel_rfl) rfl rfl rfl (fun w' hw' => Vec.sl (Own.holds hw' 5 _ rfl)) (by first | omega | (simp; omega)) (by decide) rfl (fun v81 => ?_)
            refine l_as rfl ?_
            refine l_end ?_
            refine c_reg ?_
            refine l_mv rfl ?_
            refine l_mv rfl ?_
            refine l_nck rfl rfl ?_
            refine l_fld (o := 0) rfl (by kernel_rfl) rfl ?_
            refine l_haveO (fun w' hw => Own.cell1Vec (i := 4) rfl hw) (fun hc1_ => ?_)
            refine l_st (cs := [lv]) 1 rfl rfl rfl (by kernel_rfl) hc1_ (Nat.le_of_ble_eq_true rfl) ?_
            refine l_end ?_
            refine c_reg ?_
            refine l_as rfl ?_
            refine l_end ?_
            exact c_ret (ret1 (v := .int .i64 0) rfl rfl (fun w' hw => ⟨0, v81, os ++ [r], rfl, (rdone0 c1 hfe c3).1, (by rw [← (rdone0 c1 hfe c3).2, ← hI.done (by omega), if_pos (notF c8)]), hw.sel [1, 4] rfl (by decide)⟩))
          ·
            refine c_skipC ?_
            refine c_reg ?_
            refine l_mv rfl ?_
            refine l_mv rfl ?_
            refine l_nck rfl rfl ?_
            refine l_fld (o := 0) rfl (by kernel_rfl) rfl ?_
            refine l_haveO (fun w' hw => Own.cell1Vec (i := 4) rfl hw) (fun hc2_ => ?_)
            refine l_st (cs := [lv]) 1 rfl rfl rfl (by kernel_rfl) hc2_ (Nat.le_of_ble_eq_true rfl) ?_
            refine l_end ?_
            refine c_reg ?_
            refine l_as rfl ?_
            refine l_end ?_
            exact c_ret (ret1 (v := .int .i64 0) rfl rfl (fun w' hw => ⟨0, ov, os, rfl, (rdone0 c1 hfe c3).1, (by rw [← (rdone0 c1 hfe c3).2, ← hI.done (by omega), if_neg (by cases p <;> simp_all), List.append_nil]), hw.sel [1, 4] rfl (by decide)⟩))
theorem RepDEq (r s : RepD) : eqL [(0, some (some .u64)), (1, some (some .u64)), (2, some (some .i64)), (3, some (some .u64)), (4, some (some .i64)), (5, some (some .i64))] r.cells s.cells = decide (r = s) := by
  obtain ⟨a, b, c, d, e, f⟩ := r
  obtain ⟨a', b', c', d', e', f'⟩ := s
  simp [eqL, RepD.cells, eqC, RepD.mk.injEq, Bool.decide_and]
  have h : ∀ m n : Nat, decide ((m : Int) = n) = decide (m = n) := fun m n => decide_eq_decide.2 (by omega)
  simp only [h]
theorem sameReplies_s (v : Value) (l : List RepD) (u : Value) (m : List RepD) (w : World) (hl : l.length ≤ 2000000) (hm : m.length ≤ 2000000) (hv : Rd w [] (Res.sl v l.length (l.flatMap RepD.cells))) (hu : Rd w [] (Res.sl u m.length (m.flatMap RepD.cells))) : Rets Try.prog 17 #[v, u] w fun u_ w' => u_ = .bool (decide (l = m)) ∧ Own w [] [] w' := by
  refine fn_enter (args := [v, u]) Try.func17 rfl Try.ntmps17 rfl (Own.start w) ?_
  refine c_reg ?_
  refine l_as rfl ?_
  refine l_end ?_
  refine c_seq ?_
  refine c_reg ?_
  refine l_as rfl ?_
  refine l_end ?_
  refine c_block ?_
  refine c_loop1 (fun (k : Nat) => [(0, v), (1, u), (5, .int .i64 (k : Nat))]) (fun (k : Nat) => (k ≤ l.length ∧ k ≤ m.length) ∧ l.take k = m.take k) (fun (k : Nat) => []) (fun (k : Nat) => l.length - k) (fun w' hw => ⟨0, ⟨rfl, rfl, rfl, trivial⟩, ⟨by omega, rfl⟩, hw⟩) (fun k g hΦ => ?_)
  have hk1 := hΦ.1
  have hk2 := hΦ.2
  refine c_seq ?_
  refine c_reg ?_
  refine l_mv rfl ?_
  refine l_mv rfl ?_
  refine l_lenS (len := l.length) (cs := (l.flatMap RepD.cells)) (by kernel_rfl) rfl (fun w' hw' => Own.rd hv hw') rfl ?_
  refine l_lss rfl rfl rfl ?_
  refine l_mv rfl ?_
  refine l_band (q := ((k : Nat) : Int) < ((l.length : Nat) : Int)) 4 4 [14, 13, 12, 11] (((k : Nat) : Int) < ((m.length : Nat) : Int)) rfl rfl rfl rfl rfl rfl trivial rfl (fun h2_4 => ?_) (fun g2_9 => ?_)
  ·
    refine l_on rfl (gT h2_4) ?_
    refine l_mv rfl ?_
    refine l_on rfl (gT h2_4) ?_
    refine l_mv rfl ?_
    refine l_on rfl (gT h2_4) ?_
    refine l_lenS (len := m.length) (cs := (m.flatMap RepD.cells)) (by kernel_rfl) rfl (fun w' hw' => Own.rd hu hw') rfl ?_
    refine l_on rfl (gT h2_4) ?_
    refine l_lss rfl rfl rfl ?_
    exact l_nil (fun w' hw => ⟨(by repeat (first | exact Out.refl _ _ | refine Out.upd rfl ?_ | refine Out.msk rfl ?_)), rfl, hw⟩)
  refine l_end ?_
  refine c_dec rfl (fun c1 => ?_) (fun c1 => ?_)
  ·
    refine c_skipC ?_
    refine c_seq ?_
    refine c_block ?_
    refine c_quiets (by kernel_rfl) (by kernel_rfl) ?_
    refine q_val rfl (v_mv) ?_
    refine q_val rfl (v_mv) ?_
    refine q_val rfl (v_idxS (j := k) (sz := 6) (len := l.length) (cs := (l.flatMap RepD.cells)) rfl rfl (by kernel_rfl) (fun w' hw' => Own.rd hv hw') rfl (by omega)) ?_
    refine q_val rfl (v_ldSN (v := v) (off := offV v + k * 6) (k * 6 + 0) (cs := (l.flatMap RepD.cells)) (RepD.cells (nth l k)) rfl (by omega) (fun w' hw' => Own.rd hv hw') (flat_atN (sz := 6) (fun _ => rfl) (nth_some (by omega)) (o := 0) (us := (RepD.cells (nth l k))) (fun k u h => by rw [Nat.zero_add]; exact h)) (by kernel_rfl)) ?_
    refine q_val rfl (v_mv) ?_
    refine q_val rfl (v_mv) ?_
    refine q_val rfl (v_idxS (j := k) (sz := 6) (len := m.length) (cs := (m.flatMap RepD.cells)) rfl rfl (by kernel_rfl) (fun w' hw' => Own.rd hu hw') rfl (by omega)) ?_
    refine q_val rfl (v_ldSN (v := u) (off := offV u + k * 6) (k * 6 + 0) (cs := (m.flatMap RepD.cells)) (RepD.cells (nth m k)) rfl (by omega) (fun w' hw' => Own.rd hu hw') (flat_atN (sz := 6) (fun _ => rfl) (nth_some (by omega)) (o := 0) (us := (RepD.cells (nth m k))) (fun k u h => by rw [Nat.zero_add]; exact h)) (by kernel_rfl)) ?_
    refine q_val rfl (v_stq (RepDEq (nth l k) (nth m k)) (by kernel_rfl) (by kernel_rfl) rfl rfl rfl rfl) ?_
    refine q_end ?_
    refine c_dec rfl (fun c2 => ?_) (fun c2 => ?_)
    ·
      refine c_reg ?_
      refine l_as rfl ?_
      refine l_end ?_
      exact c_ret (ret1 (v := .bool false) rfl rfl (fun w' hw => ⟨(by rw [decide_eq_false]; rintro rfl; exact c2 rfl), hw.drop⟩))
    ·
      refine c_skipC ?_
      refine c_last ?_
      refine l_mv rfl ?_
      refine l_add rfl rfl (wi64 (by omega)) rfl ?_
      refine l_as rfl ?_
      exact l_nil (fun w' hw => ⟨k + 1, ⟨rfl, rfl, rfl, trivial⟩, ⟨by omega, by rw [take_nth (by omega), take_nth (by omega), hk2, Decidable.not_not.1 c2]⟩, hw, (by omega)⟩)
  ·
    refine c_exitC rfl ?_
    refine c_reg ?_
    refine l_mv rfl ?_
    refine l_lenS (len := l.length) (cs := (l.flatMap RepD.cells)) (by kernel_rfl) rfl (fun w' hw' => Own.rd hv hw') rfl ?_
    refine l_mv rfl ?_
    refine l_lenS (len := m.length) (cs := (m.flatMap RepD.cells)) (by kernel_rfl) rfl (fun w' hw' => Own.rd hu hw') rfl ?_
    refine l_eq rfl rfl rfl ?_
    refine l_as rfl ?_
    refine l_end ?_
    exact c_ret (ret1 (v := .bool (decide (((l.length : Nat) : Int) = ((m.length : Nat) : Int)))) rfl rfl (fun w' hw => ⟨(by congr 1; exact decide_eq_decide.2 ⟨fun h => by have h2 := hk2; rw [List.take_of_length_le (by omega), List.take_of_length_le (by omega)] at h2; exact h2, fun h => by rw [h]⟩), hw.drop⟩))
theorem doneL_sub (l : List RepD) (r : RepD) : ∀ x ∈ doneL l r, x ∈ l ∨ x = r := by
  unfold doneL
  split
  · intro x hx
    unfold insR at hx
    rcases List.mem_append.1 hx with q | q
    · exact .inl (List.mem_filter.1 q).1
    · rcases List.mem_cons.1 q with q | q
      · exact .inr q
      · exact .inl (List.mem_filter.1 q).1
  · exact fun _ => .inl
structure DActD where
  kind : Int
  r : RepD
def DActD.cells (x : DActD) : List Value := .int .i64 x.kind :: x.r.cells
instance : Inhabited DActD := ⟨⟨0, RepD.zero⟩⟩
theorem doneE_rel {kl : List (Nat × RepD)} {l : List RepD} (h : COk l) (hr : CRel kl l) (r : RepD) : doneE r (findK kl r.session r.seq).2 = doneE r (findK (KR l) r.session r.seq).2 := by rw [find_rel h hr]
theorem pair2 {α β : Type} {p : α × β} {a c : α} {b d : β} (h1 : p = (a, b)) (h2 : p = (c, d)) : a = c ∧ b = d := by rw [h1] at h2; simpa using h2
theorem dact_s (b m wb : Nat) (kl : List (Nat × RepD)) (lv : Value) (l : List RepD) (a : DActD) (w : World) (ho : COk l) (hr : CRel kl l) (hx : a.r.wf) (hin : Own w (fps [Res.row b 56 [.map (some m)], Res.mp ekR repA m kl, Res.row wb 42 [lv], Res.vec 26 6 lv l.length (l.flatMap RepD.cells)]) [Res.row b 56 [.map (some m)], Res.mp ekR repA m kl, Res.row wb 42 [lv], Res.vec 26 6 lv l.length (l.flatMap RepD.cells)] w) : Rets Try.prog 16 #[.pointer (some ⟨b, 0, none⟩), .pointer (some ⟨wb, 0, none⟩), .agg (DActD.cells a).toArray] w fun u_ w' => ∃ (kl' : List (Nat × RepD)) (lv' : Value) (l' : List RepD), u_ = .bool true ∧ COk l' ∧ CRel kl' l' ∧ (∀ x ∈ l', x ∈ l ∨ x = a.r) ∧ Own w (fps [Res.row b 56 [.map (some m)], Res.mp ekR repA m kl, Res.row wb 42 [lv], Res.vec 26 6 lv l.length (l.flatMap RepD.cells)]) [Res.row b 56 [.map (some m)], Res.mp ekR repA m kl', Res.row wb 42 [lv'], Res.vec 26 6 lv' l'.length (l'.flatMap RepD.cells)] w' := by
  refine fn_enter (args := [.pointer (some ⟨b, 0, none⟩), .pointer (some ⟨wb, 0, none⟩), .agg (DActD.cells a).toArray]) Try.func16 rfl Try.ntmps16 rfl (show Own w (fps [Res.row b 56 [.map (some m)], Res.mp ekR repA m kl, Res.row wb 42 [lv], Res.vec 26 6 lv l.length (l.flatMap RepD.cells)]) [Res.row b 56 [.map (some m)], Res.mp ekR repA m kl, Res.row wb 42 [lv], Res.vec 26 6 lv l.length (l.flatMap RepD.cells)] w from hin) ?_
  refine c_reg ?_
  refine l_box rfl rfl (fun b5 => ?_)
  refine l_as rfl ?_
  refine l_end ?_
  refine c_seq ?_
  refine c_reg ?_
  refine l_fld (o := 0) rfl (by kernel_rfl) rfl ?_
  refine l_ldo 4 (v := .int .i64 a.kind) rfl rfl rfl (by kernel_rfl) rfl ?_
  refine l_eq rfl rfl rfl ?_
  refine l_end ?_
  refine c_dec rfl (fun c1 => ?_) (fun c1 => ?_)
  ·
    refine c_seq ?_
    refine c_heldo [4] rfl (by decide) (by kernel_rfl) (fun w' hw hS => ?_)
    refine h_take 0 rfl (by kernel_rfl) (by kernel_rfl) (by kernel_rfl) (v_mv) rfl hS ?_
    refine h_take 1 rfl (by kernel_rfl) (by kernel_rfl) (by kernel_rfl) (v_fld (o := 1) rfl (by kernel_rfl)) rfl hS ?_
    refine h_take 2 rfl (by kernel_rfl) (by kernel_rfl) (by kernel_rfl) (v_ldoN (cs := (DActD.cells a)) 0 (RepD.cells a.r) rfl rfl (sub_at' 1 rfl) (by kernel_rfl)) rfl hS ?_
    refine h_take 4 rfl (by kernel_rfl) (by kernel_rfl) (by kernel_rfl) (v_mv) rfl hS ?_
    refine h_take 5 rfl (by kernel_rfl) (by kernel_rfl) (by kernel_rfl) (v_fld (o := 1) rfl (by kernel_rfl)) rfl hS ?_
    refine h_take 6 rfl (by kernel_rfl) (by kernel_rfl) (by kernel_rfl) (v_ldoN (cs := (DActD.cells a)) 0 (RepD.cells a.r) rfl rfl (sub_at' 1 rfl) (by kernel_rfl)) rfl hS ?_
    refine h_one 3 (by kernel_rfl) rfl hw ?_
    refine l_call (by kernel_rfl) rfl rfl (fun w' hw => ?_)
    refine (ddone_s b m kl a.r w' (by first | assumption | omega | (simp <;> omega) | (constructor <;> (first | omega | (simp only [LenOk]; omega) | (simp <;> omega)))) (hw.give [0, 1] rfl (by decide))).mono ?_
    rintro _ w1 ⟨e1_, kl'2_, rfl, hf2_3, hf2_3_1, hO⟩
    refine (?_ : CL _ _ _ _ _ _ (Own w (fps [Res.row b 56 [.map (some m)], Res.mp ekR repA m kl, Res.row wb 42 [lv], Res.vec 26 6 lv l.length (l.flatMap RepD.cells)]) [Res.row wb 42 [lv], Res.vec 26 6 lv l.length (l.flatMap RepD.cells), Res.row b5 44 (DActD.cells a), Res.row b 56 [.map (some m)], Res.mp ekR repA m kl'2_])) w1 (hw.frameL [0, 1] rfl hO)
    refine l_nil (fun w' hw => ?_)
    have hS := hw.sel [2] rfl (by decide)
    refine ⟨hS, ?_⟩
    refine h_one 7 (by kernel_rfl) rfl hw ?_
    refine l_call (by kernel_rfl) rfl rfl (fun w' hw => ?_)
    refine (rcdone_s wb lv l a.r w' (by first | assumption | omega | (simp <;> omega) | (constructor <;> (first | omega | (simp only [LenOk]; omega) | (simp <;> omega)))) (hw.give [0, 1] rfl (by decide))).mono ?_
    rintro _ w1 ⟨e3_, lv'4_, l'5_, rfl, hf2_7, hf2_7_1, hO⟩
    refine (?_ : CL _ _ _ _ _ _ (Own w (fps [Res.row b 56 [.map (some m)], Res.mp ekR repA m kl, Res.row wb 42 [lv], Res.vec 26 6 lv l.length (l.flatMap RepD.cells)]) [Res.row b5 44 (DActD.cells a), Res.row b 56 [.map (some m)], Res.mp ekR repA m kl'2_, Res.row wb 42 [lv'4_], Res.vec 26 6 lv'4_ l'5_.length (l'5_.flatMap RepD.cells)])) w1 (hw.frameL [0, 1] rfl hO)
    refine l_nil (fun w' hw => ?_)
    have hS := hw.sel [0] rfl (by decide)
    refine ⟨hS, ?_⟩
    refine h_take 8 rfl (by kernel_rfl) (by kernel_rfl) (by kernel_rfl) (v_eq rfl rfl) rfl hS ?_
    refine h_take 9 rfl (by kernel_rfl) (by kernel_rfl) (by kernel_rfl) (v_as) rfl hS ?_
    refine h_done (by kernel_rfl) ?_
    refine (?_ : C _ _ _ _ _ _ _ (Own w (fps [Res.row b 56 [.map (some m)], Res.mp ekR repA m kl, Res.row wb 42 [lv], Res.vec 26 6 lv l.length (l.flatMap RepD.cells)]) [Res.row b5 44 (DActD.cells a), Res.row b 56 [.map (some m)], Res.mp ekR repA m kl'2_, Res.row wb 42 [lv'4_], Res.vec 26 6 lv'4_ l'5_.length (l'5_.flatMap RepD.cells)])) _ hw
    exact c_ret (ret1 (v := .bool (decide (e1_ = e3_))) rfl rfl (fun w' hw => ⟨kl'2_, lv'4_, l'5_, (by congr 1; exact decide_eq_true (hf2_3.trans ((doneE_rel ho hr _).trans hf2_7.symm))), (by rw [hf2_7_1]; exact doneL_ok ho _), (by rw [hf2_3_1, hf2_7_1]; exact done_rel ho hr _), (by rw [hf2_7_1]; exact doneL_sub l a.r), hw.sel [1, 2, 3, 4] rfl (by decide)⟩))
  ·
    refine c_skipC ?_
    refine c_reg ?_
    refine l_mv rfl ?_
    refine l_fld (o := 1) rfl (by kernel_rfl) rfl ?_
    refine l_fld (o := 0) rfl (by kernel_rfl) rfl ?_
    refine l_ldo 4 (v := .int .u64 (a.r.session : Nat)) rfl rfl rfl (by kernel_rfl) rfl ?_
    refine l_fld (o := 1) rfl (by kernel_rfl) rfl ?_
    refine l_fld (o := 1) rfl (by kernel_rfl) rfl ?_
    refine l_ldo 4 (v := .int .u64 (a.r.seq : Nat)) rfl rfl rfl (by kernel_rfl) rfl ?_
    refine l_call (by kernel_rfl) rfl rfl (fun w' hw => ?_)
    refine (dfind_s b m kl a.r.session a.r.seq w' (hw.give [0, 1] rfl (by decide))).mono ?_
    rintro _ w1 ⟨x6_, e7_, rfl, hf3_7, hO⟩
    refine (?_ : CL _ _ _ _ _ _ (Own w (fps [Res.row b 56 [.map (some m)], Res.mp ekR repA m kl, Res.row wb 42 [lv], Res.vec 26 6 lv l.length (l.flatMap RepD.cells)]) [Res.row wb 42 [lv], Res.vec 26 6 lv l.length (l.flatMap RepD.cells), Res.row b5 44 (DActD.cells a), Res.row b 56 [.map (some m)], Res.mp ekR repA m kl])) w1 (hw.frameL [0, 1] rfl hO)
    refine l_mv rfl ?_
    refine l_ext (vs := [.agg (RepD.cells x6_).toArray, .int .i64 e7_]) rfl rfl rfl ?_
    refine l_ext (vs := [.agg (RepD.cells x6_).toArray, .int .i64 e7_]) rfl rfl rfl ?_
    refine l_new (v := .agg #[.int .u64 (0 : Nat), .int .u64 (0 : Nat), .int .i64 0, .int .u64 (0 : Nat), .int .i64 0, .int .i64 0]) (by kernel_rfl) rfl (fun b7 => ?_)
    refine l_stN (cs := [.int .u64 (0 : Nat), .int .u64 (0 : Nat), .int .i64 0, .int .u64 (0 : Nat), .int .i64 0, .int .i64 0]) (vs := [.int .u64 (x6_.session : Nat), .int .u64 (x6_.seq : Nat), .int .i64 x6_.e, .int .u64 (x6_.lease : Nat), .int .i64 x6_.amount, .int .i64 x6_.until_]) 5 rfl rfl rfl (by kernel_rfl) (allc_cons rfl (allc_cons rfl (allc_cons rfl (allc_cons rfl (allc_cons rfl (allc_cons rfl allc_nil)))))) (Nat.le_of_ble_eq_true rfl) ?_
    refine l_as rfl ?_
    refine l_end ?_
    refine c_reg ?_
    refine l_mv rfl ?_
    refine l_fld (o := 1) rfl (by kernel_rfl) rfl ?_
    refine l_fld (o := 0) rfl (by kernel_rfl) rfl ?_
    refine l_ldo 2 (v := .int .u64 (a.r.session : Nat)) rfl rfl rfl (by kernel_rfl) rfl ?_
    refine l_fld (o := 1) rfl (by kernel_rfl) rfl ?_
    refine l_fld (o := 1) rfl (by kernel_rfl) rfl ?_
    refine l_ldo 2 (v := .int .u64 (a.r.seq : Nat)) rfl rfl rfl (by kernel_rfl) rfl ?_
    refine l_call (by kernel_rfl) rfl rfl (fun w' hw => ?_)
    refine (rcfind_s wb lv l a.r.session a.r.seq w' (by first | assumption | omega | (simp <;> omega) | (constructor <;> (first | omega | (simp only [LenOk]; omega) | (simp <;> omega)))) (hw.give [0, 1] rfl (by decide))).mono ?_
    rintro _ w1 ⟨x8_, e9_, rfl, hf4_7, hO⟩
    refine (?_ : CL _ _ _ _ _ _ (Own w (fps [Res.row b 56 [.map (some m)], Res.mp ekR repA m kl, Res.row wb 42 [lv], Res.vec 26 6 lv l.length (l.flatMap RepD.cells)]) [Res.row b5 44 (DActD.cells a), Res.row b 56 [.map (some m)], Res.mp ekR repA m kl, Res.row b7 26 (RepD.cells x6_), Res.row wb 42 [lv], Res.vec 26 6 lv l.length (l.flatMap RepD.cells)])) w1 (hw.frameL [0, 1] rfl hO)
    refine l_mv rfl ?_
    refine l_ext (vs := [.agg (RepD.cells x8_).toArray, .int .i64 e9_]) rfl rfl rfl ?_
    refine l_ext (vs := [.agg (RepD.cells x8_).toArray, .int .i64 e9_]) rfl rfl rfl ?_
    refine l_new (v := .agg #[.int .u64 (0 : Nat), .int .u64 (0 : Nat), .int .i64 0, .int .u64 (0 : Nat), .int .i64 0, .int .i64 0]) (by kernel_rfl) rfl (fun b9 => ?_)
    refine l_stN (cs := [.int .u64 (0 : Nat), .int .u64 (0 : Nat), .int .i64 0, .int .u64 (0 : Nat), .int .i64 0, .int .i64 0]) (vs := [.int .u64 (x8_.session : Nat), .int .u64 (x8_.seq : Nat), .int .i64 x8_.e, .int .u64 (x8_.lease : Nat), .int .i64 x8_.amount, .int .i64 x8_.until_]) 6 rfl rfl rfl (by kernel_rfl) (allc_cons rfl (allc_cons rfl (allc_cons rfl (allc_cons rfl (allc_cons rfl (allc_cons rfl allc_nil)))))) (Nat.le_of_ble_eq_true rfl) ?_
    refine l_as rfl ?_
    refine l_end ?_
    refine c_reg ?_
    refine l_ldr (cs := (RepD.cells x6_)) 3 rfl rfl (by kernel_rfl) rfl ?_
    refine l_ldr (cs := (RepD.cells x8_)) 6 rfl rfl (by kernel_rfl) rfl ?_
    refine l_val rfl (v_stp (RepDEq x6_ x8_) (by kernel_rfl) (by kernel_rfl) rfl rfl rfl rfl) ?_
    refine l_mv rfl ?_
    refine l_band (q := x6_ = x8_) 3 3 [51, 50, 49] (e7_ = e9_) rfl rfl rfl rfl rfl rfl trivial rfl (fun h5_3 => ?_) (fun g5_7 => ?_)
    ·
      refine l_on rfl (gT h5_3) ?_
      refine l_mv rfl ?_
      refine l_on rfl (gT h5_3) ?_
      refine l_mv rfl ?_
      refine l_on rfl (gT h5_3) ?_
      refine l_eq rfl rfl rfl ?_
      exact l_nil (fun w' hw => ⟨(by repeat (first | exact Out.refl _ _ | refine Out.upd rfl ?_ | refine Out.msk rfl ?_)), rfl, hw⟩)
    refine l_as rfl ?_
    refine l_end ?_
    exact c_ret (ret1 (v := .bool (decide ((x6_ = x8_) ∧ (e7_ = e9_)))) rfl rfl (fun w' hw => ⟨kl, lv, l, (by congr 1; exact decide_eq_true (pair2 ((find_rel ho hr _ _).symm.trans hf3_7) hf4_7)), ho, hr, (fun _ => .inl), hw.sel [1, 2, 4, 5] rfl (by decide)⟩))
theorem dgrown_s (v : Value) (acts : List DActD) (w : World) (hl : acts.length ≤ 100000000) (hwf : ∀ a ∈ acts, a.r.wf) (hv : Rd w [] (Res.sl v acts.length (acts.flatMap DActD.cells))) : Rets Try.prog 7 #[v] w fun u_ w' => ∃ (b m wb : Nat) (kl : List (Nat × RepD)) (lv : Value) (l : List RepD), u_ = .tuple #[.pointer (some ⟨b, 0, none⟩), .pointer (some ⟨wb, 0, none⟩)] ∧ COk l ∧ CRel kl l ∧ Own w [] [Res.row b 56 [.map (some m)], Res.mp ekR repA m kl, Res.row wb 42 [lv], Res.vec 26 6 lv l.length (l.flatMap RepD.cells)] w' := by
  refine fn_enter (args := [v]) Try.func7 rfl Try.ntmps7 rfl (Own.start w) ?_
  refine c_reg ?_
  refine l_as rfl ?_
  refine l_as rfl ?_
  refine l_end ?_
  refine c_reg ?_
  refine l_call (by kernel_rfl) rfl rfl (fun w' hw => ?_)
  refine (dnew_s w').mono ?_
  rintro _ w1 ⟨b1_, m2_, rfl, hO⟩
  refine (?_ : CL _ _ _ _ _ _ (Own w [] [Res.row b1_ 56 [.map (some m2_)], Res.mp ekR repA m2_ ([] : List (Nat × RepD))])) w1 (hw.frame0 hO)
  refine l_bld (cs := [.slice none 0 0]) (z := [.slice none 0 0]) (pl := [(0, 1)]) (by kernel_rfl) (by kernel_rfl) rfl ?_
  refine l_box rfl rfl (fun b9 => ?_)
  refine l_as rfl ?_
  refine l_as rfl ?_
  refine l_end ?_
  refine c_seq ?_
  refine c_reg ?_
  refine l_as rfl ?_
  refine l_end ?_
  refine c_block ?_
  refine c_loop4 (fun (i : Nat) (kl : List (Nat × RepD)) (lv : Value) (l : List RepD) => [(0, v), (4, .pointer (some ⟨b1_, 0, none⟩)), (5, .pointer (some ⟨b9, 0, none⟩)), (6, .int .i64 (i : Nat))]) (fun (i : Nat) (kl : List (Nat × RepD)) (lv : Value) (l : List RepD) => i ≤ acts.length ∧ COk l ∧ CRel kl l) (fun (i : Nat) (kl : List (Nat × RepD)) (lv : Value) (l : List RepD) => [Res.row b1_ 56 [.map (some m2_)], Res.mp ekR repA m2_ kl, Res.row b9 42 [lv], Res.vec 26 6 lv l.length (l.flatMap RepD.cells)]) (fun (i : Nat) (kl : List (Nat × RepD)) (lv : Value) (l : List RepD) => acts.length - i) (fun w' hw => ⟨0, [], .slice none 0 0, [], ⟨rfl, rfl, rfl, rfl, trivial⟩, ⟨Nat.zero_le _, COk.start, CRel.start⟩, (own_nil hw 26 6)⟩) (fun i kl lv l g hΦ => ?_)
  have hi := hΦ.1
  have ho := hΦ.2.1
  have hr := hΦ.2.2
  refine c_seq ?_
  refine c_reg ?_
  refine l_mv rfl ?_
  refine l_mv rfl ?_
  refine l_lenS (len := acts.length) (cs := (acts.flatMap DActD.cells)) (by kernel_rfl) rfl (fun w' hw' => Own.rd hv hw') rfl ?_
  refine l_lss rfl rfl rfl ?_
  refine l_mv rfl ?_
  refine l_band (q := ((i : Nat) : Int) < ((acts.length : Nat) : Int)) 2 4 [16, 15] (((i : Nat) : Int) < 200) rfl rfl rfl rfl rfl rfl trivial rfl (fun h3_4 => ?_) (fun g3_7 => ?_)
  ·
    refine l_on rfl (gT h3_4) ?_
    refine l_mv rfl ?_
    refine l_on rfl (gT h3_4) ?_
    refine l_lss rfl rfl rfl ?_
    exact l_nil (fun w' hw => ⟨(by repeat (first | exact Out.refl _ _ | refine Out.upd rfl ?_ | refine Out.msk rfl ?_)), rfl, hw⟩)
  refine l_mv rfl ?_
  refine l_band (q := (((i : Nat) : Int) < ((acts.length : Nat) : Int)) ∧ (((i : Nat) : Int) < 200)) 2 8 [20, 19] (true = true) rfl rfl rfl rfl rfl rfl trivial rfl (fun h3_8 => ?_) (fun g3_11 => ?_)
  ·
    refine l_on rfl (gT h3_8) ?_
    refine l_mv rfl ?_
    refine l_on rfl (gT h3_8) ?_
    refine l_nilnp (by kernel_rfl) rfl rfl rfl ?_
    exact l_nil (fun w' hw => ⟨(by repeat (first | exact Out.refl _ _ | refine Out.upd rfl ?_ | refine Out.msk rfl ?_)), (bool_dec _), hw⟩)
  refine l_end ?_
  refine c_dec rfl (fun c1 => ?_) (fun c1 => ?_)
  ·
    refine c_skipC ?_
    refine c_seq ?_
    refine c_block ?_
    refine c_last ?_
    refine l_mv rfl ?_
    refine l_mv rfl ?_
    refine l_mv rfl ?_
    refine l_mv rfl ?_
    refine l_idxS (j := i) (sz := 7) (len := acts.length) (cs := (acts.flatMap DActD.cells)) rfl rfl (by kernel_rfl) (fun w' hw' => Own.rd hv hw') rfl (by omega) rfl ?_
    refine l_ldSN (v := v) (off := offV v + i * 7) (i * 7 + 0) (cs := (acts.flatMap DActD.cells)) (DActD.cells (nth acts i)) rfl (by omega) (fun w' hw' => Own.rd hv hw') (flat_atN (sz := 7) (fun _ => rfl) (nth_some (by omega)) (o := 0) (us := (DActD.cells (nth acts i))) (fun k u h => by rw [Nat.zero_add]; exact h)) (by kernel_rfl) rfl ?_
    refine l_call (by kernel_rfl) rfl rfl (fun w' hw => ?_)
    refine (dact_s b1_ m2_ b9 kl lv l (nth acts i) w' ho hr (hwf _ (nth_mem (by omega))) (hw.give [0, 1, 2, 3] rfl (by decide))).mono ?_
    rintro _ w1 ⟨kl'3_, lv'4_, l'5_, rfl, hf5_6, hf5_6_1, hf5_6_2, hO⟩
    refine (?_ : CL _ _ _ _ _ _ (Own w [] [Res.row b1_ 56 [.map (some m2_)], Res.mp ekR repA m2_ kl'3_, Res.row b9 42 [lv'4_], Res.vec 26 6 lv'4_ l'5_.length (l'5_.flatMap RepD.cells)])) w1 (hw.frameL [0, 1, 2, 3] rfl hO)
    refine l_end ?_
    refine c_last ?_
    refine l_mv rfl ?_
    refine l_add rfl rfl (wi64 (by omega)) rfl ?_
    refine l_as rfl ?_
    exact l_nil (fun w' hw => ⟨i + 1, kl'3_, lv'4_, l'5_, ⟨rfl, rfl, rfl, rfl, trivial⟩, ⟨by omega, hf5_6, hf5_6_1⟩, hw, (by omega)⟩)
  ·
    refine c_exitC rfl ?_
    refine c_reg ?_
    refine l_mv rfl ?_
    refine l_mv rfl ?_
    refine l_as rfl ?_
    refine l_as rfl ?_
    refine l_end ?_
    exact c_ret (ret2 (v := .pointer (some ⟨b1_, 0, none⟩)) (v' := .pointer (some ⟨b9, 0, none⟩)) rfl rfl rfl (fun w' hw => ⟨b1_, m2_, b9, kl, lv, l, rfl, ho, hr, hw⟩))
theorem ansR : findK (doneK [] ⟨1, 3, 0, 0, 7, 0⟩) 1 3 = (⟨1, 3, 0, 0, 7, 0⟩, 0) ∧ doneE ⟨1, 3, 0, 0, 7, 0⟩ (findK [] 1 3).2 = 0 := by decide
theorem danswers_s (w : World) : Rets Try.prog 8 #[] w fun u_ w' => u_ = .bool true ∧ Own w [] [] w' := by
  refine fn_enter (args := []) Try.func8 rfl Try.ntmps8 rfl (Own.start w) ?_
  refine c_reg ?_
  refine l_as rfl ?_
  refine l_end ?_
  refine c_reg ?_
  refine l_call (by kernel_rfl) rfl rfl (fun w' hw => ?_)
  refine (dnew_s w').mono ?_
  rintro _ w1 ⟨b1_, m2_, rfl, hO⟩
  refine (?_ : CL _ _ _ _ _ _ (Own w [] [Res.row b1_ 56 [.map (some m2_)], Res.mp ekR repA m2_ ([] : List (Nat × RepD))])) w1 (hw.frame0 hO)
  refine l_as rfl ?_
  refine l_end ?_
  refine c_seq ?_
  refine c_reg ?_
  refine l_mv rfl ?_
  refine l_nilp (by kernel_rfl) rfl rfl rfl ?_
  refine l_end ?_
  refine c_no rfl ?_
  refine c_skipC ?_
  refine c_reg ?_
  refine l_mv rfl ?_
  refine l_bld (cs := [.int .u64 (1 : Nat), .int .u64 (3 : Nat), .int .i64 0, .int .u64 (0 : Nat), .int .i64 7, .int .i64 0]) (z := [.int .u64 (0 : Nat), .int .u64 (0 : Nat), .int .i64 0, .int .u64 (0 : Nat), .int .i64 0, .int .i64 0]) (pl := [(0, 1), (1, 1), (2, 1), (3, 1), (4, 1), (5, 1)]) (by kernel_rfl) (by kernel_rfl) rfl ?_
  refine l_call (by kernel_rfl) rfl rfl (fun w' hw => ?_)
  refine (ddone_s b1_ m2_ [] ({ session := 1, seq := 3, e := 0, lease := 0, amount := 7, until_ := 0 } : RepD) w' ⟨by decide, by decide, by decide, ⟨by decide, by decide⟩, ⟨by decide, by decide⟩⟩ (hw.give [0, 1] rfl (by decide))).mono ?_
  rintro _ w1 ⟨e3_, kl'4_, rfl, hf4_2, hf4_2_1, hO⟩
  refine (?_ : CL _ _ _ _ _ _ (Own w [] [Res.row b1_ 56 [.map (some m2_)], Res.mp ekR repA m2_ kl'4_])) w1 (hw.frameL [0, 1] rfl hO)
  refine l_as rfl ?_
  refine l_end ?_
  refine c_reg ?_
  refine l_mv rfl ?_
  refine l_call (by kernel_rfl) rfl rfl (fun w' hw => ?_)
  refine (dfind_s b1_ m2_ kl'4_ 1 3 w' (hw.give [0, 1] rfl (by decide))).mono ?_
  rintro _ w1 ⟨x5_, e6_, rfl, hf5_1, hO⟩
  refine (?_ : CL _ _ _ _ _ _ (Own w [] [Res.row b1_ 56 [.map (some m2_)], Res.mp ekR repA m2_ kl'4_])) w1 (hw.frameL [0, 1] rfl hO)
  refine l_mv rfl ?_
  refine l_ext (vs := [.agg (RepD.cells x5_).toArray, .int .i64 e6_]) rfl rfl rfl ?_
  refine l_ext (vs := [.agg (RepD.cells x5_).toArray, .int .i64 e6_]) rfl rfl rfl ?_
  refine l_new (v := .agg #[.int .u64 (0 : Nat), .int .u64 (0 : Nat), .int .i64 0, .int .u64 (0 : Nat), .int .i64 0, .int .i64 0]) (by kernel_rfl) rfl (fun b3 => ?_)
  refine l_stN (cs := [.int .u64 (0 : Nat), .int .u64 (0 : Nat), .int .i64 0, .int .u64 (0 : Nat), .int .i64 0, .int .i64 0]) (vs := [.int .u64 (x5_.session : Nat), .int .u64 (x5_.seq : Nat), .int .i64 x5_.e, .int .u64 (x5_.lease : Nat), .int .i64 x5_.amount, .int .i64 x5_.until_]) 2 rfl rfl rfl (by kernel_rfl) (allc_cons rfl (allc_cons rfl (allc_cons rfl (allc_cons rfl (allc_cons rfl (allc_cons rfl allc_nil)))))) (Nat.le_of_ble_eq_true rfl) ?_
  refine l_as rfl ?_
  refine l_end ?_
  refine c_reg ?_
  refine l_mv rfl ?_
  refine l_eq rfl rfl rfl ?_
  refine l_mv rfl ?_
  refine l_band (q := e3_ = 0) 2 2 [20, 19] (e6_ = 0) rfl rfl rfl rfl rfl rfl trivial rfl (fun h6_2 => ?_) (fun g6_5 => ?_)
  ·
    refine l_on rfl (gT h6_2) ?_
    refine l_mv rfl ?_
    refine l_on rfl (gT h6_2) ?_
    refine l_eq rfl rfl rfl ?_
    exact l_nil (fun w' hw => ⟨(by repeat (first | exact Out.refl _ _ | refine Out.upd rfl ?_ | refine Out.msk rfl ?_)), rfl, hw⟩)
  refine l_mv rfl ?_
  refine l_band (q := (e3_ = 0) ∧ (e6_ = 0)) 3 6 [25, 24, 23] (x5_.amount = 7) rfl rfl rfl rfl rfl rfl trivial rfl (fun h6_6 => ?_) (fun g6_10 => ?_)
  ·
    refine l_on rfl (gT h6_6) ?_
    refine l_fld (o := 4) rfl (by kernel_rfl) rfl ?_
    refine l_on rfl (gT h6_6) ?_
    refine l_ldo 2 (v := .int .i64 x5_.amount) rfl rfl rfl (by kernel_rfl) rfl ?_
    refine l_on rfl (gT h6_6) ?_
    refine l_eq rfl rfl rfl ?_
    exact l_nil (fun w' hw => ⟨(by repeat (first | exact Out.refl _ _ | refine Out.upd rfl ?_ | refine Out.msk rfl ?_)), rfl, hw⟩)
  refine l_as rfl ?_
  refine l_end ?_
  exact c_ret (ret1 (v := .bool (decide (((e3_ = 0) ∧ (e6_ = 0)) ∧ (x5_.amount = 7)))) rfl rfl (fun w' hw => ⟨(by congr 1; refine decide_eq_true ?_; have h := hf5_1; rw [hf4_2_1, ansR.1] at h; exact ⟨⟨hf4_2.trans ansR.2, (Prod.mk.inj h).2.symm⟩, by rw [← (Prod.mk.inj h).1]⟩), hw.drop⟩))
end Go.Proofs.Ytjnnobekbgpaaaa
