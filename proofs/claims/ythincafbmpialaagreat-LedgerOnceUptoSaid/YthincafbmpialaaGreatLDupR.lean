/-
  THE LAST REPLIES: the reference, and what is done to both at once.
-/
import Derived.Test.YthincafbmpialaaGreatLDup
set_option linter.unusedVariables false
set_option maxRecDepth 10000
namespace Go.Proofs.YthincafbmpialaaGreat
open Go Go.Sc Go.Proofs

def KR (l : List RepD) : List (Nat × RepD) := l.map fun r => (r.session, r)
theorem KR_len (l : List RepD) : (KR l).length = l.length := by simp [KR]
structure COk (l : List RepD) : Prop where
  up : (l.map (·.session)).Pairwise (· < ·)
  each : ∀ r ∈ l, r.ok ∧ 1 ≤ r.session ∧ 1 ≤ r.seq
  len : l.length ≤ 32
def CRel (kl : List (Nat × RepD)) (l : List RepD) : Prop := kl.Perm (KR l)
section
variable {kl : List (Nat × RepD)} {l : List RepD} {r : RepD} {s q : Nat}
theorem KR_nd (h : (l.map (·.session)).Pairwise (· < ·)) : KNd (KR l) := by
  unfold KNd KR; rw [List.map_map]
  exact h.imp fun q => by omega
theorem COk.nd (h : COk l) (hr : CRel kl l) : KNd kl := (KR_nd h.up).perm hr.symm
theorem find_rel (h : COk l) (hr : CRel kl l) (s q : Nat) : findK kl s q = findK (KR l) s q := by
  unfold findK; rw [getA_perm (h.nd hr) hr, hr.length_eq]
theorem getR_of (h : (l.map (·.session)).Pairwise (· < ·)) (hm : r ∈ l) : getA r.session (KR l) = some r := getA_of (KR_nd h) (List.mem_map.2 ⟨r, hm, rfl⟩)
theorem getR_mem (hg : getA s (KR l) = some r) : r ∈ l ∧ r.session = s := by
  have := getA_mem hg
  obtain ⟨x, hx, e⟩ := List.mem_map.1 this
  simp only [Prod.mk.injEq] at e
  exact ⟨e.2 ▸ hx, e.2 ▸ e.1⟩
/-- Where a reply is kept. -/
def insR (r : RepD) (l : List RepD) : List RepD := l.filter (fun x => decide (x.session < r.session)) ++ r :: l.filter (fun x => decide (r.session < x.session))
def doneL (l : List RepD) (r : RepD) : List RepD := if r.ok ∧ (findK (KR l) r.session r.seq).2 = 8 then insR r l else l
theorem split3 (s : Nat) : ∀ l : List RepD, (l.filter fun x => decide (x.session ≠ s)).Perm (l.filter (fun x => decide (x.session < s)) ++ l.filter (fun x => decide (s < x.session)))
  | [] => .refl _
  | a :: l => by
    have ih := split3 s l
    rcases Nat.lt_trichotomy a.session s with h | h | h
    · rw [List.filter_cons_of_pos (by simp; omega), List.filter_cons_of_pos (by simp; omega), List.filter_cons_of_neg (by simp; omega)]
      exact ih.cons _
    · rw [List.filter_cons_of_neg (by simp; omega), List.filter_cons_of_neg (by simp; omega), List.filter_cons_of_neg (by simp; omega)]
      exact ih
    · rw [List.filter_cons_of_pos (by simp; omega), List.filter_cons_of_neg (by simp; omega), List.filter_cons_of_pos (by simp; omega)]
      exact (ih.cons _).trans List.perm_middle.symm
theorem insR_perm (r : RepD) (l : List RepD) : (insR r l).Perm (r :: l.filter fun x => decide (x.session ≠ r.session)) := by
  unfold insR
  exact List.perm_middle.trans ((split3 r.session l).symm.cons _)
theorem KR_filter (s : Nat) (l : List RepD) : KR (l.filter fun x => decide (x.session ≠ s)) = (KR l).filter fun p => decide (p.1 ≠ s) := by
  unfold KR; rw [List.filter_map]; rfl
theorem done_rel (h : COk l) (hr : CRel kl l) (r : RepD) : CRel (doneK kl r) (doneL l r) := by
  unfold doneK doneL
  rw [find_rel h hr]
  split
  · refine (putA_perm (h.nd hr)).trans ?_
    refine List.Perm.trans ?_ ((insR_perm r l).map fun r => (r.session, r)).symm
    rw [List.map_cons]
    refine List.Perm.cons _ ?_
    have e := KR_filter r.session l
    unfold KR at e
    rw [e]
    exact List.Perm.filter _ hr
  · exact hr
theorem find8_not1 {kl : List (Nat × RepD)} (h : (findK kl s q).2 = 8) : s ≠ 0 ∧ q ≠ 0 := by
  unfold findK at h
  split at h
  · cases h
  · omega
theorem doneL_ok (h : COk l) (r : RepD) : COk (doneL l r) := by
  unfold doneL
  split
  · rename_i c
    obtain ⟨c1, c2⟩ := c
    have hn := find8_not1 c2
    have hp := insR_perm r l
    refine ⟨?_, fun x hx => ?_, ?_⟩
    · unfold insR
      rw [List.map_append, List.map_cons, List.pairwise_append, List.pairwise_cons]
      refine ⟨h.up.sublist (List.filter_sublist.map _), ⟨fun a ha => ?_, h.up.sublist (List.filter_sublist.map _)⟩, fun a ha b hb => ?_⟩
      · obtain ⟨x, hx, rfl⟩ := List.mem_map.1 ha
        simpa using (List.mem_filter.1 hx).2
      · obtain ⟨x, hx, rfl⟩ := List.mem_map.1 ha
        have h1 : x.session < r.session := by simpa using (List.mem_filter.1 hx).2
        rcases List.mem_cons.1 hb with rfl | hb
        · exact h1
        · obtain ⟨y, hy, rfl⟩ := List.mem_map.1 hb
          have h2 : r.session < y.session := by simpa using (List.mem_filter.1 hy).2
          omega
    · rcases List.mem_cons.1 (hp.mem_iff.1 hx) with rfl | hx
      · exact ⟨c1, by omega, by omega⟩
      · exact h.each x (List.mem_filter.1 hx).1
    · rw [hp.length_eq, List.length_cons]
      have h1 := h.len
      have h2 := List.length_filter_le (fun x : RepD => decide (x.session ≠ r.session)) l
      cases hg : getA r.session (KR l) with
      | none =>
        unfold findK at c2
        rw [if_neg (by omega), hg] at c2
        have c3 : (if 32 ≤ (KR l).length then (RepD.zero, (7 : Int)) else (RepD.zero, 8)).2 = 8 := c2
        split at c3
        · cases c3
        · rw [KR_len] at *; omega
      | some x =>
        obtain ⟨hx, hs⟩ := getR_mem hg
        have : (l.filter fun x => decide (x.session ≠ r.session)).length < l.length := by
          refine Nat.lt_of_le_of_ne h2 fun q => ?_
          have := List.length_filter_eq_length_iff.1 q x hx
          simp at this; exact this hs
        omega
  · exact h
theorem COk.start : COk [] := ⟨by simp, by simp, by simp⟩
theorem CRel.start : CRel [] [] := .refl _
/-- The reference's round: what was made anew so far. -/
def InsI (r : RepD) (l : List RepD) (i : Nat) (p : Bool) (os : List RepD) : Prop :=
  (p = false ∧ os = l.take i ∧ ∀ x ∈ l.take i, x.session < r.session) ∨
  (p = true ∧ os = (l.take i).filter (fun x => decide (x.session < r.session)) ++ r :: (l.take i).filter (fun x => decide (r.session < x.session)) ∧ ∃ x ∈ l.take i, r.session ≤ x.session)
theorem InsI.start (r : RepD) (l : List RepD) : InsI r l 0 false [] := .inl ⟨rfl, rfl, by simp⟩
theorem lt_all {l : List RepD} {s : Nat} (h : ∀ x ∈ l, x.session < s) : l.filter (fun x => decide (x.session < s)) = l ∧ l.filter (fun x => decide (s < x.session)) = [] :=
  ⟨List.filter_eq_self.2 fun x hx => by simpa using h x hx, List.filter_eq_nil_iff.2 fun x hx => by have := h x hx; simp; omega⟩
theorem up_at (h : (l.map (·.session)).Pairwise (· < ·)) {i : Nat} (hi : i < l.length) {x : RepD} (hx : x ∈ l.take i) : x.session < (nth l i).session := by
  obtain ⟨j, hj, e⟩ := List.mem_iff_getElem.1 hx
  have hj' : j < i := by rw [List.length_take] at hj; omega
  have := List.pairwise_iff_getElem.1 h j i (by rw [List.length_map]; omega) (by rw [List.length_map]; exact hi) hj'
  rw [List.getElem_map, List.getElem_map] at this
  rw [List.getElem_take] at e
  have e2 := nth_eq (List.getElem?_eq_getElem hi)
  rw [e2, ← e]; exact this
theorem InsI.put {i : Nat} {p : Bool} {os : List RepD} (h : InsI r l i p os) (hi : i < l.length) (hp : p = false) (hge : r.session ≤ (nth l i).session) : InsI r l (i + 1) true (os ++ [r] ++ if (nth l i).session ≠ r.session then [nth l i] else []) := by
  rcases h with ⟨_, h2, h3⟩ | ⟨h1, _⟩
  · obtain ⟨f1, f2⟩ := lt_all h3
    refine .inr ⟨rfl, ?_, nth l i, by rw [take_nth hi]; simp, hge⟩
    rw [take_nth hi, List.filter_append, List.filter_append, f1, f2, List.filter_cons_of_neg (by simp; omega), List.filter_nil, List.append_nil, List.nil_append, h2, List.append_assoc]
    congr 1
    by_cases c : (nth l i).session ≠ r.session
    · rw [if_pos c, List.filter_cons_of_pos (by simp; omega)]; rfl
    · rw [if_neg c, List.filter_cons_of_neg (by simp; omega)]; rfl
  · rw [hp] at h1; cases h1
theorem InsI.more (hu : (l.map (·.session)).Pairwise (· < ·)) {i : Nat} {p : Bool} {os : List RepD} (h : InsI r l i p os) (hi : i < l.length) (hn : ¬ (p = false ∧ r.session ≤ (nth l i).session)) : InsI r l (i + 1) p (os ++ [nth l i]) ∧ (nth l i).session ≠ r.session := by
  rcases h with ⟨h1, h2, h3⟩ | ⟨h1, h2, y, hy, h3⟩
  · have hlt : (nth l i).session < r.session := Nat.not_le.1 fun q => hn ⟨h1, q⟩
    refine ⟨.inl ⟨h1, by rw [h2, take_nth hi], fun x hx => ?_⟩, by omega⟩
    rw [take_nth hi] at hx
    rcases List.mem_append.1 hx with q | q
    · exact h3 x q
    · rw [List.mem_singleton.1 q]; exact hlt
  · have hgt := up_at hu hi hy
    refine ⟨.inr ⟨h1, ?_, y, by rw [take_nth hi]; exact List.mem_append_left _ hy, h3⟩, by omega⟩
    rw [take_nth hi, List.filter_append, List.filter_append, List.filter_cons_of_neg (by simp; omega), List.filter_nil, List.append_nil, List.filter_cons_of_pos (by simp; omega), List.filter_nil, h2, List.append_assoc]
    rfl
theorem InsI.done {i : Nat} {p : Bool} {os : List RepD} (h : InsI r l i p os) (hi : l.length ≤ i) : os ++ (if p = false then [r] else []) = insR r l := by
  unfold InsI at h
  rw [List.take_of_length_le hi] at h
  rcases h with ⟨h1, h2, h3⟩ | ⟨h1, h2, _⟩
  · obtain ⟨f1, f2⟩ := lt_all h3
    unfold insR; rw [f1, f2, if_pos h1, h2]
  · rw [h1, if_neg (by decide), List.append_nil, h2]; rfl
theorem InsI.len {i : Nat} {p : Bool} {os : List RepD} (h : InsI r l i p os) : os.length ≤ l.length + 1 := by
  rcases h with ⟨h1, h2, h3⟩ | ⟨h1, h2, _⟩
  · rw [h2, List.length_take]; omega
  · have hp := insR_perm r (l.take i)
    have : os = insR r (l.take i) := h2
    rw [this, hp.length_eq, List.length_cons]
    have := List.length_filter_le (fun x : RepD => decide (x.session ≠ r.session)) (l.take i)
    rw [List.length_take] at this; omega
end
theorem notF {p : Bool} (h : (!p) = true) : p = false := by cases p <;> simp_all
theorem notF' {p : Bool} (h : p = false) : (!p) = true := by rw [h]; rfl
theorem noneR {l : List RepD} {s i : Nat} (h : ∀ r ∈ l.take i, r.session ≠ s) (hi : l.length ≤ i) : getA s (KR l) = none := by
  rw [List.take_of_length_le hi] at h
  rw [getA_none]
  intro p hp
  obtain ⟨x, hx, rfl⟩ := List.mem_map.1 hp
  exact h x hx
theorem rdone2 {r : RepD} (hn : ¬ r.ok) (l : List RepD) : 2 = doneE r (findK (KR l) r.session r.seq).2 ∧ l = doneL l r := by
  unfold doneE doneL
  rw [if_pos hn, if_neg fun k => hn k.1]
  exact ⟨rfl, rfl⟩
theorem rdoneX {r : RepD} {l : List RepD} {e : Int} (h : ¬ ¬ r.ok) (he : (findK (KR l) r.session r.seq).2 = e) (h8 : e ≠ 8) : (if e = 0 then 9 else e) = doneE r (findK (KR l) r.session r.seq).2 ∧ l = doneL l r := by
  unfold doneE doneL
  refine ⟨?_, ?_⟩
  · rw [if_neg h, he, if_neg h8]
  · rw [he, if_neg fun k => h8 k.2]
theorem rdone0 {r : RepD} {l : List RepD} {e : Int} (h : ¬ ¬ r.ok) (he : (findK (KR l) r.session r.seq).2 = e) (h8 : ¬ e ≠ 8) : 0 = doneE r (findK (KR l) r.session r.seq).2 ∧ insR r l = doneL l r := by
  have h8 : e = 8 := Decidable.not_not.1 h8
  unfold doneE doneL
  refine ⟨?_, ?_⟩
  · rw [if_neg h, he, if_pos h8]
  · rw [he, if_pos ⟨Decidable.not_not.1 h, h8⟩]
theorem replyOK_s (r : RepD) (w : World) : Rets Tryz.prog 70 #[.agg (RepD.cells r).toArray] w fun u_ w' => u_ = .bool (decide r.ok) ∧ Own w [] [] w' := by
  refine fn_own Tryz.func70 rfl Tryz.ntmps70 (Own.start w) ?_
  refine c_reg (l_box rfl rfl (fun b1 => l_as rfl (l_end (c_reg (a_fld (o := 2) rfl rfl (a_ldo 0 (v := Vi r.e) rfl rfl rfl rfl (l_geq rfl rfl rfl (l_mv rfl (l_band (q := 0 ≤ r.e) 3 3 [9, 8, 7] (r.e ≤ 20) rfl rfl rfl rfl rfl rfl trivial rfl (fun h1_3 => ?_) (fun g1_7 => ?_))))))))))
  ·
   refine l_on rfl (gT h1_3) (a_fld (o := 2) rfl rfl (l_on rfl (gT h1_3) (a_ldo 0 (v := Vi r.e) rfl rfl rfl rfl (l_on rfl (gT h1_3) (l_leq rfl rfl rfl ?_)))))
   exact l_gp rfl (fun _ hw => hw)
  refine l_as rfl (l_end ?_)
  exact c_ret (ret1 (v := .bool (decide ((0 ≤ r.e) ∧ (r.e ≤ 20)))) rfl rfl (fun w' hw => ⟨rfl, hw.drop⟩))
theorem rcfind_s {S : List Nat} (wb e : Nat) (z0 z1 z2 z3 : Value) (xs : List Value) (lv : Value) (l : List RepD) (s q : Nat) (w : World) (ho : COk l) (hin : Own w S [Res.row wb e (z0 :: z1 :: z2 :: z3 :: lv :: xs), Res.vec 43 6 lv l.length (l.flatMap RepD.cells)] w) : Rets Tryz.prog 30 #[.pointer (some ⟨wb, 4, none⟩), Vn s, Vn q] w fun u_ w' => ∃ (x : RepD) (er : Int), u_ = .tuple #[.agg (RepD.cells x).toArray, Vi er] ∧ findK (KR l) s q = (x, er) ∧ Own w S [Res.row wb e (z0 :: z1 :: z2 :: z3 :: lv :: xs), Res.vec 43 6 lv l.length (l.flatMap RepD.cells)] w' := by
  have hll := ho.len
  refine fn_own Tryz.func30 rfl Tryz.ntmps30 hin ?_
  refine c_reg (l_new (v := .agg #[Vn 0, Vn 0, Vi 0, Vn 0, Vi 0, Vi 0]) (by kernel_rfl) rfl (fun b6 => l_as rfl (l_end (c_seq (c_reg (l_mv rfl (l_eq rfl rfl rfl (l_mv rfl (l_bor (q := ((s : Nat) : Int) = ((0 : Nat) : Int)) 2 2 [13, 12] (((q : Nat) : Int) = ((0 : Nat) : Int)) rfl rfl rfl rfl rfl rfl trivial rfl (fun h1_2 => ?_) (fun g1_5 => ?_))))))))))
  ·
   refine l_on rfl (gF h1_2) (l_mv rfl (l_on rfl (gF h1_2) (l_eq rfl rfl rfl ?_)))
   exact l_gp rfl (fun _ hw => hw)
  refine l_end (c_dec rfl (fun c1 => ?_) (fun c1 => ?_))
  ·
   refine c_reg (l_bld (cs := [Vn 0, Vn 0, Vi 0, Vn 0, Vi 0, Vi 0]) (z := [Vn 0, Vn 0, Vi 0, Vn 0, Vi 0, Vi 0]) (pl := [(0, 1), (1, 1), (2, 1), (3, 1), (4, 1), (5, 1)]) (by kernel_rfl) (by kernel_rfl) rfl (a_stN 2 rfl rfl rfl (allc rfl) rfl (l_as rfl (l_end ?_))))
   exact c_ret (retc2 (cs := [Vn 0, Vn 0, Vi 0, Vn 0, Vi 0, Vi 0]) (v := Vi 1) rfl rfl rfl (by kernel_rfl) (Own.rowCells (i := 2) rfl) (fun w' hw => ⟨RepD.zero, 1, rfl, find1 c1, hw.sel [0, 1] rfl (by decide)⟩))
  ·
   refine c_skipC (c_seq (c_reg (l_as rfl (l_end (c_block ?_)))))
   refine c_loop1 (fun (i : Nat) => [(0, .pointer (some ⟨wb, 4, none⟩)), (1, Vn s), (2, Vn q), (6, .pointer (some ⟨b6, 0, none⟩)), (8, Vj i)]) (fun (i : Nat) => i ≤ l.length ∧ ∀ r ∈ l.take i, r.session ≠ s) (fun (i : Nat) => [Res.row wb e (z0 :: z1 :: z2 :: z3 :: lv :: xs), Res.vec 43 6 lv l.length (l.flatMap RepD.cells), Res.row b6 43 [Vn 0, Vn 0, Vi 0, Vn 0, Vi 0, Vi 0]]) (fun (i : Nat) => l.length - i) (fun w' hw => ⟨0, ⟨rfl, rfl, rfl, rfl, rfl, trivial⟩, ⟨Nat.zero_le _, by simp⟩, hw⟩) (fun i g hΦ => ?_)
   have hi := hΦ.1
   have hI := hΦ.2
   refine c_seq (c_reg (l_mv rfl (l_mv rfl (l_nck rfl rfl (a_fld (o := 0) rfl rfl (a_ldo 0 (v := lv) rfl rfl rfl rfl (a_lenP (pV 1 rfl) rfl rfl (l_lss rfl rfl rfl (l_end (c_dec rfl (fun c2 => ?_) (fun c2 => ?_)))))))))))
   ·
    refine c_skipC (c_seq (c_block (c_seq (c_reg (l_mv rfl (l_nck rfl rfl (a_fld (o := 0) rfl rfl (a_ldo 0 (v := lv) rfl rfl rfl rfl (l_mv rfl (a_idxP (pV 1 rfl) 6 i rfl rfl rfl (by omega) rfl (a_fld (o := 0) rfl rfl (a_ldP (pV 1 rfl) 6 i 0 (off := offV lv + i * 6 + 0) (fun _ => rfl) rfl (by omega) (by omega) rfl rfl ?_))))))))))))
    refine l_mv rfl (l_ne rfl rfl rfl (l_end (c_dec rfl (fun c3 => ?_) (fun c3 => ?_))))
    ·
     refine c_exitC rfl (c_last (l_mv rfl (l_add rfl rfl (wi64 (by omega)) rfl (l_as rfl ?_))))
     exact l_nil (fun w' hw => ⟨i + 1, ⟨rfl, rfl, rfl, rfl, rfl, trivial⟩, ⟨by omega, by rw [take_nth (by omega)]; intro r hr; rcases List.mem_append.1 hr with q1 | q1; exact hI r q1; rw [List.mem_singleton.1 q1]; omega⟩, hw, (by omega)⟩)
    ·
     have hg : getA s (KR l) = some (nth l i) := by rw [show s = (nth l i).session by omega]; exact getR_of ho.up (nth_mem (by omega))
     refine c_skipC (c_seq (c_reg (l_mv rfl (l_mv rfl (l_nck rfl rfl (a_fld (o := 0) rfl rfl (a_ldo 0 (v := lv) rfl rfl rfl rfl (l_mv rfl (a_idxP (pV 1 rfl) 6 i rfl rfl rfl (by omega) rfl (a_fld (o := 1) rfl rfl (a_ldP (pV 1 rfl) 6 i 1 (off := offV lv + i * 6 + 1) (fun _ => rfl) rfl (by omega) (by omega) rfl rfl (l_gtr rfl rfl rfl ?_))))))))))))
     refine l_end (c_dec rfl (fun c4 => ?_) (fun c4 => ?_))
     ·
      refine c_reg (l_bld (cs := [Vn 0, Vn 0, Vi 0, Vn 0, Vi 0, Vi 0]) (z := [Vn 0, Vn 0, Vi 0, Vn 0, Vi 0, Vi 0]) (pl := [(0, 1), (1, 1), (2, 1), (3, 1), (4, 1), (5, 1)]) (by kernel_rfl) (by kernel_rfl) rfl (a_stN 2 rfl rfl rfl (allc rfl) rfl (l_as rfl (l_end ?_))))
      exact c_ret (retc2 (cs := [Vn 0, Vn 0, Vi 0, Vn 0, Vi 0, Vi 0]) (v := Vi 8) rfl rfl rfl (by kernel_rfl) (Own.rowCells (i := 2) rfl) (fun w' hw => ⟨RepD.zero, 8, rfl, (by unfold findK; rw [if_neg (by omega), hg]; show (if (nth l i).seq < q then _ else _) = _; rw [if_pos (by omega)]), hw.sel [0, 1] rfl (by decide)⟩))
     ·
      refine c_skipC (c_seq (c_reg (l_mv rfl (l_mv rfl (l_nck rfl rfl (a_fld (o := 0) rfl rfl (a_ldo 0 (v := lv) rfl rfl rfl rfl (l_mv rfl (a_idxP (pV 1 rfl) 6 i rfl rfl rfl (by omega) rfl (a_fld (o := 1) rfl rfl (a_ldP (pV 1 rfl) 6 i 1 (off := offV lv + i * 6 + 1) (fun _ => rfl) rfl (by omega) (by omega) rfl rfl (l_lss rfl rfl rfl ?_))))))))))))
      refine l_end (c_dec rfl (fun c5 => ?_) (fun c5 => ?_))
      ·
       refine c_reg (l_bld (cs := [Vn 0, Vn 0, Vi 0, Vn 0, Vi 0, Vi 0]) (z := [Vn 0, Vn 0, Vi 0, Vn 0, Vi 0, Vi 0]) (pl := [(0, 1), (1, 1), (2, 1), (3, 1), (4, 1), (5, 1)]) (by kernel_rfl) (by kernel_rfl) rfl (a_stN 2 rfl rfl rfl (allc rfl) rfl (l_as rfl (l_end ?_))))
       exact c_ret (retc2 (cs := [Vn 0, Vn 0, Vi 0, Vn 0, Vi 0, Vi 0]) (v := Vi 13) rfl rfl rfl (by kernel_rfl) (Own.rowCells (i := 2) rfl) (fun w' hw => ⟨RepD.zero, 13, rfl, (by unfold findK; rw [if_neg (by omega), hg]; show (if (nth l i).seq < q then _ else if q < (nth l i).seq then _ else _) = _; rw [if_neg (by omega), if_pos (by omega)]), hw.sel [0, 1] rfl (by decide)⟩))
      ·
       refine c_skipC (c_reg (l_mv rfl (l_nck rfl rfl (a_fld (o := 0) rfl rfl (a_ldo 0 (v := lv) rfl rfl rfl rfl (l_mv rfl (a_idxP (pV 1 rfl) 6 i rfl rfl rfl (by omega) rfl (a_ldAP (pV 1 rfl) 6 i (off := offV lv + i * 6) (fun _ => rfl) rfl rfl (by omega) rfl (a_stN 2 rfl rfl rfl (allc rfl) rfl (l_as rfl (l_end ?_)))))))))))
       exact c_ret (retc2 (cs := (RepD.cells (nth l i))) (v := Vi 0) rfl rfl rfl (by kernel_rfl) (Own.rowCells (i := 2) rfl) (fun w' hw => ⟨nth l i, 0, rfl, (by unfold findK; rw [if_neg (by omega), hg]; show (if (nth l i).seq < q then _ else if q < (nth l i).seq then _ else _) = _; rw [if_neg (by omega), if_neg (by omega)]), hw.sel [0, 1] rfl (by decide)⟩))
   ·
    refine c_exitC rfl (c_seq (c_reg (l_mv rfl (l_nck rfl rfl (a_fld (o := 0) rfl rfl (a_ldo 0 (v := lv) rfl rfl rfl rfl (a_lenP (pV 1 rfl) rfl rfl (l_geq rfl rfl rfl (l_end (c_dec rfl (fun c6 => ?_) (fun c6 => ?_)))))))))))
    ·
     refine c_reg (l_bld (cs := [Vn 0, Vn 0, Vi 0, Vn 0, Vi 0, Vi 0]) (z := [Vn 0, Vn 0, Vi 0, Vn 0, Vi 0, Vi 0]) (pl := [(0, 1), (1, 1), (2, 1), (3, 1), (4, 1), (5, 1)]) (by kernel_rfl) (by kernel_rfl) rfl (a_stN 2 rfl rfl rfl (allc rfl) rfl (l_as rfl (l_end ?_))))
     exact c_ret (retc2 (cs := [Vn 0, Vn 0, Vi 0, Vn 0, Vi 0, Vi 0]) (v := Vi 7) rfl rfl rfl (by kernel_rfl) (Own.rowCells (i := 2) rfl) (fun w' hw => ⟨RepD.zero, 7, rfl, (by unfold findK; rw [if_neg (by omega), noneR hI (by omega)]; show (if 32 ≤ (KR l).length then _ else _) = _; rw [if_pos (by rw [KR_len]; omega)]), hw.sel [0, 1] rfl (by decide)⟩))
    ·
     refine c_skipC (c_reg (l_bld (cs := [Vn 0, Vn 0, Vi 0, Vn 0, Vi 0, Vi 0]) (z := [Vn 0, Vn 0, Vi 0, Vn 0, Vi 0, Vi 0]) (pl := [(0, 1), (1, 1), (2, 1), (3, 1), (4, 1), (5, 1)]) (by kernel_rfl) (by kernel_rfl) rfl (a_stN 2 rfl rfl rfl (allc rfl) rfl (l_as rfl (l_end ?_)))))
     exact c_ret (retc2 (cs := [Vn 0, Vn 0, Vi 0, Vn 0, Vi 0, Vi 0]) (v := Vi 8) rfl rfl rfl (by kernel_rfl) (Own.rowCells (i := 2) rfl) (fun w' hw => ⟨RepD.zero, 8, rfl, (by unfold findK; rw [if_neg (by omega), noneR hI (by omega)]; show (if 32 ≤ (KR l).length then _ else _) = _; rw [if_neg (by rw [KR_len]; omega)]), hw.sel [0, 1] rfl (by decide)⟩))
theorem rcdone_s {S : List Nat} (wb e : Nat) (z0 z1 z2 z3 : Value) (xs : List Value) (lv : Value) (l : List RepD) (r : RepD) (w : World) (ho : COk l) (hin : Own w S [Res.row wb e (z0 :: z1 :: z2 :: z3 :: lv :: xs), Res.vec 43 6 lv l.length (l.flatMap RepD.cells)] w) : Rets Tryz.prog 35 #[.pointer (some ⟨wb, 4, none⟩), .agg (RepD.cells r).toArray] w fun u_ w' => ∃ (er : Int) (lv' : Value) (l' : List RepD), u_ = Vi er ∧ er = doneE r (findK (KR l) r.session r.seq).2 ∧ l' = doneL l r ∧ Own w S [Res.row wb e (z0 :: z1 :: z2 :: z3 :: lv' :: xs), Res.vec 43 6 lv' l'.length (l'.flatMap RepD.cells)] w' := by
  have hll := ho.len
  refine fn_own Tryz.func35 rfl Tryz.ntmps35 hin ?_
  refine c_reg (l_box rfl rfl (fun b3 => l_as rfl (l_end (c_seq (c_reg (a_ldr (cs := (RepD.cells r)) 2 rfl rfl rfl (a_call rfl rfl (fun w' hw => (replyOK_s r w').mono ?_))))))))
  rintro _ w1 ⟨rfl, hO⟩
  refine (?_ : CL _ _ _ _ _ _ (Own w S [Res.row wb e (z0 :: z1 :: z2 :: z3 :: lv :: xs), Res.vec 43 6 lv l.length (l.flatMap RepD.cells), Res.row b3 43 (RepD.cells r)])) w1 (hw.frame0 hO)
  refine l_notp (q := r.ok) rfl rfl (l_end (c_dec rfl (fun c1 => ?_) (fun c1 => ?_)))
  ·
   refine c_reg (l_as rfl (l_end ?_))
   exact c_ret (ret1 (v := Vi 2) rfl rfl (fun w' hw => ⟨2, lv, l, rfl, (rdone2 c1 l).1, (rdone2 c1 l).2, hw.sel [0, 1] rfl (by decide)⟩))
  ·
   refine c_skipC (c_reg (l_mv rfl (a_fld (o := 0) rfl rfl (a_ldo 2 (v := Vn r.session) rfl rfl rfl rfl (a_fld (o := 1) rfl rfl (a_ldo 2 (v := Vn r.seq) rfl rfl rfl rfl (a_call rfl rfl (fun w' hw => (rcfind_s wb e z0 z1 z2 z3 (xs) lv l r.session r.seq w' ‹_› (hw.give [0, 1] rfl (by decide))).mono ?_))))))))
   rintro _ w1 ⟨x1_, er2_, rfl, hf3_5, hO⟩
   have hfe : (findK (KR l) r.session r.seq).2 = er2_ := congrArg Prod.snd hf3_5
   refine (?_ : CL _ _ _ _ _ _ (Own w S [Res.row b3 43 (RepD.cells r), Res.row wb e (z0 :: z1 :: z2 :: z3 :: lv :: xs), Res.vec 43 6 lv l.length (l.flatMap RepD.cells)])) w1 (hw.frameL [0, 1] rfl hO)
   refine l_mv rfl (l_ext (vs := [.agg (RepD.cells x1_).toArray, Vi er2_]) rfl rfl rfl (l_ext (vs := [.agg (RepD.cells x1_).toArray, Vi er2_]) rfl rfl rfl (l_new (v := .agg #[Vn 0, Vn 0, Vi 0, Vn 0, Vi 0, Vi 0]) (by kernel_rfl) rfl (fun b5 => a_stN 3 rfl rfl rfl (allc rfl) rfl (l_as rfl (l_end (c_seq (c_reg (l_mv rfl (l_eq rfl rfl rfl (l_end (c_dec rfl (fun c2 => ?_) (fun c2 => ?_)))))))))))))
   ·
    refine c_reg (l_as rfl (l_end ?_))
    exact c_ret (ret1 (v := Vi 9) rfl rfl (fun w' hw => ⟨9, lv, l, rfl, (by rw [← (rdoneX c1 hfe (by omega)).1, if_pos c2]), (rdoneX c1 hfe (by omega)).2, hw.sel [1, 2] rfl (by decide)⟩))
   ·
    refine c_skipC (c_seq (c_reg (l_mv rfl (l_ne rfl rfl rfl (l_end (c_dec rfl (fun c3 => ?_) (fun c3 => ?_)))))))
    ·
     refine c_reg (l_mv rfl (l_as rfl (l_end ?_)))
     exact c_ret (ret1 (v := Vi er2_) rfl rfl (fun w' hw => ⟨er2_, lv, l, rfl, (by rw [← (rdoneX c1 hfe c3).1, if_neg c2]), (rdoneX c1 hfe c3).2, hw.sel [1, 2] rfl (by decide)⟩))
    ·
     refine c_skipC (c_reg (l_as rfl (l_end (c_reg (l_as rfl (l_end (c_seq (c_reg (l_as rfl (l_end (c_block ?_)))))))))))
     refine c_loop4 (fun (i : Nat) (p : Bool) (ov : Value) (os : List RepD) => [(0, .pointer (some ⟨wb, 4, none⟩)), (3, .pointer (some ⟨b3, 0, none⟩)), (7, ov), (8, .bool p), (9, Vj i)]) (fun (i : Nat) (p : Bool) (ov : Value) (os : List RepD) => i ≤ l.length ∧ InsI r l i p os) (fun (i : Nat) (p : Bool) (ov : Value) (os : List RepD) => [Res.row b3 43 (RepD.cells r), Res.row wb e (z0 :: z1 :: z2 :: z3 :: lv :: xs), Res.vec 43 6 lv l.length (l.flatMap RepD.cells), Res.row b5 43 (RepD.cells x1_), Res.vec 43 6 ov os.length (os.flatMap RepD.cells)]) (fun (i : Nat) (p : Bool) (ov : Value) (os : List RepD) => l.length - i) (fun w' hw => ⟨0, false, .slice none 0 0, [], ⟨rfl, rfl, rfl, rfl, rfl, trivial⟩, ⟨Nat.zero_le _, InsI.start _ _⟩, (own_nil hw 43 6)⟩) (fun i p ov os g hΦ => ?_)
     have hi := hΦ.1
     have hI := hΦ.2
     have hol := hI.len
     refine c_seq (c_reg (l_mv rfl (l_mv rfl (l_nck rfl rfl (a_fld (o := 0) rfl rfl (a_ldo 1 (v := lv) rfl rfl rfl rfl (a_lenP (pV 2 rfl) rfl rfl (l_lss rfl rfl rfl (l_end (c_dec rfl (fun c4 => ?_) (fun c4 => ?_)))))))))))
     ·
      refine c_skipC (c_seq (c_block (c_seq (c_quiets (by kernel_rfl) (by kernel_rfl) (q_val rfl (v_mv) (q_val rfl (v_not (b := p) rfl) (q_val rfl (v_mv) (q_band (q := (!p) = true) 11 2 [49, 48, 47, 46, 45, 44, 43, 42, 41, 40, 39] (((r.session : Nat) : Int) ≤ (((nth l i).session : Nat) : Int)) rfl rfl (bool_dec _) rfl rfl rfl trivial rfl (fun h13_2 => ?_) (fun g13_14 => ?_)))))))))
      ·
       refine q_on rfl (bT h13_2) (q_val rfl (v_mv) (q_on rfl (bT h13_2) (q_val rfl (v_nck rfl) (q_on rfl (bT h13_2) (q_val rfl (w_fld (o := 0) rfl) (q_on rfl (bT h13_2) (q_val rfl (w_ldo 1 (v := lv) rfl rfl rfl) (q_on rfl (bT h13_2) (q_val rfl (v_mv) (q_on rfl (bT h13_2) (q_val rfl (w_idxP (pV 2 rfl) 6 i rfl rfl rfl (by omega)) (q_on rfl (bT h13_2) ?_))))))))))))
       refine q_val rfl (w_fld (o := 0) rfl) (q_on rfl (bT h13_2) (q_val rfl (w_ldP (pV 2 rfl) 6 i 0 (off := offV lv + i * 6 + 0) (fun _ => rfl) rfl (by omega) (by omega) rfl) (q_on rfl (bT h13_2) (q_val rfl (w_fld (o := 0) rfl) (q_on rfl (bT h13_2) (q_val rfl (w_ldo 0 (v := Vn r.session) rfl rfl rfl) (q_on rfl (bT h13_2) (q_val rfl (v_geq rfl rfl) ?_))))))))
       exact q_gp rfl
      refine q_end (c_dec rfl (fun c5 => ?_) (fun c5 => ?_))
      ·
       refine c_reg (l_mv rfl (a_ldr (cs := (RepD.cells r)) 0 rfl rfl rfl (l_bsl (e := 43) (sz := 6) (vs := [.agg (RepD.cells r).toArray]) (by kernel_rfl) rfl rfl (by simp [Value.cells, RepD.cells]) (by decide) rfl (fun b53 => l_appF (g := RepD.cells) (sz := 6) (by' := 48) (fun _ => rfl) (l := os) (l' := [r]) (by simp [cell1, RepD.cells, vu]) 4 (by kernel_rfl) rfl rfl rfl (fun w' hw' => Vec.sl (Own.holds hw' 5 _ rfl)) (by first | omega | (simp; omega)) (by decide) rfl (fun v54 => l_as rfl (l_end (c_last (l_as rfl (l_end (c_quiets (by kernel_rfl) (by kernel_rfl) (q_val rfl (v_mv) (q_val rfl (v_nck rfl) ?_))))))))))))
       refine q_val rfl (w_fld (o := 0) rfl) (q_val rfl (w_ldo 1 (v := lv) rfl rfl rfl) (q_val rfl (v_mv) (q_val rfl (w_idxP (pV 2 rfl) 6 i rfl rfl rfl (by omega)) (q_val rfl (w_fld (o := 0) rfl) (q_val rfl (w_ldP (pV 2 rfl) 6 i 0 (off := offV lv + i * 6 + 0) (fun _ => rfl) rfl (by omega) (by omega) rfl) (q_val rfl (w_fld (o := 0) rfl) (q_val rfl (w_ldo 0 (v := Vn r.session) rfl rfl rfl) (q_val rfl (v_ne rfl rfl) (q_end (c_dec rfl (fun c6 => ?_) (fun c6 => ?_)))))))))))
       ·
        refine c_last (l_mv rfl (l_mv rfl (l_nck rfl rfl (a_fld (o := 0) rfl rfl (a_ldo 1 (v := lv) rfl rfl rfl rfl (l_mv rfl (a_idxP (pV 2 rfl) 6 i rfl rfl rfl (by omega) rfl (a_ldAP (pV 2 rfl) 6 i (off := offV lv + i * 6) (fun _ => rfl) rfl rfl (by omega) rfl (l_bsl (e := 43) (sz := 6) (vs := [.agg (RepD.cells (nth l i)).toArray]) (by kernel_rfl) rfl rfl (by simp [Value.cells, RepD.cells]) (by decide) rfl (fun b74 => l_appF (g := RepD.cells) (sz := 6) (by' := 48) (fun _ => rfl) (l := os ++ [r]) (l' := [(nth l i)]) (by simp [cell1, RepD.cells, vu]) 4 (by kernel_rfl) rfl rfl rfl (fun w' hw' => Vec.sl (Own.holds hw' 6 _ rfl)) (by first | omega | (simp; omega)) (by decide) rfl (fun v75 => l_as rfl (l_end ?_))))))))))))
        refine c_last (l_mv rfl (l_add rfl rfl (wi64 (by omega)) rfl (l_as rfl ?_)))
        exact l_nil (fun w' hw => ⟨i + 1, true, v75, os ++ [r] ++ [nth l i], ⟨rfl, rfl, rfl, rfl, rfl, trivial⟩, ⟨by omega, by have h := hI.put (by omega) (notF c5.1) (by omega); rwa [if_pos (by omega)] at h⟩, hw.sel [0, 1, 2, 3, 4] rfl (by decide), (by omega)⟩)
       ·
        refine c_skipC (c_last (l_mv rfl (l_add rfl rfl (wi64 (by omega)) rfl (l_as rfl ?_))))
        exact l_nil (fun w' hw => ⟨i + 1, true, v54, os ++ [r], ⟨rfl, rfl, rfl, rfl, rfl, trivial⟩, ⟨by omega, by have h := hI.put (by omega) (notF c5.1) (by omega); rwa [if_neg (by omega), List.append_nil] at h⟩, hw.sel [0, 1, 2, 3, 4] rfl (by decide), (by omega)⟩)
      ·
       refine c_skipC (c_quiets (by kernel_rfl) (by kernel_rfl) (q_val rfl (v_mv) (q_val rfl (v_nck rfl) (q_val rfl (w_fld (o := 0) rfl) (q_val rfl (w_ldo 1 (v := lv) rfl rfl rfl) (q_val rfl (v_mv) (q_val rfl (w_idxP (pV 2 rfl) 6 i rfl rfl rfl (by omega)) (q_val rfl (w_fld (o := 0) rfl) (q_val rfl (w_ldP (pV 2 rfl) 6 i 0 (off := offV lv + i * 6 + 0) (fun _ => rfl) rfl (by omega) (by omega) rfl) (q_val rfl (w_fld (o := 0) rfl) (q_val rfl (w_ldo 0 (v := Vn r.session) rfl rfl rfl) (q_val rfl (v_ne rfl rfl) ?_))))))))))))
       refine q_end (c_dec rfl (fun c7 => ?_) (fun c7 => ?_))
       ·
        refine c_last (l_mv rfl (l_mv rfl (l_nck rfl rfl (a_fld (o := 0) rfl rfl (a_ldo 1 (v := lv) rfl rfl rfl rfl (l_mv rfl (a_idxP (pV 2 rfl) 6 i rfl rfl rfl (by omega) rfl (a_ldAP (pV 2 rfl) 6 i (off := offV lv + i * 6) (fun _ => rfl) rfl rfl (by omega) rfl (l_bsl (e := 43) (sz := 6) (vs := [.agg (RepD.cells (nth l i)).toArray]) (by kernel_rfl) rfl rfl (by simp [Value.cells, RepD.cells]) (by decide) rfl (fun b74 => l_appF (g := RepD.cells) (sz := 6) (by' := 48) (fun _ => rfl) (l := os) (l' := [(nth l i)]) (by simp [cell1, RepD.cells, vu]) 4 (by kernel_rfl) rfl rfl rfl (fun w' hw' => Vec.sl (Own.holds hw' 5 _ rfl)) (by first | omega | (simp; omega)) (by decide) rfl (fun v75 => l_as rfl (l_end ?_))))))))))))
        refine c_last (l_mv rfl (l_add rfl rfl (wi64 (by omega)) rfl (l_as rfl ?_)))
        exact l_nil (fun w' hw => ⟨i + 1, p, v75, os ++ [nth l i], ⟨rfl, rfl, rfl, rfl, rfl, trivial⟩, ⟨by omega, (hI.more ho.up (by omega) (fun q => c5 ⟨notF' q.1, by omega⟩)).1⟩, hw.sel [0, 1, 2, 3, 4] rfl (by decide), (by omega)⟩)
       ·
        refine c_skipC (c_last (l_mv rfl (l_add rfl rfl (wi64 (by omega)) rfl (l_as rfl ?_))))
        exact l_nil (fun w' hw => ⟨i + 1, p, ov, os, ⟨rfl, rfl, rfl, rfl, rfl, trivial⟩, ⟨by omega, absurd (hI.more ho.up (by omega) (fun q => c5 ⟨notF' q.1, by omega⟩)).2 (by omega)⟩, hw, (by omega)⟩)
     ·
      refine c_exitC rfl (c_seq (c_reg (l_mv rfl (l_not (b := p) rfl rfl (l_end (c_if rfl (fun c8 => ?_) (fun c8 => ?_)))))))
      ·
       refine c_last (l_mv rfl (a_ldr (cs := (RepD.cells r)) 0 rfl rfl rfl (l_bsl (e := 43) (sz := 6) (vs := [.agg (RepD.cells r).toArray]) (by kernel_rfl) rfl rfl (by simp [Value.cells, RepD.cells]) (by decide) rfl (fun b80 => l_appF (g := RepD.cells) (sz := 6) (by' := 48) (fun _ => rfl) (l := os) (l' := [r]) (by simp [cell1, RepD.cells, vu]) 4 (by kernel_rfl) rfl rfl rfl (fun w' hw' => Vec.sl (Own.holds hw' 5 _ rfl)) (by first | omega | (simp; omega)) (by decide) rfl (fun v81 => l_as rfl (l_end (c_reg (l_mv rfl (l_mv rfl (l_nck rfl rfl (a_fld (o := 0) rfl rfl ?_)))))))))))
       refine l_haveO (fun w' hw => Own.cell1Vec (i := 4) rfl hw) (fun hc1_ => ?_)
       refine a_st (cs := (z0 :: z1 :: z2 :: z3 :: lv :: xs)) 1 rfl rfl rfl hc1_ rfl (l_end (c_reg (l_as rfl (l_end ?_))))
       exact c_ret (ret1 (v := Vi 0) rfl rfl (fun w' hw => ⟨0, v81, os ++ [r], rfl, (rdone0 c1 hfe c3).1, (by rw [← (rdone0 c1 hfe c3).2, ← hI.done (by omega), if_pos (notF c8)]), hw.sel [1, 4] rfl (by decide)⟩))
      ·
       refine c_skipC (c_reg (l_mv rfl (l_mv rfl (l_nck rfl rfl (a_fld (o := 0) rfl rfl ?_)))))
       refine l_haveO (fun w' hw => Own.cell1Vec (i := 4) rfl hw) (fun hc2_ => ?_)
       refine a_st (cs := (z0 :: z1 :: z2 :: z3 :: lv :: xs)) 1 rfl rfl rfl hc2_ rfl (l_end (c_reg (l_as rfl (l_end ?_))))
       exact c_ret (ret1 (v := Vi 0) rfl rfl (fun w' hw => ⟨0, ov, os, rfl, (rdone0 c1 hfe c3).1, (by rw [← (rdone0 c1 hfe c3).2, ← hI.done (by omega), if_neg (by cases p <;> simp_all), List.append_nil]), hw.sel [1, 4] rfl (by decide)⟩))
theorem RepDEq (r s : RepD) : eqL [(0, some (some .u64)), (1, some (some .u64)), (2, some (some .i64)), (3, some (some .u64)), (4, some (some .i64)), (5, some (some .i64))] r.cells s.cells = decide (r = s) := by
  obtain ⟨a, b, c, d, e, f⟩ := r
  obtain ⟨a', b', c', d', e', f'⟩ := s
  simp [eqL, RepD.cells, eqC, RepD.mk.injEq, Bool.decide_and]
  have h : ∀ m n : Nat, decide ((m : Int) = n) = decide (m = n) := fun m n => decide_eq_decide.2 (by omega)
  simp only [h]
-- no function scupper/scupperref13.SameReplies
theorem doneL_sub (l : List RepD) (r : RepD) : ∀ x ∈ doneL l r, x ∈ l ∨ x = r := by
  unfold doneL
  split
  · intro x hx
    unfold insR at hx
    rcases List.mem_append.1 hx with q | q
    · exact .inl (List.mem_filter.1 q).1
    · rcases List.mem_cons.1 q with q | q
      · exact .inr q
      · exact .inl (List.mem_filter.1 q).1
  · exact fun _ => .inl
structure DActD where
  kind : Int
  r : RepD
def DActD.cells (x : DActD) : List Value := .int .i64 x.kind :: x.r.cells
instance : Inhabited DActD := ⟨⟨0, RepD.zero⟩⟩
-- no function scupper/scupperlaw14.act
-- no function scupper/scupperlaw14.grown
-- no function scupper/scupperlaw14.answers
end Go.Proofs.YthincafbmpialaaGreat
