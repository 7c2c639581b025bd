import Derived.Test.YtcdiehplbmkmeaaLDup
set_option linter.unusedSectionVars false
set_option linter.unusedSimpArgs false
set_option linter.unusedVariables false
set_option maxRecDepth 10000
namespace Go.Proofs.Ytcdiehplbmkmeaa
open Go Go.Sc Go.Proofs
def KR (l : List RepD) : List (Nat × RepD) := l.map fun r => (r.session, r)
theorem zIq (l : List RepD) : (KR l).length = l.length := by simp [KR]
structure COk (l : List RepD) : Prop where
  up : (l.map (·.session)).Pairwise (· < ·)
  each : ∀ r ∈ l, r.ok ∧ 1 ≤ r.session ∧ 1 ≤ r.seq
  len : l.length ≤ 32
def CRel (kl : List (Nat × RepD)) (l : List RepD) : Prop := kl.Perm (KR l)
section
variable {kl : List (Nat × RepD)} {l : List RepD} {r : RepD} {s q : Nat}
theorem zKf (h : (l.map (·.session)).Pairwise (· < ·)) : KNd (KR l) := by
  unfold KNd KR; rw [List.map_map]
  exact h.imp fun q => by omega
theorem COk.nd (h : COk l) (hr : CRel kl l) : KNd kl := (zKf h.up).perm hr.symm
theorem zDB (h : COk l) (hr : CRel kl l) (s q : Nat) : zy kl s q = zy (KR l) s q := by
  unfold zy; rw [jT (h.nd hr) hr, hr.length_eq]
theorem zC9 (hg : zY s (KR l) = some r) : r ∈ l ∧ r.session = s := by
  have := jE hg
  obtain ⟨x, hx, e⟩ := List.mem_map.1 this
  simp only [Prod.mk.injEq] at e
  exact ⟨e.2 ▸ hx, e.2 ▸ e.1⟩
def zDY (r : RepD) (l : List RepD) : List RepD := l.filter (fun x => decide (x.session < r.session)) ++ r :: l.filter (fun x => decide (r.session < x.session))
def zAg (l : List RepD) (r : RepD) : List RepD := if r.ok ∧ (zy (KR l) r.session r.seq).2 = 8 then zDY r l else l
theorem zFj (s : Nat) : ∀ l : List RepD, (l.filter fun x => decide (x.session ≠ s)).Perm (l.filter (fun x => decide (x.session < s)) ++ l.filter (fun x => decide (s < x.session)))
  | [] => .refl _
  | a :: l => by
    have ih := zFj s l
    rcases Nat.lt_trichotomy a.session s with h | h | h
    · rw [List.filter_cons_of_pos (by simp; omega), List.filter_cons_of_pos (by simp; omega), List.filter_cons_of_neg (by simp; omega)]
      exact ih.cons _
    · rw [List.filter_cons_of_neg (by simp; omega), List.filter_cons_of_neg (by simp; omega), List.filter_cons_of_neg (by simp; omega)]
      exact ih
    · rw [List.filter_cons_of_pos (by simp; omega), List.filter_cons_of_neg (by simp; omega), List.filter_cons_of_pos (by simp; omega)]
      exact (ih.cons _).trans List.perm_middle.symm
theorem zAO (r : RepD) (l : List RepD) : (zDY r l).Perm (r :: l.filter fun x => decide (x.session ≠ r.session)) := by
  unfold zDY
  exact List.perm_middle.trans ((zFj r.session l).symm.cons _)
theorem zEw (s : Nat) (l : List RepD) : KR (l.filter fun x => decide (x.session ≠ s)) = (KR l).filter fun p => decide (p.1 ≠ s) := by
  unfold KR; rw [List.filter_map]; rfl
theorem zGH (h : COk l) (hr : CRel kl l) (r : RepD) : CRel (kj kl r) (zAg l r) := by
  unfold kj zAg
  rw [zDB h hr]
  split
  · refine (x3 (h.nd hr)).trans ?_
    refine List.Perm.trans ?_ ((zAO r l).map fun r => (r.session, r)).symm
    rw [List.map_cons]
    refine List.Perm.cons _ ?_
    have e := zEw r.session l
    unfold KR at e
    rw [e]
    exact List.Perm.filter _ hr
  · exact hr
theorem zD2 {kl : List (Nat × RepD)} (h : (zy kl s q).2 = 8) : s ≠ 0 ∧ q ≠ 0 := by
  unfold zy at h
  split at h
  · cases h
  · omega
theorem zGI (h : COk l) (r : RepD) : COk (zAg l r) := by
  unfold zAg
  split
  · rename_i c
    obtain ⟨c1, c2⟩ := c
    have hn := zD2 c2
    have hp := zAO r l
    refine ⟨?_, fun x hx => ?_, ?_⟩
    · unfold zDY
      rw [List.map_append, List.map_cons, List.pairwise_append, List.pairwise_cons]
      refine ⟨h.up.sublist (List.filter_sublist.map _), ⟨fun a ha => ?_, h.up.sublist (List.filter_sublist.map _)⟩, fun a ha b hb => ?_⟩
      · obtain ⟨x, hx, rfl⟩ := List.mem_map.1 ha
        simpa using (List.mem_filter.1 hx).2
      · obtain ⟨x, hx, rfl⟩ := List.mem_map.1 ha
        have h1 : x.session < r.session := by simpa using (List.mem_filter.1 hx).2
        rcases List.mem_cons.1 hb with rfl | hb
        · exact h1
        · obtain ⟨y, hy, rfl⟩ := List.mem_map.1 hb
          have h2 : r.session < y.session := by simpa using (List.mem_filter.1 hy).2
          omega
    · rcases List.mem_cons.1 (hp.mem_iff.1 hx) with rfl | hx
      · exact ⟨c1, by omega, by omega⟩
      · exact h.each x (List.mem_filter.1 hx).1
    · rw [hp.length_eq, List.length_cons]
      have h1 := h.len
      have h2 := List.length_filter_le (fun x : RepD => decide (x.session ≠ r.session)) l
      cases hg : zY r.session (KR l) with
      | none =>
        unfold zy at c2
        rw [if_neg (by omega), hg] at c2
        have c3 : (if 32 ≤ (KR l).length then (RepD.zero, (7 : Int)) else (RepD.zero, 8)).2 = 8 := c2
        split at c3
        · cases c3
        · rw [zIq] at *; omega
      | some x =>
        obtain ⟨hx, hs⟩ := zC9 hg
        have : (l.filter fun x => decide (x.session ≠ r.session)).length < l.length := by
          refine Nat.lt_of_le_of_ne h2 fun q => ?_
          have := List.length_filter_eq_length_iff.1 q x hx
          simp at this; exact this hs
        omega
  · exact h
theorem COk.start : COk [] := ⟨by simp, by simp, by simp⟩
theorem CRel.start : CRel [] [] := .refl _
def InsI (r : RepD) (l : List RepD) (i : Nat) (p : Bool) (os : List RepD) : Prop :=
  (p = false ∧ os = l.take i ∧ ∀ x ∈ l.take i, x.session < r.session) ∨
  (p = true ∧ os = (l.take i).filter (fun x => decide (x.session < r.session)) ++ r :: (l.take i).filter (fun x => decide (r.session < x.session)) ∧ ∃ x ∈ l.take i, r.session ≤ x.session)
theorem InsI.start (r : RepD) (l : List RepD) : InsI r l 0 false [] := .inl ⟨rfl, rfl, by simp⟩
theorem zFl {l : List RepD} {s : Nat} (h : ∀ x ∈ l, x.session < s) : l.filter (fun x => decide (x.session < s)) = l ∧ l.filter (fun x => decide (s < x.session)) = [] :=
  ⟨List.filter_eq_self.2 fun x hx => by simpa using h x hx, List.filter_eq_nil_iff.2 fun x hx => by have := h x hx; simp; omega⟩
theorem InsI.put {i : Nat} {p : Bool} {os : List RepD} (h : InsI r l i p os) (hi : i < l.length) (hp : p = false) (hge : r.session ≤ (zG l i).session) : InsI r l (i + 1) true (os ++ [r] ++ if (zG l i).session ≠ r.session then [zG l i] else []) := by
  rcases h with ⟨_, h2, h3⟩ | ⟨h1, _⟩
  · obtain ⟨f1, f2⟩ := zFl h3
    refine .inr ⟨rfl, ?_, zG l i, by rw [xA hi]; simp, hge⟩
    rw [xA hi, List.filter_append, List.filter_append, f1, f2, List.filter_cons_of_neg (by simp; omega), List.filter_nil, List.append_nil, List.nil_append, h2, List.append_assoc]
    congr 1
    by_cases c : (zG l i).session ≠ r.session
    · rw [if_pos c, List.filter_cons_of_pos (by simp; omega)]; rfl
    · rw [if_neg c, List.filter_cons_of_neg (by simp; omega)]; rfl
  · rw [hp] at h1; cases h1
theorem InsI.done {i : Nat} {p : Bool} {os : List RepD} (h : InsI r l i p os) (hi : l.length ≤ i) : os ++ (if p = false then [r] else []) = zDY r l := by
  unfold InsI at h
  rw [List.take_of_length_le hi] at h
  rcases h with ⟨h1, h2, h3⟩ | ⟨h1, h2, _⟩
  · obtain ⟨f1, f2⟩ := zFl h3
    unfold zDY; rw [f1, f2, if_pos h1, h2]
  · rw [h1, if_neg (by decide), List.append_nil, h2]; rfl
theorem InsI.len {i : Nat} {p : Bool} {os : List RepD} (h : InsI r l i p os) : os.length ≤ l.length + 1 := by
  rcases h with ⟨h1, h2, h3⟩ | ⟨h1, h2, _⟩
  · rw [h2, List.length_take]; omega
  · have hp := zAO r (l.take i)
    have : os = zDY r (l.take i) := h2
    rw [this, hp.length_eq, List.length_cons]
    have := List.length_filter_le (fun x : RepD => decide (x.session ≠ r.session)) (l.take i)
    rw [List.length_take] at this; omega
end
theorem zGr (r s : RepD) : eqL [(0, some (some .u64)), (1, some (some .u64)), (2, some (some .i64)), (3, some (some .u64)), (4, some (some .i64)), (5, some (some .i64))] r.cells s.cells = decide (r = s) := by
  obtain ⟨a, b, c, d, e, f⟩ := r
  obtain ⟨a', b', c', d', e', f'⟩ := s
  simp [eqL, RepD.cells, eqC, RepD.mk.injEq, Bool.decide_and]
  have h : ∀ m n : Nat, decide ((m : Int) = n) = decide (m = n) := fun m n => decide_eq_decide.2 (by omega)
  simp only [h]
theorem zFP (l : List RepD) (r : RepD) : ∀ x ∈ zAg l r, x ∈ l ∨ x = r := by
  unfold zAg
  split
  · intro x hx
    unfold zDY at hx
    rcases List.mem_append.1 hx with q | q
    · exact .inl (List.mem_filter.1 q).1
    · rcases List.mem_cons.1 q with q | q
      · exact .inr q
      · exact .inl (List.mem_filter.1 q).1
  · exact fun _ => .inl
structure DActD where
  kind : Int
  r : RepD
def DActD.cells (x : DActD) : List Value := .int .i64 x.kind :: x.r.cells
instance : Inhabited DActD := ⟨⟨0, RepD.zero⟩⟩
end Go.Proofs.Ytcdiehplbmkmeaa
