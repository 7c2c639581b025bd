import Derived.Test.YthincafbmpialaaGreatLDup
set_option linter.unusedSectionVars false
set_option linter.unusedSimpArgs false
set_option linter.unusedVariables false
set_option maxRecDepth 10000
namespace Go.Proofs.YthincafbmpialaaGreat
open Go Go.Sc Go.Proofs
def KR (l : List RepD) : List (Nat × RepD) := l.map fun r => (r.session, r)
theorem zDr (l : List RepD) : (KR l).length = l.length := by simp [KR]
structure COk (l : List RepD) : Prop where
  up : (l.map (·.session)).Pairwise (· < ·)
  each : ∀ r ∈ l, r.ok ∧ 1 ≤ r.session ∧ 1 ≤ r.seq
  len : l.length ≤ 32
def CRel (kl : List (Nat × RepD)) (l : List RepD) : Prop := kl.Perm (KR l)
section
variable {kl : List (Nat × RepD)} {l : List RepD} {r : RepD} {s q : Nat}
theorem zKr (h : (l.map (·.session)).Pairwise (· < ·)) : KNd (KR l) := by
  unfold KNd KR; rw [List.map_map]
  exact h.imp fun q => by omega
theorem COk.nd (h : COk l) (hr : CRel kl l) : KNd kl := (zKr h.up).perm hr.symm
theorem zEj (h : COk l) (hr : CRel kl l) (s q : Nat) : yV kl s q = yV (KR l) s q := by
  unfold yV; rw [kU (h.nd hr) hr, hr.length_eq]
theorem zGN (h : (l.map (·.session)).Pairwise (· < ·)) (hm : r ∈ l) : zu r.session (KR l) = some r := js (zKr h) (List.mem_map.2 ⟨r, hm, rfl⟩)
theorem zET (hg : zu s (KR l) = some r) : r ∈ l ∧ r.session = s := by
  have := zAF hg
  obtain ⟨x, hx, e⟩ := List.mem_map.1 this
  simp only [Prod.mk.injEq] at e
  exact ⟨e.2 ▸ hx, e.2 ▸ e.1⟩
def zDz (r : RepD) (l : List RepD) : List RepD := l.filter (fun x => decide (x.session < r.session)) ++ r :: l.filter (fun x => decide (r.session < x.session))
def jA (l : List RepD) (r : RepD) : List RepD := if r.ok ∧ (yV (KR l) r.session r.seq).2 = 8 then zDz r l else l
theorem zIb (s : Nat) : ∀ l : List RepD, (l.filter fun x => decide (x.session ≠ s)).Perm (l.filter (fun x => decide (x.session < s)) ++ l.filter (fun x => decide (s < x.session)))
  | [] => .refl _
  | a :: l => by
    have ih := zIb s l
    rcases Nat.lt_trichotomy a.session s with h | h | h
    · rw [List.filter_cons_of_pos (by simp; omega), List.filter_cons_of_pos (by simp; omega), List.filter_cons_of_neg (by simp; omega)]
      exact ih.cons _
    · rw [List.filter_cons_of_neg (by simp; omega), List.filter_cons_of_neg (by simp; omega), List.filter_cons_of_neg (by simp; omega)]
      exact ih
    · rw [List.filter_cons_of_pos (by simp; omega), List.filter_cons_of_neg (by simp; omega), List.filter_cons_of_pos (by simp; omega)]
      exact (ih.cons _).trans List.perm_middle.symm
theorem zBg (r : RepD) (l : List RepD) : (zDz r l).Perm (r :: l.filter fun x => decide (x.session ≠ r.session)) := by
  unfold zDz
  exact List.perm_middle.trans ((zIb r.session l).symm.cons _)
theorem zHK (s : Nat) (l : List RepD) : KR (l.filter fun x => decide (x.session ≠ s)) = (KR l).filter fun p => decide (p.1 ≠ s) := by
  unfold KR; rw [List.filter_map]; rfl
theorem zIc (h : COk l) (hr : CRel kl l) (r : RepD) : CRel (jx kl r) (jA l r) := by
  unfold jx jA
  rw [zEj h hr]
  split
  · refine (kq (h.nd hr)).trans ?_
    refine List.Perm.trans ?_ ((zBg r l).map fun r => (r.session, r)).symm
    rw [List.map_cons]
    refine List.Perm.cons _ ?_
    have e := zHK r.session l
    unfold KR at e
    rw [e]
    exact List.Perm.filter _ hr
  · exact hr
theorem zFt {kl : List (Nat × RepD)} (h : (yV kl s q).2 = 8) : s ≠ 0 ∧ q ≠ 0 := by
  unfold yV at h
  split at h
  · cases h
  · omega
theorem zHx (h : COk l) (r : RepD) : COk (jA l r) := by
  unfold jA
  split
  · rename_i c
    obtain ⟨c1, c2⟩ := c
    have hn := zFt c2
    have hp := zBg r l
    refine ⟨?_, fun x hx => ?_, ?_⟩
    · unfold zDz
      rw [List.map_append, List.map_cons, List.pairwise_append, List.pairwise_cons]
      refine ⟨h.up.sublist (List.filter_sublist.map _), ⟨fun a ha => ?_, h.up.sublist (List.filter_sublist.map _)⟩, fun a ha b hb => ?_⟩
      · obtain ⟨x, hx, rfl⟩ := List.mem_map.1 ha
        simpa using (List.mem_filter.1 hx).2
      · obtain ⟨x, hx, rfl⟩ := List.mem_map.1 ha
        have h1 : x.session < r.session := by simpa using (List.mem_filter.1 hx).2
        rcases List.mem_cons.1 hb with rfl | hb
        · exact h1
        · obtain ⟨y, hy, rfl⟩ := List.mem_map.1 hb
          have h2 : r.session < y.session := by simpa using (List.mem_filter.1 hy).2
          omega
    · rcases List.mem_cons.1 (hp.mem_iff.1 hx) with rfl | hx
      · exact ⟨c1, by omega, by omega⟩
      · exact h.each x (List.mem_filter.1 hx).1
    · rw [hp.length_eq, List.length_cons]
      have h1 := h.len
      have h2 := List.length_filter_le (fun x : RepD => decide (x.session ≠ r.session)) l
      cases hg : zu r.session (KR l) with
      | none =>
        unfold yV at c2
        rw [if_neg (by omega), hg] at c2
        have c3 : (if 32 ≤ (KR l).length then (RepD.zero, (7 : Int)) else (RepD.zero, 8)).2 = 8 := c2
        split at c3
        · cases c3
        · rw [zDr] at *; omega
      | some x =>
        obtain ⟨hx, hs⟩ := zET hg
        have : (l.filter fun x => decide (x.session ≠ r.session)).length < l.length := by
          refine Nat.lt_of_le_of_ne h2 fun q => ?_
          have := List.length_filter_eq_length_iff.1 q x hx
          simp at this; exact this hs
        omega
  · exact h
theorem COk.start : COk [] := ⟨by simp, by simp, by simp⟩
theorem CRel.start : CRel [] [] := .refl _
theorem zJT : ∀ {l m : List Nat}, l.Perm m → l.Pairwise (fun x y => x ≤ y) → m.Pairwise (· < ·) → l = m := fun hp h1 h2 =>
  hp.eq_of_pairwise (fun a b _ _ h3 h4 => Nat.le_antisymm h3 h4) h1 (h2.imp fun q => by omega)
theorem zMP (h : COk l) (hr : CRel kl l) {ks : List Nat} (h1 : ks.Perm (kl.map (·.1))) (h2 : ks.Pairwise fun x y => x ≤ y) : ks.map (fun k => (zu k kl).getD RepD.zero) = l := by
  have e : ks = l.map (·.session) := by
    refine zJT (h1.trans ?_) h2 h.up
    have := hr.map (·.1)
    refine this.trans ?_
    unfold KR; rw [List.map_map]; exact .refl _
  rw [e, List.map_map]
  conv => rhs; rw [← List.map_id l]
  refine List.map_congr_left fun x hx => ?_
  show (zu x.session kl).getD RepD.zero = x
  rw [kU (h.nd hr) hr, zGN h.up hx]; rfl
def InsI (r : RepD) (l : List RepD) (i : Nat) (p : Bool) (os : List RepD) : Prop :=
  (p = false ∧ os = l.take i ∧ ∀ x ∈ l.take i, x.session < r.session) ∨
  (p = true ∧ os = (l.take i).filter (fun x => decide (x.session < r.session)) ++ r :: (l.take i).filter (fun x => decide (r.session < x.session)) ∧ ∃ x ∈ l.take i, r.session ≤ x.session)
theorem InsI.start (r : RepD) (l : List RepD) : InsI r l 0 false [] := .inl ⟨rfl, rfl, by simp⟩
theorem zIr {l : List RepD} {s : Nat} (h : ∀ x ∈ l, x.session < s) : l.filter (fun x => decide (x.session < s)) = l ∧ l.filter (fun x => decide (s < x.session)) = [] :=
  ⟨List.filter_eq_self.2 fun x hx => by simpa using h x hx, List.filter_eq_nil_iff.2 fun x hx => by have := h x hx; simp; omega⟩
theorem zMd (h : (l.map (·.session)).Pairwise (· < ·)) {i : Nat} (hi : i < l.length) {x : RepD} (hx : x ∈ l.take i) : x.session < (zI l i).session := by
  obtain ⟨j, hj, e⟩ := List.mem_iff_getElem.1 hx
  have hj' : j < i := by rw [List.length_take] at hj; omega
  have := List.pairwise_iff_getElem.1 h j i (by rw [List.length_map]; omega) (by rw [List.length_map]; exact hi) hj'
  rw [List.getElem_map, List.getElem_map] at this
  rw [List.getElem_take] at e
  have e2 := x0 (List.getElem?_eq_getElem hi)
  rw [e2, ← e]; exact this
theorem InsI.put {i : Nat} {p : Bool} {os : List RepD} (h : InsI r l i p os) (hi : i < l.length) (hp : p = false) (hge : r.session ≤ (zI l i).session) : InsI r l (i + 1) true (os ++ [r] ++ if (zI l i).session ≠ r.session then [zI l i] else []) := by
  rcases h with ⟨_, h2, h3⟩ | ⟨h1, _⟩
  · obtain ⟨f1, f2⟩ := zIr h3
    refine .inr ⟨rfl, ?_, zI l i, by rw [yB hi]; simp, hge⟩
    rw [yB hi, List.filter_append, List.filter_append, f1, f2, List.filter_cons_of_neg (by simp; omega), List.filter_nil, List.append_nil, List.nil_append, h2, List.append_assoc]
    congr 1
    by_cases c : (zI l i).session ≠ r.session
    · rw [if_pos c, List.filter_cons_of_pos (by simp; omega)]; rfl
    · rw [if_neg c, List.filter_cons_of_neg (by simp; omega)]; rfl
  · rw [hp] at h1; cases h1
theorem InsI.more (hu : (l.map (·.session)).Pairwise (· < ·)) {i : Nat} {p : Bool} {os : List RepD} (h : InsI r l i p os) (hi : i < l.length) (hn : ¬ (p = false ∧ r.session ≤ (zI l i).session)) : InsI r l (i + 1) p (os ++ [zI l i]) ∧ (zI l i).session ≠ r.session := by
  rcases h with ⟨h1, h2, h3⟩ | ⟨h1, h2, y, hy, h3⟩
  · have hlt : (zI l i).session < r.session := Nat.not_le.1 fun q => hn ⟨h1, q⟩
    refine ⟨.inl ⟨h1, by rw [h2, yB hi], fun x hx => ?_⟩, by omega⟩
    rw [yB hi] at hx
    rcases List.mem_append.1 hx with q | q
    · exact h3 x q
    · rw [List.mem_singleton.1 q]; exact hlt
  · have hgt := zMd hu hi hy
    refine ⟨.inr ⟨h1, ?_, y, by rw [yB hi]; exact List.mem_append_left _ hy, h3⟩, by omega⟩
    rw [yB hi, List.filter_append, List.filter_append, List.filter_cons_of_neg (by simp; omega), List.filter_nil, List.append_nil, List.filter_cons_of_pos (by simp; omega), List.filter_nil, h2, List.append_assoc]
    rfl
theorem InsI.done {i : Nat} {p : Bool} {os : List RepD} (h : InsI r l i p os) (hi : l.length ≤ i) : os ++ (if p = false then [r] else []) = zDz r l := by
  unfold InsI at h
  rw [List.take_of_length_le hi] at h
  rcases h with ⟨h1, h2, h3⟩ | ⟨h1, h2, _⟩
  · obtain ⟨f1, f2⟩ := zIr h3
    unfold zDz; rw [f1, f2, if_pos h1, h2]
  · rw [h1, if_neg (by decide), List.append_nil, h2]; rfl
theorem InsI.len {i : Nat} {p : Bool} {os : List RepD} (h : InsI r l i p os) : os.length ≤ l.length + 1 := by
  rcases h with ⟨h1, h2, h3⟩ | ⟨h1, h2, _⟩
  · rw [h2, List.length_take]; omega
  · have hp := zBg r (l.take i)
    have : os = zDz r (l.take i) := h2
    rw [this, hp.length_eq, List.length_cons]
    have := List.length_filter_le (fun x : RepD => decide (x.session ≠ r.session)) (l.take i)
    rw [List.length_take] at this; omega
end
theorem zLi {p : Bool} (h : (!p) = true) : p = false := by cases p <;> simp_all
theorem zKs {p : Bool} (h : p = false) : (!p) = true := by rw [h]; rfl
theorem zLE {l : List RepD} {s i : Nat} (h : ∀ r ∈ l.take i, r.session ≠ s) (hi : l.length ≤ i) : zu s (KR l) = none := by
  rw [List.take_of_length_le hi] at h
  rw [kG]
  intro p hp
  obtain ⟨x, hx, rfl⟩ := List.mem_map.1 hp
  exact h x hx
theorem zJI {r : RepD} (hn : ¬ r.ok) (l : List RepD) : 2 = kg r (yV (KR l) r.session r.seq).2 ∧ l = jA l r := by
  unfold kg jA
  rw [if_pos hn, if_neg fun k => hn k.1]
  exact ⟨rfl, rfl⟩
theorem zD5 {r : RepD} {l : List RepD} {e : Int} (h : ¬ ¬ r.ok) (he : (yV (KR l) r.session r.seq).2 = e) (h8 : e ≠ 8) : (if e = 0 then 9 else e) = kg r (yV (KR l) r.session r.seq).2 ∧ l = jA l r := by
  unfold kg jA
  refine ⟨?_, ?_⟩
  · rw [if_neg h, he, if_neg h8]
  · rw [he, if_neg fun k => h8 k.2]
theorem zDg {r : RepD} {l : List RepD} {e : Int} (h : ¬ ¬ r.ok) (he : (yV (KR l) r.session r.seq).2 = e) (h8 : ¬ e ≠ 8) : 0 = kg r (yV (KR l) r.session r.seq).2 ∧ zDz r l = jA l r := by
  have h8 : e = 8 := Decidable.not_not.1 h8
  unfold kg jA
  refine ⟨?_, ?_⟩
  · rw [if_neg h, he, if_pos h8]
  · rw [he, if_pos ⟨Decidable.not_not.1 h, h8⟩]
theorem zHA (r : RepD) (w : World) : Rets Tryz.prog 70 #[.agg (RepD.cells r).toArray] w fun u_ w' => u_ = .bool (decide r.ok) ∧ Own w [] [] w' := by
  refine zW Tryz.func70 rfl Tryz.ntmps70 (Own.start w) ?_
  refine zB (yc rfl rfl (fun b1 => zD rfl (zA (zB (zP (o := 2) rfl rfl (zS 0 (v := Vi r.e) rfl rfl rfl rfl (xC rfl rfl rfl (zC rfl (yP (q := 0 ≤ r.e) 3 3 [9, 8, 7] (r.e ≤ 20) rfl rfl rfl rfl rfl rfl trivial rfl (fun h1_3 => ?_) (fun g1_7 => ?_))))))))))
  ·
   refine zO rfl (gT h1_3) (zP (o := 2) rfl rfl (zO rfl (gT h1_3) (zS 0 (v := Vi r.e) rfl rfl rfl rfl (zO rfl (gT h1_3) (ka rfl rfl rfl ?_)))))
   exact yL rfl (fun _ hw => hw)
  refine zD rfl (zA ?_)
  exact zM (z6 (v := .bool (decide ((0 ≤ r.e) ∧ (r.e ≤ 20)))) rfl rfl (fun w' hw => ⟨rfl, hw.drop⟩))
theorem zCn {S : List Nat} (wb e : Nat) (z0 z1 z2 z3 : Value) (xs : List Value) (lv : Value) (l : List RepD) (s q : Nat) (w : World) (ho : COk l) (hin : Own w S [Res.row wb e (z0 :: z1 :: z2 :: z3 :: lv :: xs), Res.vec 43 6 lv l.length (l.flatMap RepD.cells)] w) : Rets Tryz.prog 30 #[.pointer (some ⟨wb, 4, none⟩), Vn s, Vn q] w fun u_ w' => ∃ (x : RepD) (er : Int), u_ = .tuple #[.agg (RepD.cells x).toArray, Vi er] ∧ yV (KR l) s q = (x, er) ∧ Own w S [Res.row wb e (z0 :: z1 :: z2 :: z3 :: lv :: xs), Res.vec 43 6 lv l.length (l.flatMap RepD.cells)] w' := by
  have hll := ho.len
  refine zW Tryz.func30 rfl Tryz.ntmps30 hin ?_
  refine zB (yF (v := .agg #[Vn 0, Vn 0, Vi 0, Vn 0, Vi 0, Vi 0]) (by kernel_rfl) rfl (fun b6 => zD rfl (zA (zL (zB (zC rfl (yo rfl rfl rfl (zC rfl (yY (q := ((s : Nat) : Int) = ((0 : Nat) : Int)) 2 2 [13, 12] (((q : Nat) : Int) = ((0 : Nat) : Int)) rfl rfl rfl rfl rfl rfl trivial rfl (fun h1_2 => ?_) (fun g1_5 => ?_))))))))))
  ·
   refine zO rfl (gF h1_2) (zC rfl (zO rfl (gF h1_2) (yo rfl rfl rfl ?_)))
   exact yL rfl (fun _ hw => hw)
  refine zA (zU rfl (fun c1 => ?_) (fun c1 => ?_))
  ·
   refine zB (yQ (cs := [Vn 0, Vn 0, Vi 0, Vn 0, Vi 0, Vi 0]) (z := [Vn 0, Vn 0, Vi 0, Vn 0, Vi 0, Vi 0]) (pl := [(0, 1), (1, 1), (2, 1), (3, 1), (4, 1), (5, 1)]) (by kernel_rfl) (by kernel_rfl) rfl (zh 2 rfl rfl rfl (z8 rfl) rfl (zD rfl (zA ?_))))
   exact zM (yH (cs := [Vn 0, Vn 0, Vi 0, Vn 0, Vi 0, Vi 0]) (v := Vi 1) rfl rfl rfl (by kernel_rfl) (Own.rowCells (i := 2) rfl) (fun w' hw => ⟨RepD.zero, 1, rfl, zKt c1, hw.sel [0, 1] rfl (by decide)⟩))
  ·
   refine zK (zL (zB (zD rfl (zA (zT ?_)))))
   refine xG (fun (i : Nat) => [(0, .pointer (some ⟨wb, 4, none⟩)), (1, Vn s), (2, Vn q), (6, .pointer (some ⟨b6, 0, none⟩)), (8, Vj i)]) (fun (i : Nat) => i ≤ l.length ∧ ∀ r ∈ l.take i, r.session ≠ s) (fun (i : Nat) => [Res.row wb e (z0 :: z1 :: z2 :: z3 :: lv :: xs), Res.vec 43 6 lv l.length (l.flatMap RepD.cells), Res.row b6 43 [Vn 0, Vn 0, Vi 0, Vn 0, Vi 0, Vi 0]]) (fun (i : Nat) => l.length - i) (fun w' hw => ⟨0, ⟨rfl, rfl, rfl, rfl, rfl, trivial⟩, ⟨Nat.zero_le _, by simp⟩, hw⟩) (fun i g hΦ => ?_)
   have hi := hΦ.1
   have hI := hΦ.2
   refine zL (zB (zC rfl (zC rfl (zm rfl rfl (zP (o := 0) rfl rfl (zS 0 (v := lv) rfl rfl rfl rfl (yC (pV 1 rfl) rfl rfl (yI rfl rfl rfl (zA (zU rfl (fun c2 => ?_) (fun c2 => ?_)))))))))))
   ·
    refine zK (zL (zT (zL (zB (zC rfl (zm rfl rfl (zP (o := 0) rfl rfl (zS 0 (v := lv) rfl rfl rfl rfl (zC rfl (zH (pV 1 rfl) 6 i rfl rfl rfl (by omega) rfl (zP (o := 0) rfl rfl (zV (pV 1 rfl) 6 i 0 (off := yn lv + i * 6 + 0) (fun _ => rfl) rfl (by omega) (by omega) rfl rfl ?_))))))))))))
    refine zC rfl (xn rfl rfl rfl (zA (zU rfl (fun c3 => ?_) (fun c3 => ?_))))
    ·
     refine yG rfl (zd (zC rfl (zt rfl rfl (zr (by omega)) rfl (zD rfl ?_))))
     exact zj (fun w' hw => ⟨i + 1, ⟨rfl, rfl, rfl, rfl, rfl, trivial⟩, ⟨by omega, by rw [yB (by omega)]; intro r hr; rcases List.mem_append.1 hr with q1 | q1; exact hI r q1; rw [List.mem_singleton.1 q1]; omega⟩, hw, (by omega)⟩)
    ·
     have hg : zu s (KR l) = some (zI l i) := by rw [show s = (zI l i).session by omega]; exact zGN ho.up (yM (by omega))
     refine zK (zL (zB (zC rfl (zC rfl (zm rfl rfl (zP (o := 0) rfl rfl (zS 0 (v := lv) rfl rfl rfl rfl (zC rfl (zH (pV 1 rfl) 6 i rfl rfl rfl (by omega) rfl (zP (o := 1) rfl rfl (zV (pV 1 rfl) 6 i 1 (off := yn lv + i * 6 + 1) (fun _ => rfl) rfl (by omega) (by omega) rfl rfl (yg rfl rfl rfl ?_))))))))))))
     refine zA (zU rfl (fun c4 => ?_) (fun c4 => ?_))
     ·
      refine zB (yQ (cs := [Vn 0, Vn 0, Vi 0, Vn 0, Vi 0, Vi 0]) (z := [Vn 0, Vn 0, Vi 0, Vn 0, Vi 0, Vi 0]) (pl := [(0, 1), (1, 1), (2, 1), (3, 1), (4, 1), (5, 1)]) (by kernel_rfl) (by kernel_rfl) rfl (zh 2 rfl rfl rfl (z8 rfl) rfl (zD rfl (zA ?_))))
      exact zM (yH (cs := [Vn 0, Vn 0, Vi 0, Vn 0, Vi 0, Vi 0]) (v := Vi 8) rfl rfl rfl (by kernel_rfl) (Own.rowCells (i := 2) rfl) (fun w' hw => ⟨RepD.zero, 8, rfl, (by unfold yV; rw [if_neg (by omega), hg]; show (if (zI l i).seq < q then _ else _) = _; rw [if_pos (by omega)]), hw.sel [0, 1] rfl (by decide)⟩))
     ·
      refine zK (zL (zB (zC rfl (zC rfl (zm rfl rfl (zP (o := 0) rfl rfl (zS 0 (v := lv) rfl rfl rfl rfl (zC rfl (zH (pV 1 rfl) 6 i rfl rfl rfl (by omega) rfl (zP (o := 1) rfl rfl (zV (pV 1 rfl) 6 i 1 (off := yn lv + i * 6 + 1) (fun _ => rfl) rfl (by omega) (by omega) rfl rfl (yI rfl rfl rfl ?_))))))))))))
      refine zA (zU rfl (fun c5 => ?_) (fun c5 => ?_))
      ·
       refine zB (yQ (cs := [Vn 0, Vn 0, Vi 0, Vn 0, Vi 0, Vi 0]) (z := [Vn 0, Vn 0, Vi 0, Vn 0, Vi 0, Vi 0]) (pl := [(0, 1), (1, 1), (2, 1), (3, 1), (4, 1), (5, 1)]) (by kernel_rfl) (by kernel_rfl) rfl (zh 2 rfl rfl rfl (z8 rfl) rfl (zD rfl (zA ?_))))
       exact zM (yH (cs := [Vn 0, Vn 0, Vi 0, Vn 0, Vi 0, Vi 0]) (v := Vi 13) rfl rfl rfl (by kernel_rfl) (Own.rowCells (i := 2) rfl) (fun w' hw => ⟨RepD.zero, 13, rfl, (by unfold yV; rw [if_neg (by omega), hg]; show (if (zI l i).seq < q then _ else if q < (zI l i).seq then _ else _) = _; rw [if_neg (by omega), if_pos (by omega)]), hw.sel [0, 1] rfl (by decide)⟩))
      ·
       refine zK (zB (zC rfl (zm rfl rfl (zP (o := 0) rfl rfl (zS 0 (v := lv) rfl rfl rfl rfl (zC rfl (zH (pV 1 rfl) 6 i rfl rfl rfl (by omega) rfl (xh (pV 1 rfl) 6 i (off := yn lv + i * 6) (fun _ => rfl) rfl rfl (by omega) rfl (zh 2 rfl rfl rfl (z8 rfl) rfl (zD rfl (zA ?_)))))))))))
       exact zM (yH (cs := (RepD.cells (zI l i))) (v := Vi 0) rfl rfl rfl (by kernel_rfl) (Own.rowCells (i := 2) rfl) (fun w' hw => ⟨zI l i, 0, rfl, (by unfold yV; rw [if_neg (by omega), hg]; show (if (zI l i).seq < q then _ else if q < (zI l i).seq then _ else _) = _; rw [if_neg (by omega), if_neg (by omega)]), hw.sel [0, 1] rfl (by decide)⟩))
   ·
    refine yG rfl (zL (zB (zC rfl (zm rfl rfl (zP (o := 0) rfl rfl (zS 0 (v := lv) rfl rfl rfl rfl (yC (pV 1 rfl) rfl rfl (xC rfl rfl rfl (zA (zU rfl (fun c6 => ?_) (fun c6 => ?_)))))))))))
    ·
     refine zB (yQ (cs := [Vn 0, Vn 0, Vi 0, Vn 0, Vi 0, Vi 0]) (z := [Vn 0, Vn 0, Vi 0, Vn 0, Vi 0, Vi 0]) (pl := [(0, 1), (1, 1), (2, 1), (3, 1), (4, 1), (5, 1)]) (by kernel_rfl) (by kernel_rfl) rfl (zh 2 rfl rfl rfl (z8 rfl) rfl (zD rfl (zA ?_))))
     exact zM (yH (cs := [Vn 0, Vn 0, Vi 0, Vn 0, Vi 0, Vi 0]) (v := Vi 7) rfl rfl rfl (by kernel_rfl) (Own.rowCells (i := 2) rfl) (fun w' hw => ⟨RepD.zero, 7, rfl, (by unfold yV; rw [if_neg (by omega), zLE hI (by omega)]; show (if 32 ≤ (KR l).length then _ else _) = _; rw [if_pos (by rw [zDr]; omega)]), hw.sel [0, 1] rfl (by decide)⟩))
    ·
     refine zK (zB (yQ (cs := [Vn 0, Vn 0, Vi 0, Vn 0, Vi 0, Vi 0]) (z := [Vn 0, Vn 0, Vi 0, Vn 0, Vi 0, Vi 0]) (pl := [(0, 1), (1, 1), (2, 1), (3, 1), (4, 1), (5, 1)]) (by kernel_rfl) (by kernel_rfl) rfl (zh 2 rfl rfl rfl (z8 rfl) rfl (zD rfl (zA ?_)))))
     exact zM (yH (cs := [Vn 0, Vn 0, Vi 0, Vn 0, Vi 0, Vi 0]) (v := Vi 8) rfl rfl rfl (by kernel_rfl) (Own.rowCells (i := 2) rfl) (fun w' hw => ⟨RepD.zero, 8, rfl, (by unfold yV; rw [if_neg (by omega), zLE hI (by omega)]; show (if 32 ≤ (KR l).length then _ else _) = _; rw [if_neg (by rw [zDr]; omega)]), hw.sel [0, 1] rfl (by decide)⟩))
theorem zEO {S : List Nat} (wb e : Nat) (z0 z1 z2 z3 : Value) (xs : List Value) (lv : Value) (l : List RepD) (r : RepD) (w : World) (ho : COk l) (hin : Own w S [Res.row wb e (z0 :: z1 :: z2 :: z3 :: lv :: xs), Res.vec 43 6 lv l.length (l.flatMap RepD.cells)] w) : Rets Tryz.prog 35 #[.pointer (some ⟨wb, 4, none⟩), .agg (RepD.cells r).toArray] w fun u_ w' => ∃ (er : Int) (lv' : Value) (l' : List RepD), u_ = Vi er ∧ er = kg r (yV (KR l) r.session r.seq).2 ∧ l' = jA l r ∧ Own w S [Res.row wb e (z0 :: z1 :: z2 :: z3 :: lv' :: xs), Res.vec 43 6 lv' l'.length (l'.flatMap RepD.cells)] w' := by
  have hll := ho.len
  refine zW Tryz.func35 rfl Tryz.ntmps35 hin ?_
  refine zB (yc rfl rfl (fun b3 => zD rfl (zA (zL (zB (yN (cs := (RepD.cells r)) 2 rfl rfl rfl (zJ rfl rfl (fun w' hw => (zHA r w').mono ?_))))))))
  rintro _ w1 ⟨rfl, hO⟩
  refine (?_ : CL _ _ _ _ _ _ (Own w S [Res.row wb e (z0 :: z1 :: z2 :: z3 :: lv :: xs), Res.vec 43 6 lv l.length (l.flatMap RepD.cells), Res.row b3 43 (RepD.cells r)])) w1 (hw.frame0 hO)
  refine xo (q := r.ok) rfl rfl (zA (zU rfl (fun c1 => ?_) (fun c1 => ?_)))
  ·
   refine zB (zD rfl (zA ?_))
   exact zM (z6 (v := Vi 2) rfl rfl (fun w' hw => ⟨2, lv, l, rfl, (zJI c1 l).1, (zJI c1 l).2, hw.sel [0, 1] rfl (by decide)⟩))
  ·
   refine zK (zB (zC rfl (zP (o := 0) rfl rfl (zS 2 (v := Vn r.session) rfl rfl rfl rfl (zP (o := 1) rfl rfl (zS 2 (v := Vn r.seq) rfl rfl rfl rfl (zJ rfl rfl (fun w' hw => (zCn wb e z0 z1 z2 z3 (xs) lv l r.session r.seq w' ‹_› (hw.give [0, 1] rfl (by decide))).mono ?_))))))))
   rintro _ w1 ⟨x1_, er2_, rfl, hf3_5, hO⟩
   have hfe : (yV (KR l) r.session r.seq).2 = er2_ := congrArg Prod.snd hf3_5
   refine (?_ : CL _ _ _ _ _ _ (Own w S [Res.row b3 43 (RepD.cells r), Res.row wb e (z0 :: z1 :: z2 :: z3 :: lv :: xs), Res.vec 43 6 lv l.length (l.flatMap RepD.cells)])) w1 (hw.frameL [0, 1] rfl hO)
   refine zC rfl (zp (vs := [.agg (RepD.cells x1_).toArray, Vi er2_]) rfl rfl rfl (zp (vs := [.agg (RepD.cells x1_).toArray, Vi er2_]) rfl rfl rfl (yF (v := .agg #[Vn 0, Vn 0, Vi 0, Vn 0, Vi 0, Vi 0]) (by kernel_rfl) rfl (fun b5 => zh 3 rfl rfl rfl (z8 rfl) rfl (zD rfl (zA (zL (zB (zC rfl (yo rfl rfl rfl (zA (zU rfl (fun c2 => ?_) (fun c2 => ?_)))))))))))))
   ·
    refine zB (zD rfl (zA ?_))
    exact zM (z6 (v := Vi 9) rfl rfl (fun w' hw => ⟨9, lv, l, rfl, (by rw [← (zD5 c1 hfe (by omega)).1, if_pos c2]), (zD5 c1 hfe (by omega)).2, hw.sel [1, 2] rfl (by decide)⟩))
   ·
    refine zK (zL (zB (zC rfl (xn rfl rfl rfl (zA (zU rfl (fun c3 => ?_) (fun c3 => ?_)))))))
    ·
     refine zB (zC rfl (zD rfl (zA ?_)))
     exact zM (z6 (v := Vi er2_) rfl rfl (fun w' hw => ⟨er2_, lv, l, rfl, (by rw [← (zD5 c1 hfe c3).1, if_neg c2]), (zD5 c1 hfe c3).2, hw.sel [1, 2] rfl (by decide)⟩))
    ·
     refine zK (zB (zD rfl (zA (zB (zD rfl (zA (zL (zB (zD rfl (zA (zT ?_)))))))))))
     refine zB6 (fun (i : Nat) (p : Bool) (ov : Value) (os : List RepD) => [(0, .pointer (some ⟨wb, 4, none⟩)), (3, .pointer (some ⟨b3, 0, none⟩)), (7, ov), (8, .bool p), (9, Vj i)]) (fun (i : Nat) (p : Bool) (ov : Value) (os : List RepD) => i ≤ l.length ∧ InsI r l i p os) (fun (i : Nat) (p : Bool) (ov : Value) (os : List RepD) => [Res.row b3 43 (RepD.cells r), Res.row wb e (z0 :: z1 :: z2 :: z3 :: lv :: xs), Res.vec 43 6 lv l.length (l.flatMap RepD.cells), Res.row b5 43 (RepD.cells x1_), Res.vec 43 6 ov os.length (os.flatMap RepD.cells)]) (fun (i : Nat) (p : Bool) (ov : Value) (os : List RepD) => l.length - i) (fun w' hw => ⟨0, false, .slice none 0 0, [], ⟨rfl, rfl, rfl, rfl, rfl, trivial⟩, ⟨Nat.zero_le _, InsI.start _ _⟩, (yK hw 43 6)⟩) (fun i p ov os g hΦ => ?_)
     have hi := hΦ.1
     have hI := hΦ.2
     have hol := hI.len
     refine zL (zB (zC rfl (zC rfl (zm rfl rfl (zP (o := 0) rfl rfl (zS 1 (v := lv) rfl rfl rfl rfl (yC (pV 2 rfl) rfl rfl (yI rfl rfl rfl (zA (zU rfl (fun c4 => ?_) (fun c4 => ?_)))))))))))
     ·
      refine zK (zL (zT (zL (xb (by kernel_rfl) (by kernel_rfl) (zf rfl (zQ) (zf rfl (zFQ (b := p) rfl) (zf rfl (zQ) (zD2 (q := (!p) = true) 11 2 [49, 48, 47, 46, 45, 44, 43, 42, 41, 40, 39] (((r.session : Nat) : Int) ≤ (((zI l i).session : Nat) : Int)) rfl rfl (yb _) rfl rfl rfl trivial rfl (fun h13_2 => ?_) (fun g13_14 => ?_)))))))))
      ·
       refine y4 rfl (bT h13_2) (zf rfl (zQ) (y4 rfl (bT h13_2) (zf rfl (z7 rfl) (y4 rfl (bT h13_2) (zf rfl (zi (o := 0) rfl) (y4 rfl (bT h13_2) (zf rfl (zo 1 (v := lv) rfl rfl rfl) (y4 rfl (bT h13_2) (zf rfl (zQ) (y4 rfl (bT h13_2) (zf rfl (yR (pV 2 rfl) 6 i rfl rfl rfl (by omega)) (y4 rfl (bT h13_2) ?_))))))))))))
       refine zf rfl (zi (o := 0) rfl) (y4 rfl (bT h13_2) (zf rfl (yq (pV 2 rfl) 6 i 0 (off := yn lv + i * 6 + 0) (fun _ => rfl) rfl (by omega) (by omega) rfl) (y4 rfl (bT h13_2) (zf rfl (zi (o := 0) rfl) (y4 rfl (bT h13_2) (zf rfl (zo 0 (v := Vn r.session) rfl rfl rfl) (y4 rfl (bT h13_2) (zf rfl (zKu rfl rfl) ?_))))))))
       exact zD7 rfl
      refine j9 (zU rfl (fun c5 => ?_) (fun c5 => ?_))
      ·
       refine zB (zC rfl (yN (cs := (RepD.cells r)) 0 rfl rfl rfl (yj (e := 43) (sz := 6) (vs := [.agg (RepD.cells r).toArray]) (by kernel_rfl) rfl rfl (by simp [Value.cells, RepD.cells]) (by decide) rfl (fun b53 => yu (g := RepD.cells) (sz := 6) (by' := 48) (fun _ => rfl) (l := os) (l' := [r]) (by simp [cell1, RepD.cells, vu]) 4 (by kernel_rfl) rfl rfl rfl (fun w' hw' => Vec.sl (Own.holds hw' 5 _ rfl)) (by first | omega | (simp; omega)) (by decide) rfl (fun v54 => zD rfl (zA (zd (zD rfl (zA (xb (by kernel_rfl) (by kernel_rfl) (zf rfl (zQ) (zf rfl (z7 rfl) ?_))))))))))))
       refine zf rfl (zi (o := 0) rfl) (zf rfl (zo 1 (v := lv) rfl rfl rfl) (zf rfl (zQ) (zf rfl (yR (pV 2 rfl) 6 i rfl rfl rfl (by omega)) (zf rfl (zi (o := 0) rfl) (zf rfl (yq (pV 2 rfl) 6 i 0 (off := yn lv + i * 6 + 0) (fun _ => rfl) rfl (by omega) (by omega) rfl) (zf rfl (zi (o := 0) rfl) (zf rfl (zo 0 (v := Vn r.session) rfl rfl rfl) (zf rfl (zG9 rfl rfl) (j9 (zU rfl (fun c6 => ?_) (fun c6 => ?_)))))))))))
       ·
        refine zd (zC rfl (zC rfl (zm rfl rfl (zP (o := 0) rfl rfl (zS 1 (v := lv) rfl rfl rfl rfl (zC rfl (zH (pV 2 rfl) 6 i rfl rfl rfl (by omega) rfl (xh (pV 2 rfl) 6 i (off := yn lv + i * 6) (fun _ => rfl) rfl rfl (by omega) rfl (yj (e := 43) (sz := 6) (vs := [.agg (RepD.cells (zI l i)).toArray]) (by kernel_rfl) rfl rfl (by simp [Value.cells, RepD.cells]) (by decide) rfl (fun b74 => yu (g := RepD.cells) (sz := 6) (by' := 48) (fun _ => rfl) (l := os ++ [r]) (l' := [(zI l i)]) (by simp [cell1, RepD.cells, vu]) 4 (by kernel_rfl) rfl rfl rfl (fun w' hw' => Vec.sl (Own.holds hw' 6 _ rfl)) (by first | omega | (simp; omega)) (by decide) rfl (fun v75 => zD rfl (zA ?_))))))))))))
        refine zd (zC rfl (zt rfl rfl (zr (by omega)) rfl (zD rfl ?_)))
        exact zj (fun w' hw => ⟨i + 1, true, v75, os ++ [r] ++ [zI l i], ⟨rfl, rfl, rfl, rfl, rfl, trivial⟩, ⟨by omega, by have h := hI.put (by omega) (zLi c5.1) (by omega); rwa [if_pos (by omega)] at h⟩, hw.sel [0, 1, 2, 3, 4] rfl (by decide), (by omega)⟩)
       ·
        refine zK (zd (zC rfl (zt rfl rfl (zr (by omega)) rfl (zD rfl ?_))))
        exact zj (fun w' hw => ⟨i + 1, true, v54, os ++ [r], ⟨rfl, rfl, rfl, rfl, rfl, trivial⟩, ⟨by omega, by have h := hI.put (by omega) (zLi c5.1) (by omega); rwa [if_neg (by omega), List.append_nil] at h⟩, hw.sel [0, 1, 2, 3, 4] rfl (by decide), (by omega)⟩)
      ·
       refine zK (xb (by kernel_rfl) (by kernel_rfl) (zf rfl (zQ) (zf rfl (z7 rfl) (zf rfl (zi (o := 0) rfl) (zf rfl (zo 1 (v := lv) rfl rfl rfl) (zf rfl (zQ) (zf rfl (yR (pV 2 rfl) 6 i rfl rfl rfl (by omega)) (zf rfl (zi (o := 0) rfl) (zf rfl (yq (pV 2 rfl) 6 i 0 (off := yn lv + i * 6 + 0) (fun _ => rfl) rfl (by omega) (by omega) rfl) (zf rfl (zi (o := 0) rfl) (zf rfl (zo 0 (v := Vn r.session) rfl rfl rfl) (zf rfl (zG9 rfl rfl) ?_))))))))))))
       refine j9 (zU rfl (fun c7 => ?_) (fun c7 => ?_))
       ·
        refine zd (zC rfl (zC rfl (zm rfl rfl (zP (o := 0) rfl rfl (zS 1 (v := lv) rfl rfl rfl rfl (zC rfl (zH (pV 2 rfl) 6 i rfl rfl rfl (by omega) rfl (xh (pV 2 rfl) 6 i (off := yn lv + i * 6) (fun _ => rfl) rfl rfl (by omega) rfl (yj (e := 43) (sz := 6) (vs := [.agg (RepD.cells (zI l i)).toArray]) (by kernel_rfl) rfl rfl (by simp [Value.cells, RepD.cells]) (by decide) rfl (fun b74 => yu (g := RepD.cells) (sz := 6) (by' := 48) (fun _ => rfl) (l := os) (l' := [(zI l i)]) (by simp [cell1, RepD.cells, vu]) 4 (by kernel_rfl) rfl rfl rfl (fun w' hw' => Vec.sl (Own.holds hw' 5 _ rfl)) (by first | omega | (simp; omega)) (by decide) rfl (fun v75 => zD rfl (zA ?_))))))))))))
        refine zd (zC rfl (zt rfl rfl (zr (by omega)) rfl (zD rfl ?_)))
        exact zj (fun w' hw => ⟨i + 1, p, v75, os ++ [zI l i], ⟨rfl, rfl, rfl, rfl, rfl, trivial⟩, ⟨by omega, (hI.more ho.up (by omega) (fun q => c5 ⟨zKs q.1, by omega⟩)).1⟩, hw.sel [0, 1, 2, 3, 4] rfl (by decide), (by omega)⟩)
       ·
        refine zK (zd (zC rfl (zt rfl rfl (zr (by omega)) rfl (zD rfl ?_))))
        exact zj (fun w' hw => ⟨i + 1, p, ov, os, ⟨rfl, rfl, rfl, rfl, rfl, trivial⟩, ⟨by omega, absurd (hI.more ho.up (by omega) (fun q => c5 ⟨zKs q.1, by omega⟩)).2 (by omega)⟩, hw, (by omega)⟩)
     ·
      refine yG rfl (zL (zB (zC rfl (kY (b := p) rfl rfl (zA (zCx rfl (fun c8 => ?_) (fun c8 => ?_)))))))
      ·
       refine zd (zC rfl (yN (cs := (RepD.cells r)) 0 rfl rfl rfl (yj (e := 43) (sz := 6) (vs := [.agg (RepD.cells r).toArray]) (by kernel_rfl) rfl rfl (by simp [Value.cells, RepD.cells]) (by decide) rfl (fun b80 => yu (g := RepD.cells) (sz := 6) (by' := 48) (fun _ => rfl) (l := os) (l' := [r]) (by simp [cell1, RepD.cells, vu]) 4 (by kernel_rfl) rfl rfl rfl (fun w' hw' => Vec.sl (Own.holds hw' 5 _ rfl)) (by first | omega | (simp; omega)) (by decide) rfl (fun v81 => zD rfl (zA (zB (zC rfl (zC rfl (zm rfl rfl (zP (o := 0) rfl rfl ?_)))))))))))
       refine yS (fun w' hw => Own.cell1Vec (i := 4) rfl hw) (fun hc1_ => ?_)
       refine yi (cs := (z0 :: z1 :: z2 :: z3 :: lv :: xs)) 1 rfl rfl rfl hc1_ rfl (zA (zB (zD rfl (zA ?_))))
       exact zM (z6 (v := Vi 0) rfl rfl (fun w' hw => ⟨0, v81, os ++ [r], rfl, (zDg c1 hfe c3).1, (by rw [← (zDg c1 hfe c3).2, ← hI.done (by omega), if_pos (zLi c8)]), hw.sel [1, 4] rfl (by decide)⟩))
      ·
       refine zK (zB (zC rfl (zC rfl (zm rfl rfl (zP (o := 0) rfl rfl ?_)))))
       refine yS (fun w' hw => Own.cell1Vec (i := 4) rfl hw) (fun hc2_ => ?_)
       refine yi (cs := (z0 :: z1 :: z2 :: z3 :: lv :: xs)) 1 rfl rfl rfl hc2_ rfl (zA (zB (zD rfl (zA ?_))))
       exact zM (z6 (v := Vi 0) rfl rfl (fun w' hw => ⟨0, ov, os, rfl, (zDg c1 hfe c3).1, (by rw [← (zDg c1 hfe c3).2, ← hI.done (by omega), if_neg (by cases p <;> simp_all), List.append_nil]), hw.sel [1, 4] rfl (by decide)⟩))
theorem zL7 (r s : RepD) : eqL [(0, some (some .u64)), (1, some (some .u64)), (2, some (some .i64)), (3, some (some .u64)), (4, some (some .i64)), (5, some (some .i64))] r.cells s.cells = decide (r = s) := by
  obtain ⟨a, b, c, d, e, f⟩ := r
  obtain ⟨a', b', c', d', e', f'⟩ := s
  simp [eqL, RepD.cells, eqC, RepD.mk.injEq, Bool.decide_and]
  have h : ∀ m n : Nat, decide ((m : Int) = n) = decide (m = n) := fun m n => decide_eq_decide.2 (by omega)
  simp only [h]
theorem zHV (l : List RepD) (r : RepD) : ∀ x ∈ jA l r, x ∈ l ∨ x = r := by
  unfold jA
  split
  · intro x hx
    unfold zDz at hx
    rcases List.mem_append.1 hx with q | q
    · exact .inl (List.mem_filter.1 q).1
    · rcases List.mem_cons.1 q with q | q
      · exact .inr q
      · exact .inl (List.mem_filter.1 q).1
  · exact fun _ => .inl
structure DActD where
  kind : Int
  r : RepD
def DActD.cells (x : DActD) : List Value := .int .i64 x.kind :: x.r.cells
instance : Inhabited DActD := ⟨⟨0, RepD.zero⟩⟩
end Go.Proofs.YthincafbmpialaaGreat
