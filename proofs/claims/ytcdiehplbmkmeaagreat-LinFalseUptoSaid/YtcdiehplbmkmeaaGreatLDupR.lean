import Derived.Test.YtcdiehplbmkmeaaGreatLDup
set_option linter.unusedSectionVars false
set_option linter.unusedSimpArgs false
set_option linter.unusedVariables false
set_option maxRecDepth 10000
namespace Go.Proofs.YtcdiehplbmkmeaaGreat
open Go Go.Sc Go.Proofs
def KR (l : List RepD) : List (Nat × RepD) := l.map fun r => (r.session, r)
theorem zEK (l : List RepD) : (KR l).length = l.length := by simp [KR]
structure COk (l : List RepD) : Prop where
  up : (l.map (·.session)).Pairwise (· < ·)
  each : ∀ r ∈ l, r.ok ∧ 1 ≤ r.session ∧ 1 ≤ r.seq
  len : l.length ≤ 32
def CRel (kl : List (Nat × RepD)) (l : List RepD) : Prop := kl.Perm (KR l)
section
variable {kl : List (Nat × RepD)} {l : List RepD} {r : RepD} {s q : Nat}
theorem zJe (h : (l.map (·.session)).Pairwise (· < ·)) : KNd (KR l) := by
  unfold KNd KR; rw [List.map_map]
  exact h.imp fun q => by omega
theorem COk.nd (h : COk l) (hr : CRel kl l) : KNd kl := (zJe h.up).perm hr.symm
theorem zDl (h : COk l) (hr : CRel kl l) (s q : Nat) : zu kl s q = zu (KR l) s q := by
  unfold zu; rw [ki (h.nd hr) hr, hr.length_eq]
theorem zH6 (h : (l.map (·.session)).Pairwise (· < ·)) (hm : r ∈ l) : zf r.session (KR l) = some r := jd (zJe h) (List.mem_map.2 ⟨r, hm, rfl⟩)
theorem zDQ (hg : zf s (KR l) = some r) : r ∈ l ∧ r.session = s := by
  have := jQ hg
  obtain ⟨x, hx, e⟩ := List.mem_map.1 this
  simp only [Prod.mk.injEq] at e
  exact ⟨e.2 ▸ hx, e.2 ▸ e.1⟩
def zCt (r : RepD) (l : List RepD) : List RepD := l.filter (fun x => decide (x.session < r.session)) ++ r :: l.filter (fun x => decide (r.session < x.session))
def kO (l : List RepD) (r : RepD) : List RepD := if r.ok ∧ (zu (KR l) r.session r.seq).2 = 8 then zCt r l else l
theorem zHr (s : Nat) : ∀ l : List RepD, (l.filter fun x => decide (x.session ≠ s)).Perm (l.filter (fun x => decide (x.session < s)) ++ l.filter (fun x => decide (s < x.session)))
  | [] => .refl _
  | a :: l => by
    have ih := zHr s l
    rcases Nat.lt_trichotomy a.session s with h | h | h
    · rw [List.filter_cons_of_pos (by simp; omega), List.filter_cons_of_pos (by simp; omega), List.filter_cons_of_neg (by simp; omega)]
      exact ih.cons _
    · rw [List.filter_cons_of_neg (by simp; omega), List.filter_cons_of_neg (by simp; omega), List.filter_cons_of_neg (by simp; omega)]
      exact ih
    · rw [List.filter_cons_of_pos (by simp; omega), List.filter_cons_of_neg (by simp; omega), List.filter_cons_of_pos (by simp; omega)]
      exact (ih.cons _).trans List.perm_middle.symm
theorem zA4 (r : RepD) (l : List RepD) : (zCt r l).Perm (r :: l.filter fun x => decide (x.session ≠ r.session)) := by
  unfold zCt
  exact List.perm_middle.trans ((zHr r.session l).symm.cons _)
theorem zF0 (s : Nat) (l : List RepD) : KR (l.filter fun x => decide (x.session ≠ s)) = (KR l).filter fun p => decide (p.1 ≠ s) := by
  unfold KR; rw [List.filter_map]; rfl
theorem zGj (h : COk l) (hr : CRel kl l) (r : RepD) : CRel (jJ kl r) (kO l r) := by
  unfold jJ kO
  rw [zDl h hr]
  split
  · refine (kG (h.nd hr)).trans ?_
    refine List.Perm.trans ?_ ((zA4 r l).map fun r => (r.session, r)).symm
    rw [List.map_cons]
    refine List.Perm.cons _ ?_
    have e := zF0 r.session l
    unfold KR at e
    rw [e]
    exact List.Perm.filter _ hr
  · exact hr
theorem zED {kl : List (Nat × RepD)} (h : (zu kl s q).2 = 8) : s ≠ 0 ∧ q ≠ 0 := by
  unfold zu at h
  split at h
  · cases h
  · omega
theorem zGG (h : COk l) (r : RepD) : COk (kO l r) := by
  unfold kO
  split
  · rename_i c
    obtain ⟨c1, c2⟩ := c
    have hn := zED c2
    have hp := zA4 r l
    refine ⟨?_, fun x hx => ?_, ?_⟩
    · unfold zCt
      rw [List.map_append, List.map_cons, List.pairwise_append, List.pairwise_cons]
      refine ⟨h.up.sublist (List.filter_sublist.map _), ⟨fun a ha => ?_, h.up.sublist (List.filter_sublist.map _)⟩, fun a ha b hb => ?_⟩
      · obtain ⟨x, hx, rfl⟩ := List.mem_map.1 ha
        simpa using (List.mem_filter.1 hx).2
      · obtain ⟨x, hx, rfl⟩ := List.mem_map.1 ha
        have h1 : x.session < r.session := by simpa using (List.mem_filter.1 hx).2
        rcases List.mem_cons.1 hb with rfl | hb
        · exact h1
        · obtain ⟨y, hy, rfl⟩ := List.mem_map.1 hb
          have h2 : r.session < y.session := by simpa using (List.mem_filter.1 hy).2
          omega
    · rcases List.mem_cons.1 (hp.mem_iff.1 hx) with rfl | hx
      · exact ⟨c1, by omega, by omega⟩
      · exact h.each x (List.mem_filter.1 hx).1
    · rw [hp.length_eq, List.length_cons]
      have h1 := h.len
      have h2 := List.length_filter_le (fun x : RepD => decide (x.session ≠ r.session)) l
      cases hg : zf r.session (KR l) with
      | none =>
        unfold zu at c2
        rw [if_neg (by omega), hg] at c2
        have c3 : (if 32 ≤ (KR l).length then (RepD.zero, (7 : Int)) else (RepD.zero, 8)).2 = 8 := c2
        split at c3
        · cases c3
        · rw [zEK] at *; omega
      | some x =>
        obtain ⟨hx, hs⟩ := zDQ hg
        have : (l.filter fun x => decide (x.session ≠ r.session)).length < l.length := by
          refine Nat.lt_of_le_of_ne h2 fun q => ?_
          have := List.length_filter_eq_length_iff.1 q x hx
          simp at this; exact this hs
        omega
  · exact h
theorem COk.start : COk [] := ⟨by simp, by simp, by simp⟩
theorem CRel.start : CRel [] [] := .refl _
def InsI (r : RepD) (l : List RepD) (i : Nat) (p : Bool) (os : List RepD) : Prop :=
  (p = false ∧ os = l.take i ∧ ∀ x ∈ l.take i, x.session < r.session) ∨
  (p = true ∧ os = (l.take i).filter (fun x => decide (x.session < r.session)) ++ r :: (l.take i).filter (fun x => decide (r.session < x.session)) ∧ ∃ x ∈ l.take i, r.session ≤ x.session)
theorem InsI.start (r : RepD) (l : List RepD) : InsI r l 0 false [] := .inl ⟨rfl, rfl, by simp⟩
theorem zGM {l : List RepD} {s : Nat} (h : ∀ x ∈ l, x.session < s) : l.filter (fun x => decide (x.session < s)) = l ∧ l.filter (fun x => decide (s < x.session)) = [] :=
  ⟨List.filter_eq_self.2 fun x hx => by simpa using h x hx, List.filter_eq_nil_iff.2 fun x hx => by have := h x hx; simp; omega⟩
theorem zLk (h : (l.map (·.session)).Pairwise (· < ·)) {i : Nat} (hi : i < l.length) {x : RepD} (hx : x ∈ l.take i) : x.session < (zG l i).session := by
  obtain ⟨j, hj, e⟩ := List.mem_iff_getElem.1 hx
  have hj' : j < i := by rw [List.length_take] at hj; omega
  have := List.pairwise_iff_getElem.1 h j i (by rw [List.length_map]; omega) (by rw [List.length_map]; exact hi) hj'
  rw [List.getElem_map, List.getElem_map] at this
  rw [List.getElem_take] at e
  have e2 := kc (List.getElem?_eq_getElem hi)
  rw [e2, ← e]; exact this
theorem InsI.put {i : Nat} {p : Bool} {os : List RepD} (h : InsI r l i p os) (hi : i < l.length) (hp : p = false) (hge : r.session ≤ (zG l i).session) : InsI r l (i + 1) true (os ++ [r] ++ if (zG l i).session ≠ r.session then [zG l i] else []) := by
  rcases h with ⟨_, h2, h3⟩ | ⟨h1, _⟩
  · obtain ⟨f1, f2⟩ := zGM h3
    refine .inr ⟨rfl, ?_, zG l i, by rw [yP hi]; simp, hge⟩
    rw [yP hi, List.filter_append, List.filter_append, f1, f2, List.filter_cons_of_neg (by simp; omega), List.filter_nil, List.append_nil, List.nil_append, h2, List.append_assoc]
    congr 1
    by_cases c : (zG l i).session ≠ r.session
    · rw [if_pos c, List.filter_cons_of_pos (by simp; omega)]; rfl
    · rw [if_neg c, List.filter_cons_of_neg (by simp; omega)]; rfl
  · rw [hp] at h1; cases h1
theorem InsI.more (hu : (l.map (·.session)).Pairwise (· < ·)) {i : Nat} {p : Bool} {os : List RepD} (h : InsI r l i p os) (hi : i < l.length) (hn : ¬ (p = false ∧ r.session ≤ (zG l i).session)) : InsI r l (i + 1) p (os ++ [zG l i]) ∧ (zG l i).session ≠ r.session := by
  rcases h with ⟨h1, h2, h3⟩ | ⟨h1, h2, y, hy, h3⟩
  · have hlt : (zG l i).session < r.session := Nat.not_le.1 fun q => hn ⟨h1, q⟩
    refine ⟨.inl ⟨h1, by rw [h2, yP hi], fun x hx => ?_⟩, by omega⟩
    rw [yP hi] at hx
    rcases List.mem_append.1 hx with q | q
    · exact h3 x q
    · rw [List.mem_singleton.1 q]; exact hlt
  · have hgt := zLk hu hi hy
    refine ⟨.inr ⟨h1, ?_, y, by rw [yP hi]; exact List.mem_append_left _ hy, h3⟩, by omega⟩
    rw [yP hi, List.filter_append, List.filter_append, List.filter_cons_of_neg (by simp; omega), List.filter_nil, List.append_nil, List.filter_cons_of_pos (by simp; omega), List.filter_nil, h2, List.append_assoc]
    rfl
theorem InsI.done {i : Nat} {p : Bool} {os : List RepD} (h : InsI r l i p os) (hi : l.length ≤ i) : os ++ (if p = false then [r] else []) = zCt r l := by
  unfold InsI at h
  rw [List.take_of_length_le hi] at h
  rcases h with ⟨h1, h2, h3⟩ | ⟨h1, h2, _⟩
  · obtain ⟨f1, f2⟩ := zGM h3
    unfold zCt; rw [f1, f2, if_pos h1, h2]
  · rw [h1, if_neg (by decide), List.append_nil, h2]; rfl
theorem InsI.len {i : Nat} {p : Bool} {os : List RepD} (h : InsI r l i p os) : os.length ≤ l.length + 1 := by
  rcases h with ⟨h1, h2, h3⟩ | ⟨h1, h2, _⟩
  · rw [h2, List.length_take]; omega
  · have hp := zA4 r (l.take i)
    have : os = zCt r (l.take i) := h2
    rw [this, hp.length_eq, List.length_cons]
    have := List.length_filter_le (fun x : RepD => decide (x.session ≠ r.session)) (l.take i)
    rw [List.length_take] at this; omega
end
theorem zJ6 {p : Bool} (h : (!p) = true) : p = false := by cases p <;> simp_all
theorem zJU {p : Bool} (h : p = false) : (!p) = true := by rw [h]; rfl
theorem zJZ {l : List RepD} {s i : Nat} (h : ∀ r ∈ l.take i, r.session ≠ s) (hi : l.length ≤ i) : zf s (KR l) = none := by
  rw [List.take_of_length_le hi] at h
  rw [kj]
  intro p hp
  obtain ⟨x, hx, rfl⟩ := List.mem_map.1 hp
  exact h x hx
theorem zGO {r : RepD} (hn : ¬ r.ok) (l : List RepD) : 2 = x7 r (zu (KR l) r.session r.seq).2 ∧ l = kO l r := by
  unfold x7 kO
  rw [if_pos hn, if_neg fun k => hn k.1]
  exact ⟨rfl, rfl⟩
theorem zC3 {r : RepD} {l : List RepD} {e : Int} (h : ¬ ¬ r.ok) (he : (zu (KR l) r.session r.seq).2 = e) (h8 : e ≠ 8) : (if e = 0 then 9 else e) = x7 r (zu (KR l) r.session r.seq).2 ∧ l = kO l r := by
  unfold x7 kO
  refine ⟨?_, ?_⟩
  · rw [if_neg h, he, if_neg h8]
  · rw [he, if_neg fun k => h8 k.2]
theorem zC9 {r : RepD} {l : List RepD} {e : Int} (h : ¬ ¬ r.ok) (he : (zu (KR l) r.session r.seq).2 = e) (h8 : ¬ e ≠ 8) : 0 = x7 r (zu (KR l) r.session r.seq).2 ∧ zCt r l = kO l r := by
  have h8 : e = 8 := Decidable.not_not.1 h8
  unfold x7 kO
  refine ⟨?_, ?_⟩
  · rw [if_neg h, he, if_pos h8]
  · rw [he, if_pos ⟨Decidable.not_not.1 h, h8⟩]
theorem zFs (r : RepD) (w : World) : Rets Tryz.prog 41 #[.agg (RepD.cells r).toArray] w fun u_ w' => u_ = .bool (decide r.ok) ∧ Own w [] [] w' := by
  refine ze Tryz.func41 rfl Tryz.ntmps41 (Own.start w) ?_
  refine zB (yj rfl rfl (fun b1 => zH rfl (zA (zB (zO (o := 2) rfl rfl (zU 0 (v := Vi r.e) rfl rfl rfl rfl (yU rfl rfl rfl (zC rfl (yD (q := 0 ≤ r.e) 3 3 [9, 8, 7] (r.e ≤ 20) rfl rfl rfl rfl rfl rfl trivial rfl (fun h1_3 => ?_) (fun g1_7 => ?_))))))))))
  ·
   refine zR rfl (gT h1_3) (zO (o := 2) rfl rfl (zR rfl (gT h1_3) (zU 0 (v := Vi r.e) rfl rfl rfl rfl (zR rfl (gT h1_3) (x5 rfl rfl rfl ?_)))))
   exact yH rfl (fun _ hw => hw)
  refine zH rfl (zA ?_)
  exact zN (z4 (v := .bool (decide ((0 ≤ r.e) ∧ (r.e ≤ 20)))) rfl rfl (fun w' hw => ⟨rfl, hw.drop⟩))
theorem zBh {S : List Nat} (wb e : Nat) (z0 z1 z2 z3 : Value) (xs : List Value) (lv : Value) (l : List RepD) (s q : Nat) (w : World) (ho : COk l) (hin : Own w S [Res.row wb e (z0 :: z1 :: z2 :: z3 :: lv :: xs), Res.vec 50 6 lv l.length (l.flatMap RepD.cells)] w) : Rets Tryz.prog 23 #[.pointer (some ⟨wb, 4, none⟩), Vn s, Vn q] w fun u_ w' => ∃ (x : RepD) (er : Int), u_ = .tuple #[.agg (RepD.cells x).toArray, Vi er] ∧ zu (KR l) s q = (x, er) ∧ Own w S [Res.row wb e (z0 :: z1 :: z2 :: z3 :: lv :: xs), Res.vec 50 6 lv l.length (l.flatMap RepD.cells)] w' := by
  have hll := ho.len
  refine ze Tryz.func23 rfl Tryz.ntmps23 hin ?_
  refine zB (yG (v := .agg #[Vn 0, Vn 0, Vi 0, Vn 0, Vi 0, Vi 0]) (by kernel_rfl) rfl (fun b6 => zH rfl (zA (zL (zB (zC rfl (yV rfl rfl rfl (zC rfl (yk (q := ((s : Nat) : Int) = ((0 : Nat) : Int)) 2 2 [13, 12] (((q : Nat) : Int) = ((0 : Nat) : Int)) rfl rfl rfl rfl rfl rfl trivial rfl (fun h1_2 => ?_) (fun g1_5 => ?_))))))))))
  ·
   refine zR rfl (gF h1_2) (zC rfl (zR rfl (gF h1_2) (yV rfl rfl rfl ?_)))
   exact yH rfl (fun _ hw => hw)
  refine zA (zV rfl (fun c1 => ?_) (fun c1 => ?_))
  ·
   refine zB (z8 (cs := [Vn 0, Vn 0, Vi 0, Vn 0, Vi 0, Vi 0]) (z := [Vn 0, Vn 0, Vi 0, Vn 0, Vi 0, Vi 0]) (pl := [(0, 1), (1, 1), (2, 1), (3, 1), (4, 1), (5, 1)]) (by kernel_rfl) (by kernel_rfl) rfl (zm 2 rfl rfl rfl (zw rfl) rfl (zH rfl (zA ?_))))
   exact zN (zy (cs := [Vn 0, Vn 0, Vi 0, Vn 0, Vi 0, Vi 0]) (v := Vi 1) rfl rfl rfl (by kernel_rfl) (Own.rowCells (i := 2) rfl) (fun w' hw => ⟨RepD.zero, 1, rfl, zJY c1, hw.sel [0, 1] rfl (by decide)⟩))
  ·
   refine zJ (zL (zB (zH rfl (zA (zW ?_)))))
   refine xC (fun (i : Nat) => [(0, .pointer (some ⟨wb, 4, none⟩)), (1, Vn s), (2, Vn q), (6, .pointer (some ⟨b6, 0, none⟩)), (8, Vj i)]) (fun (i : Nat) => i ≤ l.length ∧ ∀ r ∈ l.take i, r.session ≠ s) (fun (i : Nat) => [Res.row wb e (z0 :: z1 :: z2 :: z3 :: lv :: xs), Res.vec 50 6 lv l.length (l.flatMap RepD.cells), Res.row b6 50 [Vn 0, Vn 0, Vi 0, Vn 0, Vi 0, Vi 0]]) (fun (i : Nat) => l.length - i) (fun w' hw => ⟨0, ⟨rfl, rfl, rfl, rfl, rfl, trivial⟩, ⟨Nat.zero_le _, by simp⟩, hw⟩) (fun i g hΦ => ?_)
   have hi := hΦ.1
   have hI := hΦ.2
   refine zL (zB (zC rfl (zC rfl (zt rfl rfl (zO (o := 0) rfl rfl (zU 0 (v := lv) rfl rfl rfl rfl (yY (pV 1 rfl) rfl rfl (z9 rfl rfl rfl (zA (zV rfl (fun c2 => ?_) (fun c2 => ?_)))))))))))
   ·
    refine zJ (zL (zW (zL (zB (zC rfl (zt rfl rfl (zO (o := 0) rfl rfl (zU 0 (v := lv) rfl rfl rfl rfl (zC rfl (zF (pV 1 rfl) 6 i rfl rfl rfl (by omega) rfl (zO (o := 0) rfl rfl (zP (pV 1 rfl) 6 i 0 (off := yK lv + i * 6 + 0) (fun _ => rfl) rfl (by omega) (by omega) rfl rfl ?_))))))))))))
    refine zC rfl (jK rfl rfl rfl (zA (zV rfl (fun c3 => ?_) (fun c3 => ?_))))
    ·
     refine yB rfl (zY (zC rfl (zn rfl rfl (zh (by omega)) rfl (zH rfl ?_))))
     exact zd (fun w' hw => ⟨i + 1, ⟨rfl, rfl, rfl, rfl, rfl, trivial⟩, ⟨by omega, by rw [yP (by omega)]; intro r hr; rcases List.mem_append.1 hr with q1 | q1; exact hI r q1; rw [List.mem_singleton.1 q1]; omega⟩, hw, (by omega)⟩)
    ·
     have hg : zf s (KR l) = some (zG l i) := by rw [show s = (zG l i).session by omega]; exact zH6 ho.up (yR (by omega))
     refine zJ (zL (zB (zC rfl (zC rfl (zt rfl rfl (zO (o := 0) rfl rfl (zU 0 (v := lv) rfl rfl rfl rfl (zC rfl (zF (pV 1 rfl) 6 i rfl rfl rfl (by omega) rfl (zO (o := 1) rfl rfl (zP (pV 1 rfl) 6 i 1 (off := yK lv + i * 6 + 1) (fun _ => rfl) rfl (by omega) (by omega) rfl rfl (xF rfl rfl rfl ?_))))))))))))
     refine zA (zV rfl (fun c4 => ?_) (fun c4 => ?_))
     ·
      refine zB (z8 (cs := [Vn 0, Vn 0, Vi 0, Vn 0, Vi 0, Vi 0]) (z := [Vn 0, Vn 0, Vi 0, Vn 0, Vi 0, Vi 0]) (pl := [(0, 1), (1, 1), (2, 1), (3, 1), (4, 1), (5, 1)]) (by kernel_rfl) (by kernel_rfl) rfl (zm 2 rfl rfl rfl (zw rfl) rfl (zH rfl (zA ?_))))
      exact zN (zy (cs := [Vn 0, Vn 0, Vi 0, Vn 0, Vi 0, Vi 0]) (v := Vi 8) rfl rfl rfl (by kernel_rfl) (Own.rowCells (i := 2) rfl) (fun w' hw => ⟨RepD.zero, 8, rfl, (by unfold zu; rw [if_neg (by omega), hg]; show (if (zG l i).seq < q then _ else _) = _; rw [if_pos (by omega)]), hw.sel [0, 1] rfl (by decide)⟩))
     ·
      refine zJ (zL (zB (zC rfl (zC rfl (zt rfl rfl (zO (o := 0) rfl rfl (zU 0 (v := lv) rfl rfl rfl rfl (zC rfl (zF (pV 1 rfl) 6 i rfl rfl rfl (by omega) rfl (zO (o := 1) rfl rfl (zP (pV 1 rfl) 6 i 1 (off := yK lv + i * 6 + 1) (fun _ => rfl) rfl (by omega) (by omega) rfl rfl (z9 rfl rfl rfl ?_))))))))))))
      refine zA (zV rfl (fun c5 => ?_) (fun c5 => ?_))
      ·
       refine zB (z8 (cs := [Vn 0, Vn 0, Vi 0, Vn 0, Vi 0, Vi 0]) (z := [Vn 0, Vn 0, Vi 0, Vn 0, Vi 0, Vi 0]) (pl := [(0, 1), (1, 1), (2, 1), (3, 1), (4, 1), (5, 1)]) (by kernel_rfl) (by kernel_rfl) rfl (zm 2 rfl rfl rfl (zw rfl) rfl (zH rfl (zA ?_))))
       exact zN (zy (cs := [Vn 0, Vn 0, Vi 0, Vn 0, Vi 0, Vi 0]) (v := Vi 13) rfl rfl rfl (by kernel_rfl) (Own.rowCells (i := 2) rfl) (fun w' hw => ⟨RepD.zero, 13, rfl, (by unfold zu; rw [if_neg (by omega), hg]; show (if (zG l i).seq < q then _ else if q < (zG l i).seq then _ else _) = _; rw [if_neg (by omega), if_pos (by omega)]), hw.sel [0, 1] rfl (by decide)⟩))
      ·
       refine zJ (zB (zC rfl (zt rfl rfl (zO (o := 0) rfl rfl (zU 0 (v := lv) rfl rfl rfl rfl (zC rfl (zF (pV 1 rfl) 6 i rfl rfl rfl (by omega) rfl (x2 (pV 1 rfl) 6 i (off := yK lv + i * 6) (fun _ => rfl) rfl rfl (by omega) rfl (zm 2 rfl rfl rfl (zw rfl) rfl (zH rfl (zA ?_)))))))))))
       exact zN (zy (cs := (RepD.cells (zG l i))) (v := Vi 0) rfl rfl rfl (by kernel_rfl) (Own.rowCells (i := 2) rfl) (fun w' hw => ⟨zG l i, 0, rfl, (by unfold zu; rw [if_neg (by omega), hg]; show (if (zG l i).seq < q then _ else if q < (zG l i).seq then _ else _) = _; rw [if_neg (by omega), if_neg (by omega)]), hw.sel [0, 1] rfl (by decide)⟩))
   ·
    refine yB rfl (zL (zB (zC rfl (zt rfl rfl (zO (o := 0) rfl rfl (zU 0 (v := lv) rfl rfl rfl rfl (yY (pV 1 rfl) rfl rfl (yU rfl rfl rfl (zA (zV rfl (fun c6 => ?_) (fun c6 => ?_)))))))))))
    ·
     refine zB (z8 (cs := [Vn 0, Vn 0, Vi 0, Vn 0, Vi 0, Vi 0]) (z := [Vn 0, Vn 0, Vi 0, Vn 0, Vi 0, Vi 0]) (pl := [(0, 1), (1, 1), (2, 1), (3, 1), (4, 1), (5, 1)]) (by kernel_rfl) (by kernel_rfl) rfl (zm 2 rfl rfl rfl (zw rfl) rfl (zH rfl (zA ?_))))
     exact zN (zy (cs := [Vn 0, Vn 0, Vi 0, Vn 0, Vi 0, Vi 0]) (v := Vi 7) rfl rfl rfl (by kernel_rfl) (Own.rowCells (i := 2) rfl) (fun w' hw => ⟨RepD.zero, 7, rfl, (by unfold zu; rw [if_neg (by omega), zJZ hI (by omega)]; show (if 32 ≤ (KR l).length then _ else _) = _; rw [if_pos (by rw [zEK]; omega)]), hw.sel [0, 1] rfl (by decide)⟩))
    ·
     refine zJ (zB (z8 (cs := [Vn 0, Vn 0, Vi 0, Vn 0, Vi 0, Vi 0]) (z := [Vn 0, Vn 0, Vi 0, Vn 0, Vi 0, Vi 0]) (pl := [(0, 1), (1, 1), (2, 1), (3, 1), (4, 1), (5, 1)]) (by kernel_rfl) (by kernel_rfl) rfl (zm 2 rfl rfl rfl (zw rfl) rfl (zH rfl (zA ?_)))))
     exact zN (zy (cs := [Vn 0, Vn 0, Vi 0, Vn 0, Vi 0, Vi 0]) (v := Vi 8) rfl rfl rfl (by kernel_rfl) (Own.rowCells (i := 2) rfl) (fun w' hw => ⟨RepD.zero, 8, rfl, (by unfold zu; rw [if_neg (by omega), zJZ hI (by omega)]; show (if 32 ≤ (KR l).length then _ else _) = _; rw [if_neg (by rw [zEK]; omega)]), hw.sel [0, 1] rfl (by decide)⟩))
theorem zDI {S : List Nat} (wb e : Nat) (z0 z1 z2 z3 : Value) (xs : List Value) (lv : Value) (l : List RepD) (r : RepD) (w : World) (ho : COk l) (hin : Own w S [Res.row wb e (z0 :: z1 :: z2 :: z3 :: lv :: xs), Res.vec 50 6 lv l.length (l.flatMap RepD.cells)] w) : Rets Tryz.prog 28 #[.pointer (some ⟨wb, 4, none⟩), .agg (RepD.cells r).toArray] w fun u_ w' => ∃ (er : Int) (lv' : Value) (l' : List RepD), u_ = Vi er ∧ er = x7 r (zu (KR l) r.session r.seq).2 ∧ l' = kO l r ∧ Own w S [Res.row wb e (z0 :: z1 :: z2 :: z3 :: lv' :: xs), Res.vec 50 6 lv' l'.length (l'.flatMap RepD.cells)] w' := by
  have hll := ho.len
  refine ze Tryz.func28 rfl Tryz.ntmps28 hin ?_
  refine zB (yj rfl rfl (fun b3 => zH rfl (zA (zL (zB (yN (cs := (RepD.cells r)) 2 rfl rfl rfl (zQ rfl rfl (fun w' hw => (zFs r w').mono ?_))))))))
  rintro _ w1 ⟨rfl, hO⟩
  refine (?_ : CL _ _ _ _ _ _ (Own w S [Res.row wb e (z0 :: z1 :: z2 :: z3 :: lv :: xs), Res.vec 50 6 lv l.length (l.flatMap RepD.cells), Res.row b3 50 (RepD.cells r)])) w1 (hw.frame0 hO)
  refine xn (q := r.ok) rfl rfl (zA (zV rfl (fun c1 => ?_) (fun c1 => ?_)))
  ·
   refine zB (zH rfl (zA ?_))
   exact zN (z4 (v := Vi 2) rfl rfl (fun w' hw => ⟨2, lv, l, rfl, (zGO c1 l).1, (zGO c1 l).2, hw.sel [0, 1] rfl (by decide)⟩))
  ·
   refine zJ (zB (zC rfl (zO (o := 0) rfl rfl (zU 2 (v := Vn r.session) rfl rfl rfl rfl (zO (o := 1) rfl rfl (zU 2 (v := Vn r.seq) rfl rfl rfl rfl (zQ rfl rfl (fun w' hw => (zBh wb e z0 z1 z2 z3 (xs) lv l r.session r.seq w' ‹_› (hw.give [0, 1] rfl (by decide))).mono ?_))))))))
   rintro _ w1 ⟨x1_, er2_, rfl, hf3_5, hO⟩
   have hfe : (zu (KR l) r.session r.seq).2 = er2_ := congrArg Prod.snd hf3_5
   refine (?_ : CL _ _ _ _ _ _ (Own w S [Res.row b3 50 (RepD.cells r), Res.row wb e (z0 :: z1 :: z2 :: z3 :: lv :: xs), Res.vec 50 6 lv l.length (l.flatMap RepD.cells)])) w1 (hw.frameL [0, 1] rfl hO)
   refine zC rfl (zr (vs := [.agg (RepD.cells x1_).toArray, Vi er2_]) rfl rfl rfl (zr (vs := [.agg (RepD.cells x1_).toArray, Vi er2_]) rfl rfl rfl (yG (v := .agg #[Vn 0, Vn 0, Vi 0, Vn 0, Vi 0, Vi 0]) (by kernel_rfl) rfl (fun b5 => zm 3 rfl rfl rfl (zw rfl) rfl (zH rfl (zA (zL (zB (zC rfl (yV rfl rfl rfl (zA (zV rfl (fun c2 => ?_) (fun c2 => ?_)))))))))))))
   ·
    refine zB (zH rfl (zA ?_))
    exact zN (z4 (v := Vi 9) rfl rfl (fun w' hw => ⟨9, lv, l, rfl, (by rw [← (zC3 c1 hfe (by omega)).1, if_pos c2]), (zC3 c1 hfe (by omega)).2, hw.sel [1, 2] rfl (by decide)⟩))
   ·
    refine zJ (zL (zB (zC rfl (jK rfl rfl rfl (zA (zV rfl (fun c3 => ?_) (fun c3 => ?_)))))))
    ·
     refine zB (zC rfl (zH rfl (zA ?_)))
     exact zN (z4 (v := Vi er2_) rfl rfl (fun w' hw => ⟨er2_, lv, l, rfl, (by rw [← (zC3 c1 hfe c3).1, if_neg c2]), (zC3 c1 hfe c3).2, hw.sel [1, 2] rfl (by decide)⟩))
    ·
     refine zJ (zB (zH rfl (zA (zB (zH rfl (zA (zL (zB (zH rfl (zA (zW ?_)))))))))))
     refine zCn (fun (i : Nat) (p : Bool) (ov : Value) (os : List RepD) => [(0, .pointer (some ⟨wb, 4, none⟩)), (3, .pointer (some ⟨b3, 0, none⟩)), (7, ov), (8, .bool p), (9, Vj i)]) (fun (i : Nat) (p : Bool) (ov : Value) (os : List RepD) => i ≤ l.length ∧ InsI r l i p os) (fun (i : Nat) (p : Bool) (ov : Value) (os : List RepD) => [Res.row b3 50 (RepD.cells r), Res.row wb e (z0 :: z1 :: z2 :: z3 :: lv :: xs), Res.vec 50 6 lv l.length (l.flatMap RepD.cells), Res.row b5 50 (RepD.cells x1_), Res.vec 50 6 ov os.length (os.flatMap RepD.cells)]) (fun (i : Nat) (p : Bool) (ov : Value) (os : List RepD) => l.length - i) (fun w' hw => ⟨0, false, .slice none 0 0, [], ⟨rfl, rfl, rfl, rfl, rfl, trivial⟩, ⟨Nat.zero_le _, InsI.start _ _⟩, (yZ hw 50 6)⟩) (fun i p ov os g hΦ => ?_)
     have hi := hΦ.1
     have hI := hΦ.2
     have hol := hI.len
     refine zL (zB (zC rfl (zC rfl (zt rfl rfl (zO (o := 0) rfl rfl (zU 1 (v := lv) rfl rfl rfl rfl (yY (pV 2 rfl) rfl rfl (z9 rfl rfl rfl (zA (zV rfl (fun c4 => ?_) (fun c4 => ?_)))))))))))
     ·
      refine zJ (zL (zW (zL (xN (by kernel_rfl) (by kernel_rfl) (zb rfl (zK) (zb rfl (zGI (b := p) rfl) (zb rfl (zK) (zES (q := (!p) = true) 11 2 [49, 48, 47, 46, 45, 44, 43, 42, 41, 40, 39] (((r.session : Nat) : Int) ≤ (((zG l i).session : Nat) : Int)) rfl rfl (y3 _) rfl rfl rfl trivial rfl (fun h13_2 => ?_) (fun g13_14 => ?_)))))))))
      ·
       refine y7 rfl (bT h13_2) (zb rfl (zK) (y7 rfl (bT h13_2) (zb rfl (zq rfl) (y7 rfl (bT h13_2) (zb rfl (zc (o := 0) rfl) (y7 rfl (bT h13_2) (zb rfl (zl 1 (v := lv) rfl rfl rfl) (y7 rfl (bT h13_2) (zb rfl (zK) (y7 rfl (bT h13_2) (zb rfl (z7 (pV 2 rfl) 6 i rfl rfl rfl (by omega)) (y7 rfl (bT h13_2) ?_))))))))))))
       refine zb rfl (zc (o := 0) rfl) (y7 rfl (bT h13_2) (zb rfl (yT (pV 2 rfl) 6 i 0 (off := yK lv + i * 6 + 0) (fun _ => rfl) rfl (by omega) (by omega) rfl) (y7 rfl (bT h13_2) (zb rfl (zc (o := 0) rfl) (y7 rfl (bT h13_2) (zb rfl (zl 0 (v := Vn r.session) rfl rfl rfl) (y7 rfl (bT h13_2) (zb rfl (zHc rfl rfl) ?_))))))))
       exact zFW rfl
      refine js (zV rfl (fun c5 => ?_) (fun c5 => ?_))
      ·
       refine zB (zC rfl (yN (cs := (RepD.cells r)) 0 rfl rfl rfl (yh (e := 50) (sz := 6) (vs := [.agg (RepD.cells r).toArray]) (by kernel_rfl) rfl rfl (by simp [Value.cells, RepD.cells]) (by decide) rfl (fun b53 => yq (g := RepD.cells) (sz := 6) (by' := 48) (fun _ => rfl) (l := os) (l' := [r]) (by simp [cell1, RepD.cells, vu]) 4 (by kernel_rfl) rfl rfl rfl (fun w' hw' => Vec.sl (Own.holds hw' 5 _ rfl)) (by first | omega | (simp; omega)) (by decide) rfl (fun v54 => zH rfl (zA (zY (zH rfl (zA (xN (by kernel_rfl) (by kernel_rfl) (zb rfl (zK) (zb rfl (zq rfl) ?_))))))))))))
       refine zb rfl (zc (o := 0) rfl) (zb rfl (zl 1 (v := lv) rfl rfl rfl) (zb rfl (zK) (zb rfl (z7 (pV 2 rfl) 6 i rfl rfl rfl (by omega)) (zb rfl (zc (o := 0) rfl) (zb rfl (yT (pV 2 rfl) 6 i 0 (off := yK lv + i * 6 + 0) (fun _ => rfl) rfl (by omega) (by omega) rfl) (zb rfl (zc (o := 0) rfl) (zb rfl (zl 0 (v := Vn r.session) rfl rfl rfl) (zb rfl (zLl rfl rfl) (js (zV rfl (fun c6 => ?_) (fun c6 => ?_)))))))))))
       ·
        refine zY (zC rfl (zC rfl (zt rfl rfl (zO (o := 0) rfl rfl (zU 1 (v := lv) rfl rfl rfl rfl (zC rfl (zF (pV 2 rfl) 6 i rfl rfl rfl (by omega) rfl (x2 (pV 2 rfl) 6 i (off := yK lv + i * 6) (fun _ => rfl) rfl rfl (by omega) rfl (yh (e := 50) (sz := 6) (vs := [.agg (RepD.cells (zG l i)).toArray]) (by kernel_rfl) rfl rfl (by simp [Value.cells, RepD.cells]) (by decide) rfl (fun b74 => yq (g := RepD.cells) (sz := 6) (by' := 48) (fun _ => rfl) (l := os ++ [r]) (l' := [(zG l i)]) (by simp [cell1, RepD.cells, vu]) 4 (by kernel_rfl) rfl rfl rfl (fun w' hw' => Vec.sl (Own.holds hw' 6 _ rfl)) (by first | omega | (simp; omega)) (by decide) rfl (fun v75 => zH rfl (zA ?_))))))))))))
        refine zY (zC rfl (zn rfl rfl (zh (by omega)) rfl (zH rfl ?_)))
        exact zd (fun w' hw => ⟨i + 1, true, v75, os ++ [r] ++ [zG l i], ⟨rfl, rfl, rfl, rfl, rfl, trivial⟩, ⟨by omega, by have h := hI.put (by omega) (zJ6 c5.1) (by omega); rwa [if_pos (by omega)] at h⟩, hw.sel [0, 1, 2, 3, 4] rfl (by decide), (by omega)⟩)
       ·
        refine zJ (zY (zC rfl (zn rfl rfl (zh (by omega)) rfl (zH rfl ?_))))
        exact zd (fun w' hw => ⟨i + 1, true, v54, os ++ [r], ⟨rfl, rfl, rfl, rfl, rfl, trivial⟩, ⟨by omega, by have h := hI.put (by omega) (zJ6 c5.1) (by omega); rwa [if_neg (by omega), List.append_nil] at h⟩, hw.sel [0, 1, 2, 3, 4] rfl (by decide), (by omega)⟩)
      ·
       refine zJ (xN (by kernel_rfl) (by kernel_rfl) (zb rfl (zK) (zb rfl (zq rfl) (zb rfl (zc (o := 0) rfl) (zb rfl (zl 1 (v := lv) rfl rfl rfl) (zb rfl (zK) (zb rfl (z7 (pV 2 rfl) 6 i rfl rfl rfl (by omega)) (zb rfl (zc (o := 0) rfl) (zb rfl (yT (pV 2 rfl) 6 i 0 (off := yK lv + i * 6 + 0) (fun _ => rfl) rfl (by omega) (by omega) rfl) (zb rfl (zc (o := 0) rfl) (zb rfl (zl 0 (v := Vn r.session) rfl rfl rfl) (zb rfl (zLl rfl rfl) ?_))))))))))))
       refine js (zV rfl (fun c7 => ?_) (fun c7 => ?_))
       ·
        refine zY (zC rfl (zC rfl (zt rfl rfl (zO (o := 0) rfl rfl (zU 1 (v := lv) rfl rfl rfl rfl (zC rfl (zF (pV 2 rfl) 6 i rfl rfl rfl (by omega) rfl (x2 (pV 2 rfl) 6 i (off := yK lv + i * 6) (fun _ => rfl) rfl rfl (by omega) rfl (yh (e := 50) (sz := 6) (vs := [.agg (RepD.cells (zG l i)).toArray]) (by kernel_rfl) rfl rfl (by simp [Value.cells, RepD.cells]) (by decide) rfl (fun b74 => yq (g := RepD.cells) (sz := 6) (by' := 48) (fun _ => rfl) (l := os) (l' := [(zG l i)]) (by simp [cell1, RepD.cells, vu]) 4 (by kernel_rfl) rfl rfl rfl (fun w' hw' => Vec.sl (Own.holds hw' 5 _ rfl)) (by first | omega | (simp; omega)) (by decide) rfl (fun v75 => zH rfl (zA ?_))))))))))))
        refine zY (zC rfl (zn rfl rfl (zh (by omega)) rfl (zH rfl ?_)))
        exact zd (fun w' hw => ⟨i + 1, p, v75, os ++ [zG l i], ⟨rfl, rfl, rfl, rfl, rfl, trivial⟩, ⟨by omega, (hI.more ho.up (by omega) (fun q => c5 ⟨zJU q.1, by omega⟩)).1⟩, hw.sel [0, 1, 2, 3, 4] rfl (by decide), (by omega)⟩)
       ·
        refine zJ (zY (zC rfl (zn rfl rfl (zh (by omega)) rfl (zH rfl ?_))))
        exact zd (fun w' hw => ⟨i + 1, p, ov, os, ⟨rfl, rfl, rfl, rfl, rfl, trivial⟩, ⟨by omega, absurd (hI.more ho.up (by omega) (fun q => c5 ⟨zJU q.1, by omega⟩)).2 (by omega)⟩, hw, (by omega)⟩)
     ·
      refine yB rfl (zL (zB (zC rfl (kz (b := p) rfl rfl (zA (jm rfl (fun c8 => ?_) (fun c8 => ?_)))))))
      ·
       refine zY (zC rfl (yN (cs := (RepD.cells r)) 0 rfl rfl rfl (yh (e := 50) (sz := 6) (vs := [.agg (RepD.cells r).toArray]) (by kernel_rfl) rfl rfl (by simp [Value.cells, RepD.cells]) (by decide) rfl (fun b80 => yq (g := RepD.cells) (sz := 6) (by' := 48) (fun _ => rfl) (l := os) (l' := [r]) (by simp [cell1, RepD.cells, vu]) 4 (by kernel_rfl) rfl rfl rfl (fun w' hw' => Vec.sl (Own.holds hw' 5 _ rfl)) (by first | omega | (simp; omega)) (by decide) rfl (fun v81 => zH rfl (zA (zB (zC rfl (zC rfl (zt rfl rfl (zO (o := 0) rfl rfl ?_)))))))))))
       refine xc (fun w' hw => Own.cell1Vec (i := 4) rfl hw) (fun hc1_ => ?_)
       refine yn (cs := (z0 :: z1 :: z2 :: z3 :: lv :: xs)) 1 rfl rfl rfl hc1_ rfl (zA (zB (zH rfl (zA ?_))))
       exact zN (z4 (v := Vi 0) rfl rfl (fun w' hw => ⟨0, v81, os ++ [r], rfl, (zC9 c1 hfe c3).1, (by rw [← (zC9 c1 hfe c3).2, ← hI.done (by omega), if_pos (zJ6 c8)]), hw.sel [1, 4] rfl (by decide)⟩))
      ·
       refine zJ (zB (zC rfl (zC rfl (zt rfl rfl (zO (o := 0) rfl rfl ?_)))))
       refine xc (fun w' hw => Own.cell1Vec (i := 4) rfl hw) (fun hc2_ => ?_)
       refine yn (cs := (z0 :: z1 :: z2 :: z3 :: lv :: xs)) 1 rfl rfl rfl hc2_ rfl (zA (zB (zH rfl (zA ?_))))
       exact zN (z4 (v := Vi 0) rfl rfl (fun w' hw => ⟨0, ov, os, rfl, (zC9 c1 hfe c3).1, (by rw [← (zC9 c1 hfe c3).2, ← hI.done (by omega), if_neg (by cases p <;> simp_all), List.append_nil]), hw.sel [1, 4] rfl (by decide)⟩))
theorem zHb (r s : RepD) : eqL [(0, some (some .u64)), (1, some (some .u64)), (2, some (some .i64)), (3, some (some .u64)), (4, some (some .i64)), (5, some (some .i64))] r.cells s.cells = decide (r = s) := by
  obtain ⟨a, b, c, d, e, f⟩ := r
  obtain ⟨a', b', c', d', e', f'⟩ := s
  simp [eqL, RepD.cells, eqC, RepD.mk.injEq, Bool.decide_and]
  have h : ∀ m n : Nat, decide ((m : Int) = n) = decide (m = n) := fun m n => decide_eq_decide.2 (by omega)
  simp only [h]
theorem zFR (l : List RepD) (r : RepD) : ∀ x ∈ kO l r, x ∈ l ∨ x = r := by
  unfold kO
  split
  · intro x hx
    unfold zCt at hx
    rcases List.mem_append.1 hx with q | q
    · exact .inl (List.mem_filter.1 q).1
    · rcases List.mem_cons.1 q with q | q
      · exact .inr q
      · exact .inl (List.mem_filter.1 q).1
  · exact fun _ => .inl
structure DActD where
  kind : Int
  r : RepD
def DActD.cells (x : DActD) : List Value := .int .i64 x.kind :: x.r.cells
instance : Inhabited DActD := ⟨⟨0, RepD.zero⟩⟩
end Go.Proofs.YtcdiehplbmkmeaaGreat
