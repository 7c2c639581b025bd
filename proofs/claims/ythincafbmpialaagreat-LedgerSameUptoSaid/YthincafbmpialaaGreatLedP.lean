import Derived.Test.YthincafbmpialaaGreatLDup
import Derived.Test.YthincafbmpialaaGreatQuotaP
set_option linter.unusedSectionVars false
set_option linter.unusedSimpArgs false
set_option linter.unusedVariables false
set_option maxRecDepth 10000
namespace Go.Proofs.YthincafbmpialaaGreat
open Go Go.Sc Go.Proofs
def KR (l : List RepD) : List (Nat × RepD) := l.map fun r => (r.session, r)
theorem zGr (l : List RepD) : (KR l).length = l.length := by simp [KR]
structure COk (l : List RepD) : Prop where
  up : (l.map (·.session)).Pairwise (· < ·)
  each : ∀ r ∈ l, r.ok ∧ 1 ≤ r.session ∧ 1 ≤ r.seq
  len : l.length ≤ 32
def CRel (kl : List (Nat × RepD)) (l : List RepD) : Prop := kl.Perm (KR l)
section
variable {kl : List (Nat × RepD)} {l : List RepD} {r : RepD} {s q : Nat}
theorem zJ2 (h : (l.map (·.session)).Pairwise (· < ·)) : KNd (KR l) := by
  unfold KNd KR; rw [List.map_map]
  exact h.imp fun q => by omega
theorem COk.nd (h : COk l) (hr : CRel kl l) : KNd kl := (zJ2 h.up).perm hr.symm
theorem zEZ (h : COk l) (hr : CRel kl l) (s q : Nat) : yN kl s q = yN (KR l) s q := by
  unfold yN; rw [kf (h.nd hr) hr, hr.length_eq]
theorem zIv (h : (l.map (·.session)).Pairwise (· < ·)) (hm : r ∈ l) : zm r.session (KR l) = some r := jZ (zJ2 h) (List.mem_map.2 ⟨r, hm, rfl⟩)
theorem zEM (hg : zm s (KR l) = some r) : r ∈ l ∧ r.session = s := by
  have := jx hg
  obtain ⟨x, hx, e⟩ := List.mem_map.1 this
  simp only [Prod.mk.injEq] at e
  exact ⟨e.2 ▸ hx, e.2 ▸ e.1⟩
def zD8 (r : RepD) (l : List RepD) : List RepD := l.filter (fun x => decide (x.session < r.session)) ++ r :: l.filter (fun x => decide (r.session < x.session))
def zBh (l : List RepD) (r : RepD) : List RepD := if r.ok ∧ (yN (KR l) r.session r.seq).2 = 8 then zD8 r l else l
theorem zHu (s : Nat) : ∀ l : List RepD, (l.filter fun x => decide (x.session ≠ s)).Perm (l.filter (fun x => decide (x.session < s)) ++ l.filter (fun x => decide (s < x.session)))
  | [] => .refl _
  | a :: l => by
    have ih := zHu s l
    rcases Nat.lt_trichotomy a.session s with h | h | h
    · rw [List.filter_cons_of_pos (by simp; omega), List.filter_cons_of_pos (by simp; omega), List.filter_cons_of_neg (by simp; omega)]
      exact ih.cons _
    · rw [List.filter_cons_of_neg (by simp; omega), List.filter_cons_of_neg (by simp; omega), List.filter_cons_of_neg (by simp; omega)]
      exact ih
    · rw [List.filter_cons_of_pos (by simp; omega), List.filter_cons_of_neg (by simp; omega), List.filter_cons_of_pos (by simp; omega)]
      exact (ih.cons _).trans List.perm_middle.symm
theorem zBT (r : RepD) (l : List RepD) : (zD8 r l).Perm (r :: l.filter fun x => decide (x.session ≠ r.session)) := by
  unfold zD8
  exact List.perm_middle.trans ((zHu r.session l).symm.cons _)
theorem zF5 (s : Nat) (l : List RepD) : KR (l.filter fun x => decide (x.session ≠ s)) = (KR l).filter fun p => decide (p.1 ≠ s) := by
  unfold KR; rw [List.filter_map]; rfl
theorem zIJ (h : COk l) (hr : CRel kl l) (r : RepD) : CRel (jd kl r) (zBh l r) := by
  unfold jd zBh
  rw [zEZ h hr]
  split
  · refine (kc (h.nd hr)).trans ?_
    refine List.Perm.trans ?_ ((zBT r l).map fun r => (r.session, r)).symm
    rw [List.map_cons]
    refine List.Perm.cons _ ?_
    have e := zF5 r.session l
    unfold KR at e
    rw [e]
    exact List.Perm.filter _ hr
  · exact hr
theorem zEt {kl : List (Nat × RepD)} (h : (yN kl s q).2 = 8) : s ≠ 0 ∧ q ≠ 0 := by
  unfold yN at h
  split at h
  · cases h
  · omega
theorem zH2 (h : COk l) (r : RepD) : COk (zBh l r) := by
  unfold zBh
  split
  · rename_i c
    obtain ⟨c1, c2⟩ := c
    have hn := zEt c2
    have hp := zBT r l
    refine ⟨?_, fun x hx => ?_, ?_⟩
    · unfold zD8
      rw [List.map_append, List.map_cons, List.pairwise_append, List.pairwise_cons]
      refine ⟨h.up.sublist (List.filter_sublist.map _), ⟨fun a ha => ?_, h.up.sublist (List.filter_sublist.map _)⟩, fun a ha b hb => ?_⟩
      · obtain ⟨x, hx, rfl⟩ := List.mem_map.1 ha
        simpa using (List.mem_filter.1 hx).2
      · obtain ⟨x, hx, rfl⟩ := List.mem_map.1 ha
        have h1 : x.session < r.session := by simpa using (List.mem_filter.1 hx).2
        rcases List.mem_cons.1 hb with rfl | hb
        · exact h1
        · obtain ⟨y, hy, rfl⟩ := List.mem_map.1 hb
          have h2 : r.session < y.session := by simpa using (List.mem_filter.1 hy).2
          omega
    · rcases List.mem_cons.1 (hp.mem_iff.1 hx) with rfl | hx
      · exact ⟨c1, by omega, by omega⟩
      · exact h.each x (List.mem_filter.1 hx).1
    · rw [hp.length_eq, List.length_cons]
      have h1 := h.len
      have h2 := List.length_filter_le (fun x : RepD => decide (x.session ≠ r.session)) l
      cases hg : zm r.session (KR l) with
      | none =>
        unfold yN at c2
        rw [if_neg (by omega), hg] at c2
        have c3 : (if 32 ≤ (KR l).length then (RepD.zero, (7 : Int)) else (RepD.zero, 8)).2 = 8 := c2
        split at c3
        · cases c3
        · rw [zGr] at *; omega
      | some x =>
        obtain ⟨hx, hs⟩ := zEM hg
        have : (l.filter fun x => decide (x.session ≠ r.session)).length < l.length := by
          refine Nat.lt_of_le_of_ne h2 fun q => ?_
          have := List.length_filter_eq_length_iff.1 q x hx
          simp at this; exact this hs
        omega
  · exact h
theorem COk.start : COk [] := ⟨by simp, by simp, by simp⟩
theorem CRel.start : CRel [] [] := .refl _
theorem zH9 : ∀ {l m : List Nat}, l.Perm m → l.Pairwise (fun x y => x ≤ y) → m.Pairwise (· < ·) → l = m := fun hp h1 h2 =>
  hp.eq_of_pairwise (fun a b _ _ h3 h4 => Nat.le_antisymm h3 h4) h1 (h2.imp fun q => by omega)
theorem zKu (h : COk l) (hr : CRel kl l) {ks : List Nat} (h1 : ks.Perm (kl.map (·.1))) (h2 : ks.Pairwise fun x y => x ≤ y) : ks.map (fun k => (zm k kl).getD RepD.zero) = l := by
  have e : ks = l.map (·.session) := by
    refine zH9 (h1.trans ?_) h2 h.up
    have := hr.map (·.1)
    refine this.trans ?_
    unfold KR; rw [List.map_map]; exact .refl _
  rw [e, List.map_map]
  conv => rhs; rw [← List.map_id l]
  refine List.map_congr_left fun x hx => ?_
  show (zm x.session kl).getD RepD.zero = x
  rw [kf (h.nd hr) hr, zIv h.up hx]; rfl
def InsI (r : RepD) (l : List RepD) (i : Nat) (p : Bool) (os : List RepD) : Prop :=
  (p = false ∧ os = l.take i ∧ ∀ x ∈ l.take i, x.session < r.session) ∨
  (p = true ∧ os = (l.take i).filter (fun x => decide (x.session < r.session)) ++ r :: (l.take i).filter (fun x => decide (r.session < x.session)) ∧ ∃ x ∈ l.take i, r.session ≤ x.session)
theorem InsI.start (r : RepD) (l : List RepD) : InsI r l 0 false [] := .inl ⟨rfl, rfl, by simp⟩
theorem zH8 {l : List RepD} {s : Nat} (h : ∀ x ∈ l, x.session < s) : l.filter (fun x => decide (x.session < s)) = l ∧ l.filter (fun x => decide (s < x.session)) = [] :=
  ⟨List.filter_eq_self.2 fun x hx => by simpa using h x hx, List.filter_eq_nil_iff.2 fun x hx => by have := h x hx; simp; omega⟩
theorem zLR (h : (l.map (·.session)).Pairwise (· < ·)) {i : Nat} (hi : i < l.length) {x : RepD} (hx : x ∈ l.take i) : x.session < (zI l i).session := by
  obtain ⟨j, hj, e⟩ := List.mem_iff_getElem.1 hx
  have hj' : j < i := by rw [List.length_take] at hj; omega
  have := List.pairwise_iff_getElem.1 h j i (by rw [List.length_map]; omega) (by rw [List.length_map]; exact hi) hj'
  rw [List.getElem_map, List.getElem_map] at this
  rw [List.getElem_take] at e
  have e2 := xf (List.getElem?_eq_getElem hi)
  rw [e2, ← e]; exact this
theorem InsI.put {i : Nat} {p : Bool} {os : List RepD} (h : InsI r l i p os) (hi : i < l.length) (hp : p = false) (hge : r.session ≤ (zI l i).session) : InsI r l (i + 1) true (os ++ [r] ++ if (zI l i).session ≠ r.session then [zI l i] else []) := by
  rcases h with ⟨_, h2, h3⟩ | ⟨h1, _⟩
  · obtain ⟨f1, f2⟩ := zH8 h3
    refine .inr ⟨rfl, ?_, zI l i, by rw [yD hi]; simp, hge⟩
    rw [yD hi, List.filter_append, List.filter_append, f1, f2, List.filter_cons_of_neg (by simp; omega), List.filter_nil, List.append_nil, List.nil_append, h2, List.append_assoc]
    congr 1
    by_cases c : (zI l i).session ≠ r.session
    · rw [if_pos c, List.filter_cons_of_pos (by simp; omega)]; rfl
    · rw [if_neg c, List.filter_cons_of_neg (by simp; omega)]; rfl
  · rw [hp] at h1; cases h1
theorem InsI.more (hu : (l.map (·.session)).Pairwise (· < ·)) {i : Nat} {p : Bool} {os : List RepD} (h : InsI r l i p os) (hi : i < l.length) (hn : ¬ (p = false ∧ r.session ≤ (zI l i).session)) : InsI r l (i + 1) p (os ++ [zI l i]) ∧ (zI l i).session ≠ r.session := by
  rcases h with ⟨h1, h2, h3⟩ | ⟨h1, h2, y, hy, h3⟩
  · have hlt : (zI l i).session < r.session := Nat.not_le.1 fun q => hn ⟨h1, q⟩
    refine ⟨.inl ⟨h1, by rw [h2, yD hi], fun x hx => ?_⟩, by omega⟩
    rw [yD hi] at hx
    rcases List.mem_append.1 hx with q | q
    · exact h3 x q
    · rw [List.mem_singleton.1 q]; exact hlt
  · have hgt := zLR hu hi hy
    refine ⟨.inr ⟨h1, ?_, y, by rw [yD hi]; exact List.mem_append_left _ hy, h3⟩, by omega⟩
    rw [yD hi, List.filter_append, List.filter_append, List.filter_cons_of_neg (by simp; omega), List.filter_nil, List.append_nil, List.filter_cons_of_pos (by simp; omega), List.filter_nil, h2, List.append_assoc]
    rfl
theorem InsI.done {i : Nat} {p : Bool} {os : List RepD} (h : InsI r l i p os) (hi : l.length ≤ i) : os ++ (if p = false then [r] else []) = zD8 r l := by
  unfold InsI at h
  rw [List.take_of_length_le hi] at h
  rcases h with ⟨h1, h2, h3⟩ | ⟨h1, h2, _⟩
  · obtain ⟨f1, f2⟩ := zH8 h3
    unfold zD8; rw [f1, f2, if_pos h1, h2]
  · rw [h1, if_neg (by decide), List.append_nil, h2]; rfl
theorem InsI.len {i : Nat} {p : Bool} {os : List RepD} (h : InsI r l i p os) : os.length ≤ l.length + 1 := by
  rcases h with ⟨h1, h2, h3⟩ | ⟨h1, h2, _⟩
  · rw [h2, List.length_take]; omega
  · have hp := zBT r (l.take i)
    have : os = zD8 r (l.take i) := h2
    rw [this, hp.length_eq, List.length_cons]
    have := List.length_filter_le (fun x : RepD => decide (x.session ≠ r.session)) (l.take i)
    rw [List.length_take] at this; omega
end
theorem zF4 (l : List RepD) (r : RepD) : ∀ x ∈ zBh l r, x ∈ l ∨ x = r := by
  unfold zBh
  split
  · intro x hx
    unfold zD8 at hx
    rcases List.mem_append.1 hx with q | q
    · exact .inl (List.mem_filter.1 q).1
    · rcases List.mem_cons.1 q with q | q
      · exact .inr q
      · exact .inl (List.mem_filter.1 q).1
  · exact fun _ => .inl
structure DActD where
  kind : Int
  r : RepD
def DActD.cells (x : DActD) : List Value := .int .i64 x.kind :: x.r.cells
instance : Inhabited DActD := ⟨⟨0, RepD.zero⟩⟩
def kI (c : CmdD) (e : Int) : RepD := ⟨c.session, c.seq, e, 0, 0, 0⟩
def jc (c : CmdD) (x : LeaD) (e : Int) : RepD := if e ≠ 0 then kI c e else ⟨c.session, c.seq, 0, x.id, x.amount, x.until_⟩
def zIR (c : CmdD) (e n : Int) : RepD := ⟨c.session, c.seq, e, 0, if e = 0 then n else 0, 0⟩
def zJI (now : Int) (cnt : Nat) (kb : List (ByteArray × Int)) (kl : List (Nat × LeaD)) (c : CmdD) (r : RepD) (cnt' : Nat) (kb' : List (ByteArray × Int)) (kl' : List (Nat × LeaD)) : Prop :=
  (c.op = 1 ∧ r = zIR c (kX c.key c.amount kb) (yS c.key kl) ∧ cnt' = cnt ∧ kb' = zCq c.key c.amount kb ∧ kl' = kl)
  ∨ (c.op = 2 ∧ ∃ x e, e = xz c.session c.key c.amount c.span kb kl ∧ x = j0 e cnt c.session c.key c.amount (now + c.span) ∧ r = jc c x e ∧ cnt' = zCi e cnt ∧ kb' = kb ∧ kl' = zFU e x kl)
  ∨ (c.op = 3 ∧ ∃ x e, zBP now kb kl c.session c.lease c.span x e kl' ∧ r = jc c x e ∧ cnt' = cnt ∧ kb' = kb)
  ∨ (c.op = 4 ∧ ∃ x e, zEA kl c.session c.lease x e kl' ∧ r = jc c x e ∧ cnt' = cnt ∧ kb' = kb)
  ∨ (((c.op ≠ 1 ∧ c.op ≠ 2) ∧ c.op ≠ 3 ∧ c.op ≠ 4) ∧ r = kI c 0 ∧ cnt' = cnt ∧ kb' = kb ∧ kl' = kl)
def zIz (now : Int) (cnt : Nat) (bs : List BudD) (ls : List LeaD) (c : CmdD) (r : RepD) (cnt' : Nat) (bs' : List BudD) (ls' : List LeaD) : Prop :=
  (c.op = 1 ∧ r = zIR c (zFM c.key c.amount bs) (kG c.key ls) ∧ cnt' = cnt ∧ bs' = zEX c.key c.amount bs ∧ ls' = ls)
  ∨ (c.op = 2 ∧ ∃ x e, e = jt c.session c.key c.amount c.span bs ls ∧ x = j0 e cnt c.session c.key c.amount (now + c.span) ∧ r = jc c x e ∧ cnt' = zCi e cnt ∧ bs' = bs ∧ ls' = zCU e x ls)
  ∨ (c.op = 3 ∧ ∃ x e, zE4 now bs ls c.session c.lease c.span x e ls' ∧ r = jc c x e ∧ cnt' = cnt ∧ bs' = bs)
  ∨ (c.op = 4 ∧ ∃ x e, zHE ls c.session c.lease x e ls' ∧ r = jc c x e ∧ cnt' = cnt ∧ bs' = bs)
  ∨ (((c.op ≠ 1 ∧ c.op ≠ 2) ∧ c.op ≠ 3 ∧ c.op ≠ 4) ∧ r = kI c 0 ∧ cnt' = cnt ∧ bs' = bs ∧ ls' = ls)
structure LOkR (now : Int) (cnt : Nat) (bs : List BudD) (ls : List LeaD) (rs : List RepD) : Prop where
  q : QOk now cnt bs ls
  s : QSrt bs
  c : COk rs
  w : ∀ r ∈ rs, r.wf
  n : cnt ≤ 1000000000
  a : ∀ l ∈ ls, l.session < 18446744073709551616
structure LRel (kb : List (ByteArray × Int)) (kl : List (Nat × LeaD)) (kr : List (Nat × RepD)) (bs : List BudD) (ls : List LeaD) (rs : List RepD) : Prop where
  q : QRel kb kl bs ls
  c : CRel kr rs
section
variable {now : Int} {cnt cnt' cnt2 : Nat} {kb kb' : List (ByteArray × Int)} {kl kl' : List (Nat × LeaD)} {kr kr' : List (Nat × RepD)} {bs bs' : List BudD} {ls ls' : List LeaD} {rs rs' : List RepD} {c : CmdD} {r s : RepD}
theorem zES {e : Int} {t : Int} (hc : cnt ≤ 1000000000) (ha : xD c.amount) (ht : xD t) : ∀ x, x = j0 e cnt c.session c.key c.amount t → x.id < 18446744073709551616 ∧ xD x.amount ∧ xD x.until_ := by
  rintro x rfl
  unfold j0
  split
  · exact ⟨by show cnt + 1 < _; omega, ha, ht⟩
  · exact ⟨by decide, by unfold xD; decide, by unfold xD; decide⟩
theorem zAJ {x : LeaD} {e : Int} (hc : c.wf) (h : x.id < 18446744073709551616 ∧ xD x.amount ∧ xD x.until_) : (jc c x e).wf := by
  unfold jc kI
  split
  · exact ⟨hc.session, hc.seq, by show (0 : Nat) < _; omega, by show xD 0; unfold xD; decide, by show xD 0; unfold xD; decide⟩
  · exact ⟨hc.session, hc.seq, h.1, h.2.1, h.2.2⟩
theorem xP {e : Int} (hc : c.wf) : (kI c e).wf := ⟨hc.session, hc.seq, by show (0 : Nat) < _; omega, by show xD 0; unfold xD; decide, by show xD 0; unfold xD; decide⟩
theorem zDw (h : QOk now cnt bs ls) (hc : cnt ≤ 1000000000) : ∀ x ∈ ls, x.id < 18446744073709551616 ∧ xD x.amount ∧ xD x.until_ := fun x hx => by
  have h0 := h.lok x hx
  have h1 := h.sums x.key
  have h2 := jG (k := x.key) (List.singleton_sublist.2 hx) h.pos
  have h3 := h.time
  simp only [ye, if_true] at h2
  unfold xD
  omega
theorem zJW (h : LOkR now cnt bs ls rs) (hr : QRel kb kl bs ls) (hc : c.wf) (h1 : zJI now cnt kb kl c r cnt' kb' kl') (h2 : zIz now cnt bs ls c s cnt2 bs' ls') :
    r = s ∧ cnt' = cnt2 ∧ QRel kb' kl' bs' ls' ∧ QOk now cnt2 bs' ls' ∧ QSrt bs' ∧ r.wf ∧ cnt2 ≤ cnt + 1 := by
  have ho := h.q
  have hcn := h.n
  have ht := ho.time
  rcases h1 with ⟨o, h1⟩ | ⟨o, x, e, e1, x1, h1⟩ | ⟨o, x, e, k1, h1⟩ | ⟨o, x, e, k1, h1⟩ | ⟨o, h1⟩ <;> rcases h2 with ⟨p, h2⟩ | ⟨p, y, f, f1, y1, h2⟩ | ⟨p, y, f, k2, h2⟩ | ⟨p, y, f, k2, h2⟩ | ⟨p, h2⟩ <;> first | (exfalso; omega) | skip
  · obtain ⟨rfl, rfl, rfl, rfl⟩ := h1
    obtain ⟨rfl, rfl, rfl, rfl⟩ := h2
    have e : zIR c (kX c.key c.amount kb) (yS c.key kl') = zIR c (zFM c.key c.amount bs) (kG c.key ls') := by rw [zFp ho hr, hr.lent]
    refine ⟨e, rfl, QRel.set ho hr _ _, ho.set _ _ hc.amount, h.s.set _ _, ?_, Nat.le_succ _⟩
    rw [e]
    have hb := ho.lent0 c.key
    refine ⟨hc.session, hc.seq, by show (0 : Nat) < _; omega, ?_, by show xD 0; unfold xD; decide⟩
    show xD (if _ then _ else _)
    unfold xD
    split <;> omega
  · obtain ⟨rfl, rfl, rfl, rfl⟩ := h1
    obtain ⟨rfl, rfl, rfl, rfl⟩ := h2
    have ee : e = f := e1.trans ((zHk ho hr _ _ _ _).trans f1.symm)
    subst ee
    have xx : x = y := x1.trans y1.symm
    subst xx
    refine ⟨rfl, rfl, QRel.lend ho hr (fun h0 => by rw [x1]; unfold j0; rw [if_pos h0]), ?_, h.s, ?_, ?_⟩
    · rw [x1]; exact ho.lend f1
    · by_cases h0 : e = 0
      · refine zAJ hc (zES hcn hc.amount ?_ x x1)
        have := (zEP (f1.symm.trans h0)).1.2.2.2
        unfold yl at this
        unfold xD; omega
      · unfold jc; rw [if_pos h0]; exact xP hc
    · unfold zCi; split <;> omega
  · obtain ⟨rfl, rfl, rfl⟩ := h1
    obtain ⟨rfl, rfl, rfl⟩ := h2
    obtain ⟨rfl, rfl, q1, q2⟩ := zGM ho hr k1 k2
    refine ⟨rfl, rfl, q1, q2, h.s, ?_, Nat.le_succ _⟩
    by_cases h0 : e = 0
    · refine zAJ hc ?_
      rcases k2 with q | q | ⟨_, k, hk, _, _, q | ⟨_, _, q3, q4⟩⟩
      · rw [q.2.1] at h0; cases h0
      · rw [q.2.2.1] at h0; cases h0
      · rw [q.2.1] at h0; cases h0
      · exact zDw q2 hcn x (by rw [q4]; exact List.mem_of_getElem? (by rw [List.getElem?_set_self (by omega)]))
    · unfold jc; rw [if_pos h0]; exact xP hc
  · obtain ⟨rfl, rfl, rfl⟩ := h1
    obtain ⟨rfl, rfl, rfl⟩ := h2
    obtain ⟨rfl, rfl, q1, q2⟩ := zG4 ho hr k1 k2
    refine ⟨rfl, rfl, q1, q2, h.s, ?_, Nat.le_succ _⟩
    by_cases h0 : e = 0
    · refine zAJ hc ?_
      rcases k2 with q | ⟨k, hk, _, _, _, q3, _⟩
      · rw [q.2.1] at h0; cases h0
      · rw [q3]; exact zDw ho hcn _ (yH hk)
    · unfold jc; rw [if_pos h0]; exact xP hc
  · obtain ⟨rfl, rfl, rfl, rfl⟩ := h1
    obtain ⟨rfl, rfl, rfl, rfl⟩ := h2
    exact ⟨rfl, rfl, hr, ho, h.s, xP hc, Nat.le_succ _⟩
end
def xn (c : CmdD) (q : RepD × Int) (r : RepD) : Prop :=
  (¬ c.ok ∧ r = kI c 2) ∨ (c.ok ∧ c.session = 0 ∧ r = kI c (if c.op = 5 then 0 else 1)) ∨ (c.ok ∧ c.session ≠ 0 ∧ c.seq = 0 ∧ r = kI c 18)
  ∨ ((c.ok ∧ c.session ≠ 0 ∧ c.seq ≠ 0) ∧ q.2 ≠ 8 ∧ r = if q.2 = 0 then q.1 else kI c (if q.2 = 13 then 18 else q.2))
def GoR (c : CmdD) (q : RepD × Int) : Prop := (c.ok ∧ c.session ≠ 0 ∧ c.seq ≠ 0) ∧ q.2 = 8
def DoK (now : Int) (cnt : Nat) (kb : List (ByteArray × Int)) (kl : List (Nat × LeaD)) (kr : List (Nat × RepD)) (c : CmdD) (r : RepD) (did : Bool) (cnt' : Nat) (kb' : List (ByteArray × Int)) (kl' : List (Nat × LeaD)) (kr' : List (Nat × RepD)) : Prop :=
  (xn c (yN kr c.session c.seq) r ∧ did = false ∧ cnt' = cnt ∧ kb' = kb ∧ kl' = kl ∧ kr' = kr)
  ∨ (GoR c (yN kr c.session c.seq) ∧ zJI now cnt kb kl c r cnt' kb' kl' ∧ did = true ∧ kr' = jd kr r)
def DoR (now : Int) (cnt : Nat) (bs : List BudD) (ls : List LeaD) (rs : List RepD) (c : CmdD) (r : RepD) (did : Bool) (cnt' : Nat) (bs' : List BudD) (ls' : List LeaD) (rs' : List RepD) : Prop :=
  (xn c (yN (KR rs) c.session c.seq) r ∧ did = false ∧ cnt' = cnt ∧ bs' = bs ∧ ls' = ls ∧ rs' = rs)
  ∨ (GoR c (yN (KR rs) c.session c.seq) ∧ zIz now cnt bs ls c r cnt' bs' ls' ∧ did = true ∧ rs' = zBh rs r)
theorem zEu {c : CmdD} {q : RepD × Int} {r s : RepD} (h1 : xn c q r) (h2 : xn c q s) : r = s := by
  rcases h1 with h1 | h1 | h1 | h1 <;> rcases h2 with h2 | h2 | h2 | h2
  all_goals first
    | exact h1.2.trans h2.2.symm
    | exact h1.2.2.trans h2.2.2.symm
    | exact h1.2.2.2.trans h2.2.2.2.symm
    | exact absurd h2.1 h1.1
    | exact absurd h1.1 h2.1
    | exact absurd h2.1.1 h1.1
    | exact absurd h1.1.1 h2.1
    | exact absurd h1.2.1 h2.2.1
    | exact absurd h2.2.1 h1.2.1
    | exact absurd h1.2.1 h2.1.2.1
    | exact absurd h2.2.1 h1.1.2.1
    | exact absurd h1.2.2.1 h2.1.2.2
    | exact absurd h2.2.2.1 h1.1.2.2
theorem zDF {c : CmdD} {q : RepD × Int} {r : RepD} (h1 : xn c q r) (h2 : GoR c q) : False := by
  rcases h1 with h1 | h1 | h1 | h1
  · exact h1.1 h2.1.1
  · exact h2.1.2.1 h1.2.1
  · exact h2.1.2.2 h1.2.2.1
  · exact h1.2.1 h2.2
theorem zHr {rs : List RepD} {s q : Nat} {x : RepD} (h : yN (KR rs) s q = (x, 0)) : x ∈ rs := by
  unfold yN at h
  split at h
  · cases h
  · split at h
    · split at h <;> cases h
    · rename_i r hg
      split at h
      · cases h
      · split at h
        · cases h
        · cases h; exact (zEM hg).1
section
variable {now : Int} {cnt cnt' cnt2 : Nat} {kb kb' : List (ByteArray × Int)} {kl kl' : List (Nat × LeaD)} {kr kr' : List (Nat × RepD)} {bs bs' : List BudD} {ls ls' : List LeaD} {rs rs' : List RepD} {c : CmdD} {r s : RepD} {did did2 : Bool}
theorem zGT (hc : c.wf) (hw : ∀ r ∈ rs, r.wf) (h : xn c (yN (KR rs) c.session c.seq) r) : r.wf := by
  rcases h with h | h | h | h
  · rw [h.2]; exact xP hc
  · rw [h.2.2]; exact xP hc
  · rw [h.2.2.2]; exact xP hc
  · rw [h.2.2]
    split
    · rename_i h0
      exact hw _ (zHr (s := c.session) (q := c.seq) (Prod.ext rfl h0))
    · exact xP hc
theorem zF2 (ha : ∀ l ∈ ls, l.session < 18446744073709551616) (hc : c.wf) (h : zIz now cnt bs ls c s cnt2 bs' ls') : ∀ l ∈ ls', l.session < 18446744073709551616 := by
  rcases h with h | ⟨_, x, e, _, h2, _, _, _, h3⟩ | ⟨_, x, e, h1, _⟩ | ⟨_, x, e, h1, _⟩ | h
  · rw [h.2.2.2.2]; exact ha
  · intro l hl
    rw [h3] at hl
    unfold zCU at hl
    split at hl
    · rename_i h0
      rcases List.mem_append.1 hl with hl | hl
      · exact ha l hl
      · rw [List.mem_singleton.1 hl, h2, j0, if_pos h0]; exact hc.session
    · exact ha l hl
  · rcases h1 with h1 | h1 | ⟨_, k, hk, _, _, h1 | h1⟩
    · rw [h1.2.2.2]; exact ha
    · rw [h1.2.2.2.2]; exact ha
    · rw [h1.2.2.2]; exact ha
    · rw [h1.2.2.2]; intro l hl
      rcases List.mem_or_eq_of_mem_set hl with hl | hl
      · exact ha l hl
      · rw [hl, h1.2.2.1]; exact ha (zI ls k) (yH hk)
  · rcases h1 with h1 | ⟨k, hk, _, _, _, _, h1⟩
    · rw [h1.2.2.2]; exact ha
    · rw [h1]; intro l hl
      rcases List.mem_append.1 hl with hl | hl
      · exact ha l (List.mem_of_mem_take hl)
      · exact ha l (List.mem_of_mem_drop hl)
  · rw [h.2.2.2.2]; exact ha
theorem zKy (h : LOkR now cnt bs ls rs) (hr : LRel kb kl kr bs ls rs) (hc : c.wf) (hn : cnt < 1000000000) (h1 : DoK now cnt kb kl kr c r did cnt' kb' kl' kr') (h2 : DoR now cnt bs ls rs c s did2 cnt2 bs' ls' rs') :
    r = s ∧ did = did2 ∧ cnt' = cnt2 ∧ LRel kb' kl' kr' bs' ls' rs' ∧ LOkR now cnt2 bs' ls' rs' ∧ r.wf ∧ cnt2 ≤ cnt + 1 := by
  have hf := zEZ h.c hr.c c.session c.seq
  rcases h1 with ⟨h1, rfl, rfl, rfl, rfl, rfl⟩ | ⟨h1, t1, rfl, rfl⟩ <;> rcases h2 with ⟨h2, rfl, rfl, rfl, rfl, rfl⟩ | ⟨h2, t2, rfl, rfl⟩
  · rw [hf] at h1
    obtain rfl := zEu h1 h2
    exact ⟨rfl, rfl, rfl, hr, h, zGT hc h.w h1, Nat.le_succ _⟩
  · rw [hf] at h1; exact (zDF h1 h2).elim
  · rw [hf] at h1; exact (zDF h2 h1).elim
  · obtain ⟨rfl, rfl, q1, q2, q3, q4, q5⟩ := zJW h hr.q hc t1 t2
    refine ⟨rfl, rfl, rfl, ⟨q1, zIJ h.c hr.c r⟩, ⟨q2, q3, zH2 h.c r, fun x hx => ?_, by omega, zF2 h.a hc t2⟩, q4, q5⟩
    rcases zF4 rs r x hx with k | k
    · exact h.w x k
    · rw [k]; exact q4
end
theorem LOkR.start : LOkR 0 0 [] [] [] := ⟨QOk.start, QSrt.start, COk.start, by simp, by omega, by simp⟩
theorem LRel.start : LRel [] [] [] [] [] [] := ⟨QRel.start, CRel.start⟩
end Go.Proofs.YthincafbmpialaaGreat
