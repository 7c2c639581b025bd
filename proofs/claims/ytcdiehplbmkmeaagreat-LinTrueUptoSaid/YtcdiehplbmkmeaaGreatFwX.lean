import Derived.Test.YtcdiehplbmkmeaaGreatLinQ
import Derived.Test.YtcdiehplbmkmeaaGreatLinR
import Derived.Test.YtcdiehplbmkmeaaGreatFwZ
import Derived.Test.YtcdiehplbmkmeaaGreatFwO
set_option linter.unusedSectionVars false
set_option linter.unusedSimpArgs false
set_option linter.unusedVariables false
set_option maxRecDepth 10000
namespace Go.Proofs.YtcdiehplbmkmeaaGreat
open Go Go.Sc Go.Proofs
def mv (k : Nat) : MovD := ⟨(k : Int), 0⟩
theorem zBa {l : List CallD} {dn : List Bool} (hf : ∀ i, i < l.length → 0 ≤ (zH l i).fin) (hd : dn.length = l.length) (h : Whole l dn) : yd dn = 0 := by
  unfold yd
  rw [List.length_eq_zero_iff, List.filter_eq_nil_iff]
  intro a ha
  obtain ⟨i, hi, e⟩ := List.mem_iff_getElem.1 ha
  have h1 := h i (by omega) (hf i (by omega))
  rw [ki (List.getElem?_eq_getElem hi), e] at h1
  rw [h1]; decide
section
variable {l : List CallD}
theorem zAb (hf : ∀ i, i < l.length → 0 ≤ (zH l i).fin) : ∀ (n : Nat) (s : LinS) (r : List Nat) (j : Nat), s.done.length = l.length → yK l n s = some r → (kT l s (r.map mv) j).2 = 0 ∧ r.length = yd s.done
  | 0, s, r, j, hd, h => by
    unfold yK at h
    split at h
    · rename_i hW; cases h; exact ⟨zBg hW, (zBa hf hd hW).symm⟩
    · cases h
  | n + 1, s, r, j, hd, h => by
    unfold yK at h
    split at h
    · rename_i hW; cases h; exact ⟨zBg hW, (zBa hf hd hW).symm⟩
    · obtain ⟨k, hk, hb⟩ := List.exists_of_findSome?_eq_some h
      split at hb
      · rename_i hz
        obtain ⟨r', h', rfl⟩ := Option.map_eq_some_iff.1 hb
        obtain ⟨q1, q2, q3, _, _, _⟩ := zB5 hz (Int.natCast_nonneg k) hd
        have q2 : zH s.done k = false := q2
        have q3 : (zy l s (mv k)).2.done = s.done.set k true := q3
        have q1 : k < l.length := q1
        obtain ⟨i1, i2⟩ := zAb hf n _ r' (j + 1) (by rw [jn]; exact hd) h'
        have i2 : r'.length = yd (zy l s (mv k)).2.done := i2
        rw [q3] at i2
        have i3 := zBr (d := s.done) (k := k) (by omega) q2
        exact ⟨zCo hz i1, by rw [List.length_cons]; omega⟩
      · cases hb
theorem zBC : ∀ (n : Nat) (s : LinS) (r : List Nat) (j : Nat), r.length ≤ n → (kT l s (r.map mv) j).2 = 0 → yK l n s ≠ none
  | 0, s, [], j, _, h => by unfold yK; rw [if_pos (zFL h)]; exact fun q => by cases q
  | n + 1, s, [], j, _, h => by unfold yK; rw [if_pos (zFL h)]; exact fun q => by cases q
  | 0, s, k :: r, j, hr, h => absurd hr (by simp)
  | n + 1, s, k :: r, j, hr, h => by
    obtain ⟨h1, h2⟩ := zGr h
    unfold yK
    split
    · exact fun q => by cases q
    · intro q
      have hk : k < l.length := by have := (zIR h1).1; show k < _; have e : (mv k).call = (k : Int) := rfl; omega
      have q1 := List.findSome?_eq_none_iff.1 q k (List.mem_range.2 hk)
      have q2 : (if (zy l s (mv k)).1 = 0 then (yK l n (zy l s (mv k)).2).map (k :: ·) else none) = none := q1
      rw [if_pos h1] at q2
      exact zBC n _ r (j + 1) (by simpa using hr) h2 (Option.map_eq_none_iff.1 q2)
end
def bare (c : CallD) : CallD := { c with reply := repZ }
theorem zE1 {α β : Type} [Inhabited α] [Inhabited β] {f : α → β} {l : List α} {i : Nat} (hi : i < l.length) : zH (l.map f) i = f (zH l i) := by
  unfold zH
  rw [List.getElem?_map, List.getElem?_eq_getElem hi]; rfl
structure FewC (c : CallD) (i : Nat) : Prop where
  look : c.look = false
  beg : 0 ≤ c.beg
  fin : c.beg ≤ c.fin
  seq : c.cmd.seq = i + 1
  wf : c.wf
structure FewP (l : List CallD) : Prop where
  len : l.length ≤ 6
  each : ∀ i, i < l.length → FewC (zH l i) i
  mono : ∀ i j, i ≤ j → j < l.length → (zH l i).beg ≤ (zH l j).beg
structure FewN (now : Int) (l : List CallD) : Prop where
  p : FewP l
  now : ∀ i, i < l.length → (zH l i).beg ≤ now
theorem FewN.start (now : Int) : FewN now [] := ⟨⟨by decide, fun i hi => absurd hi (Nat.not_lt_zero _), fun i j _ hj => absurd hj (Nat.not_lt_zero _)⟩, fun i hi => absurd hi (Nat.not_lt_zero _)⟩
theorem zAd {α : Type} [Inhabited α] {l : List α} {a : α} {i : Nat} : i < l.length + 1 → zH (l ++ [a]) i = if i = l.length then a else zH l i := fun hi => by
  unfold zH
  by_cases e : i = l.length
  · subst e; rw [if_pos rfl]; simp
  · rw [if_neg e, List.getElem?_append_left (by omega)]
theorem FewN.next {now n2 : Int} {l : List CallD} {c : CallD} (h : FewN now l) (hn : now ≤ n2) (hl : l.length < 6) (hc : FewC c l.length) (hb : c.beg = n2) : FewN n2 (l ++ [c]) := by
  have hN : ∀ i, i < (l ++ [c]).length → (zH (l ++ [c]) i).beg ≤ n2 := fun i hi => by
    have hi : i < l.length + 1 := by simpa using hi
    rw [zAd hi]
    split
    · omega
    · have := h.now i (by omega); omega
  refine ⟨⟨by simp; omega, fun i hi => ?_, fun i j hij hj => ?_⟩, hN⟩
  · have hi : i < l.length + 1 := by simpa using hi
    rw [zAd hi]
    split
    · rename_i e; rw [e]; exact hc
    · exact h.p.each i (by omega)
  · have hN' := hN i (by simp at hj ⊢; omega)
    have hj : j < l.length + 1 := by simpa using hj
    rw [zAd hj]
    split
    · omega
    · rw [zAd (by omega), if_neg (by omega)]; exact h.p.mono i j hij (by omega)
def stT (l : List CallD) : Nat → RL
  | 0 => ⟨0, 0, [], [], []⟩
  | i + 1 => (doF (stT l i) (zH l i).cmd).2
def zGA (l : List CallD) (i : Nat) : RepD := (doF (stT l i) (zH l i).cmd).1.1
def yY (l : List CallD) : Nat → List CallD
  | 0 => l
  | i + 1 => (yY l i).set i { zH (yY l i) i with reply := zGA l i }
theorem yu (l : List CallD) : ∀ i, (yY l i).length = l.length
  | 0 => rfl
  | i + 1 => by unfold yY; rw [List.length_set]; exact yu l i
theorem jV (l : List CallD) {j : Nat} (hj : j < l.length) : ∀ i, i ≤ l.length → zH (yY l i) j = if j < i then { zH l j with reply := zGA l j } else zH l j
  | 0, _ => by rw [if_neg (by omega)]; rfl
  | i + 1, hi => by
    unfold yY
    rw [zJz (by rw [yu]; omega)]
    have ih := jV l hj i (by omega)
    by_cases e : j = i
    · subst e
      rw [if_pos rfl, if_pos (by omega), ih, if_neg (by omega)]
    · rw [if_neg e, ih]
      by_cases q : j < i
      · rw [if_pos q, if_pos (by omega)]
      · rw [if_neg q, if_neg (by omega)]
theorem zBp {l : List CallD} (h : FewP l) (hw : ∀ i, i < l.length → (zGA l i).wf) : FewP (yY l l.length) := by
  have e : ∀ i, i < l.length → zH (yY l l.length) i = { zH l i with reply := zGA l i } := fun i hi => by rw [jV l hi _ (Nat.le_refl _), if_pos hi]
  refine ⟨by rw [yu]; exact h.len, fun i hi => ?_, fun i j hij hj => ?_⟩
  · rw [yu] at hi
    have q := h.each i hi
    rw [e i hi]; exact ⟨q.look, q.beg, q.fin, q.seq, ⟨q.wf.edge, q.wf.cmd, q.wf.key, q.wf.beg, q.wf.fin, hw i hi⟩⟩
  · rw [yu] at hj
    rw [e i (by omega), e j hj]; exact h.mono i j hij hj
theorem zI7 (t : RL) (c : CmdD) : (doF t c).2.cnt ≤ t.cnt + 1 := by
  have h := zDS t ⟨0, false, false, c, ⟨#[]⟩, 0, 0, repZ, 0, 0⟩
  exact h
theorem zFG {l : List CallD} (h : FewP l) : ∀ i, i ≤ l.length → LOkR (stT l i).now (stT l i).cnt (stT l i).bs (stT l i).ls (stT l i).rs ∧ (stT l i).cnt ≤ i
  | 0, _ => ⟨LOkR.start, Nat.le_refl _⟩
  | i + 1, hi => by
    obtain ⟨h1, h2⟩ := zFG h i (by omega)
    have hl := h.len
    have q := LOkR.doF h1 (h.each i (by omega)).wf.cmd (by omega)
    have q1 : (stT l (i + 1)).now = (stT l i).now := (zEU (stT l i) (zH l i).cmd).2
    refine ⟨?_, Nat.le_trans (zI7 _ _) (by omega)⟩
    rw [q1]; exact q.1
theorem zEY {l : List CallD} (h : FewP l) {i : Nat} (hi : i < l.length) : (zGA l i).wf := by
  obtain ⟨h1, h2⟩ := zFG h i (by omega)
  have hl := h.len
  exact (LOkR.doF h1 (h.each i (by omega)).wf.cmd (by omega)).2
theorem zGG {t : RL} (h : LOkR t.now t.cnt t.bs t.ls t.rs) : yn t.now 0 = 0 ∧ xm t 0 = t := by
  have ht := h.q.time
  have e : yn t.now 0 = 0 := zBc (by omega) (by omega)
  refine ⟨e, ?_⟩
  have e2 : ju t.now 0 = t.now := by unfold ju; rw [if_pos e]; omega
  have e3 : zAY t.now 0 t.ls = t.ls := by
    unfold zAY
    rw [if_pos e, List.filter_eq_self]
    intro x hx
    have := (h.q.lok x hx).2.2.2.2.1
    unfold zBe
    simp; omega
  unfold xm
  rw [e2, e3]
def kU (n i : Nat) : List Bool := List.replicate i true ++ List.replicate (n - i) false
theorem zBl {n i j : Nat} (hj : j < n) (hi : i ≤ n) : zH (kU n i) j = decide (j < i) := by
  unfold kU zH
  by_cases q : j < i
  · rw [List.getElem?_append_left (by simpa using q), List.getElem?_replicate, if_pos q, decide_eq_true q]; rfl
  · rw [List.getElem?_append_right (by simp; omega), List.getElem?_replicate, if_pos (by simp; omega), decide_eq_false q]; rfl
theorem zHl {n i : Nat} (hi : i < n) : (kU n i).set i true = kU n (i + 1) := by
  unfold kU
  rw [List.set_append_right _ _ (by simp), List.length_replicate, Nat.sub_self, show n - i = (n - (i + 1)) + 1 by omega, List.replicate_succ, List.set_cons_zero, List.replicate_succ', List.append_assoc]
  rfl
theorem zCh {l : List CallD} (h : FewP l) : ∀ (m i j : Nat), i + m = l.length → (kT (yY l l.length) ⟨stT l i, kU l.length i⟩ ((List.range' i m).map mv) j).2 = 0
  | 0, i, j, e => zBg fun k hk _ => by
    rw [yu] at hk
    show zH (kU l.length i) k = true
    rw [zBl hk (by omega)]; exact decide_eq_true (by omega)
  | m + 1, i, j, e => by
    rw [List.range'_succ, List.map_cons]
    have hi : i < l.length := by omega
    obtain ⟨ho, hc⟩ := zFG h i (by omega)
    obtain ⟨p1, p2⟩ := zGG ho
    have hF := zBp h (fun i hi => zEY h hi)
    have hfi := hF.each i (by rw [yu]; exact hi)
    have en : zH (yY l l.length) i = { zH l i with reply := zGA l i } := by rw [jV l hi _ (Nat.le_refl _), if_pos hi]
    have ht : xN (stT l i) (zH (yY l l.length) i) = (true, stT l (i + 1)) := by
      unfold xN
      rw [if_neg (by rw [hfi.look]; decide), en]
      congr 1
      exact decide_eq_true (.inr rfl)
    have hm : zy (yY l l.length) ⟨stT l i, kU l.length i⟩ (mv i) = (0, ⟨stT l (i + 1), kU l.length (i + 1)⟩) := by
      have c1 : ¬ (((((yY l l.length).length : Nat) : Int) ≤ (mv i).call ∨ (mv i).delta < 0) ∨ 1099511627776 < (mv i).delta) := by
        show ¬ (((((yY l l.length).length : Nat) : Int) ≤ (i : Int) ∨ (0 : Int) < 0) ∨ 1099511627776 < (0 : Int))
        rw [yu]; omega
      rw [mvC c1 (show 0 ≤ (i : Int) by omega) ⟨by show zH (kU l.length i) i = false; rw [zBl hi (by omega)]; exact decide_eq_false (by omega), ?_⟩ (fun q => q p1)]
      · show (if (xN (xm (stT l i) 0) (zH (yY l l.length) i)).1 = true then (0 : Int) else 18, (⟨(xN (xm (stT l i) 0) (zH (yY l l.length) i)).2, (kU l.length i).set i true⟩ : LinS)) = _
        rw [p2, ht, zHl hi]; rfl
      · rintro ⟨k, k1, k2, k3, k4⟩
        rw [yu] at k1
        have k2 : zH (kU l.length i) k = false := k2
        rw [zBl k1 (by omega)] at k2
        have k2 := of_decide_eq_false k2
        have k4 : (zH (yY l l.length) k).fin < (zH (yY l l.length) i).beg := k4
        have k5 := hF.mono i k (by omega) (by rw [yu]; exact k1)
        have k6 := (hF.each k (by rw [yu]; exact k1)).fin
        omega
    refine zCo (by rw [hm]) ?_
    rw [hm]
    exact zCh h m (i + 1) (j + 1) (by omega)
theorem zHy {l : List CallD} (h : FewP l) : (kT (yY l l.length) (kj (yY l l.length)) ((List.range l.length).map mv) 0).2 = 0 := by
  have e : kj (yY l l.length) = ⟨stT l 0, kU l.length 0⟩ := by unfold kj kU; rw [yu]; rfl
  rw [e, List.range_eq_range']
  exact zCh h l.length 0 0 (by omega)
theorem zD3 {l : List CallD} (h : FewP l) (hS : xE (yY l l.length)) : (yl (yY l l.length) ((List.range l.length).map mv)).2 = 0 ∧ ∃ r, yK (yY l l.length) (yY l l.length).length (kj (yY l l.length)) = some r ∧ r.length = l.length ∧ (yl (yY l l.length) (r.map mv)).2 = 0 := by
  have ho := zHy h
  refine ⟨zCP hS ho, ?_⟩
  have hF := zBp h (fun i hi => zEY h hi)
  cases hs : yK (yY l l.length) (yY l l.length).length (kj (yY l l.length)) with
  | none => exact absurd hs (zBC _ _ (List.range l.length) 0 (by rw [List.length_range, yu]; exact Nat.le_refl _) ho)
  | some r =>
    obtain ⟨q1, q2⟩ := zAb (fun i hi => by have := hF.each i hi; have := this.beg; have := (hF.each i hi).fin; omega) _ _ r 0 (by simp [kj]) hs
    refine ⟨r, rfl, ?_, zCP hS q1⟩
    rw [q2]
    unfold kj yd
    rw [List.filter_replicate_of_pos (by decide), List.length_replicate, yu]
end Go.Proofs.YtcdiehplbmkmeaaGreat
set_option linter.unusedVariables false
namespace Go.Sc
open Go
section
variable {P : Program} {n : Nat} {ops : Array Oper} {N R : K} {X : List (Nat × K)} {f : Nat → Value} {A : World → Prop} {rest : List Oper} {w0 : World} {S : List Nat} {L : List Res}
variable {d : Nat} {ty : TypeId} {p : String} {af : Array Edge} {x y : Operand} {t e : TypeId}
theorem zCd {α : Type} [Inhabited α] {g : α → List Value} {sz : Nat} (hg : ∀ x, (g x).length = sz) {o : Nat} {vs : List Value} (ho : o + vs.length ≤ sz) : ∀ {l : List α} {k : Nat} {a : α}, k < l.length → g a = yI (g (zH l k)) o vs → (l.set k a).flatMap g = yI (l.flatMap g) (k * sz + o) vs
  | [], k, a, h, _ => by simp at h
  | b :: l, 0, a, _, hu => by
    have hu : g a = yI (g b) o vs := hu
    have hb := hg b
    simp only [List.set_cons_zero, List.flatMap_cons, Nat.zero_mul, Nat.zero_add, hu, yI]
    rw [List.take_append_of_le_length (by omega), List.drop_append_of_le_length (by omega)]
    simp
  | b :: l, k + 1, a, h, hu => by
    have ih := zCd hg ho (l := l) (k := k) (a := a) (by simpa using h) hu
    have hb := hg b
    simp only [List.set_cons_succ, List.flatMap_cons, ih, yI]
    have e : (k + 1) * sz = sz + k * sz := by rw [Nat.add_mul, Nat.one_mul, Nat.add_comm]
    rw [e, List.take_append, List.drop_append, List.take_of_length_le (l := g b) (by omega), List.drop_of_length_le (l := g b) (by omega), hb,
      show sz + k * sz + o - sz = k * sz + o by omega, show sz + k * sz + o + vs.length - sz = k * sz + o + vs.length by omega]
    simp
theorem zKk {α : Type} [Inhabited α] {g : α → List Value} {xs : List α} (k sz j o : Nat) (a : α) (vs : List Value) {off : Nat} {v : Value} (hL : L[k]? = some (Res.vec e sz v xs.length (xs.flatMap g))) (hg : ∀ x, (g x).length = sz) (hx : ev f x = .pointer (some ⟨xK v, off, none⟩)) (ho : off = yL v + (j * sz + o)) (hy : ev f y = .agg vs.toArray) (hu : g a = yI (g (zH xs j)) o vs) (hc : ∀ u ∈ vs, cell1 u = true) (hj : j < xs.length) (hp : o + vs.length ≤ sz) (h0 : 0 < vs.length) (ht : kZ P t = some vs.length)
    (kk : CL P n ops rest N f (Own w0 S (L.set k (Res.vec e sz v (xs.set j a).length ((xs.set j a).flatMap g))))) : CL P n ops (⟨none, .store t x y, ty, p, af, none⟩ :: rest) N f (Own w0 S L) := by
  refine zKZ k (j * sz + o) hx ho hy hL ht hc (by rw [x4 hg]; exact Nat.le_trans (by omega) (Nat.le_trans (Nat.le_of_eq (by rw [Nat.add_mul, Nat.one_mul] : j * sz + sz = (j + 1) * sz)) (Nat.mul_le_mul_right sz (show j + 1 ≤ xs.length by omega)))) ?_ h0
  rw [zCd hg hp hj hu, List.length_set] at kk
  exact kk
def zJ1 (P : Program) (t : TypeId) : Option (List Value × Nat) :=
  match P.underlying t, (P.info? t).bind (·.zero) with
  | some (.array _ e), some z => (P.info? e).map fun i => (z.cells.toList, i.size)
  | _, _ => none
theorem zKS {z : List Value} {sz : Nat} {parts : List (Nat × Operand)} {cs : List Value} (hs : zJ1 P t = some (z, sz)) (hf : kw (fun i => some (i * sz, sz)) z (parts.map fun q => (q.1, ev f q.2)) = some cs) : RV P f ⟨some d, .build t parts.toArray, ty, p, af, none⟩ A (.agg cs.toArray) :=
  fun w _ => by
    unfold zJ1 at hs
    split at hs
    · rename_i m e z0 hu hz
      simp only [Option.map_eq_some_iff, Prod.mk.injEq] at hs
      obtain ⟨i, hi, rfl, rfl⟩ := hs
      simp only [Option.bind_eq_some_iff] at hz
      obtain ⟨i0, hi0, hz0⟩ := hz
      have h2 := zAl _ _ _ _ hf
      simp only [Array.toArray_toList] at h2
      simp [execOp, Instr.build, zeroValue, typeInfo, sizeOf, hi0, hz0, hi, zg hu, h2]
    · cases hs
theorem zKf {z : List Value} {sz : Nat} {parts : List (Nat × Operand)} {cs : List Value} (hs : zJ1 P t = some (z, sz)) (hf : kw (fun i => some (i * sz, sz)) z (parts.map fun q => (q.1, ev f q.2)) = some cs) (hd : Nat.blt d n = true)
    (k : CL P n ops rest N (upd f d (.agg cs.toArray)) A) : CL P n ops (⟨some d, .build t parts.toArray, ty, p, af, none⟩ :: rest) N f A := z5 hd (zKS hs hf) k
end
end Go.Sc
