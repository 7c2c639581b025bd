import Derived.Test.YtcdiehplbmkmeaaGreatLinQ
import Derived.Test.YtcdiehplbmkmeaaGreatLinR
import Derived.Test.YtcdiehplbmkmeaaGreatFwZ
import Derived.Test.YtcdiehplbmkmeaaGreatFwO
set_option linter.unusedSectionVars false
set_option linter.unusedSimpArgs false
set_option linter.unusedVariables false
set_option maxRecDepth 10000
namespace Go.Proofs.YtcdiehplbmkmeaaGreat
open Go Go.Sc Go.Proofs
def mv (k : Nat) : MovD := ⟨(k : Int), 0⟩
theorem zBu {l : List CallD} {dn : List Bool} (hf : ∀ i, i < l.length → 0 ≤ (zG l i).fin) (hd : dn.length = l.length) (h : Whole l dn) : yf dn = 0 := by
  unfold yf
  rw [List.length_eq_zero_iff, List.filter_eq_nil_iff]
  intro a ha
  obtain ⟨i, hi, e⟩ := List.mem_iff_getElem.1 ha
  have h1 := h i (by omega) (hf i (by omega))
  rw [kc (List.getElem?_eq_getElem hi), e] at h1
  rw [h1]; decide
section
variable {l : List CallD}
theorem zAf (hf : ∀ i, i < l.length → 0 ≤ (zG l i).fin) : ∀ (n : Nat) (s : LinS) (r : List Nat) (j : Nat), s.done.length = l.length → ya l n s = some r → (zAP l s (r.map mv) j).2 = 0 ∧ r.length = yf s.done
  | 0, s, r, j, hd, h => by
    unfold ya at h
    split at h
    · rename_i hW; cases h; exact ⟨zDr hW, (zBu hf hd hW).symm⟩
    · cases h
  | n + 1, s, r, j, hd, h => by
    unfold ya at h
    split at h
    · rename_i hW; cases h; exact ⟨zDr hW, (zBu hf hd hW).symm⟩
    · obtain ⟨k, hk, hb⟩ := List.exists_of_findSome?_eq_some h
      split at hb
      · rename_i hz
        obtain ⟨r', h', rfl⟩ := Option.map_eq_some_iff.1 hb
        obtain ⟨q1, q2, q3, _, _, _⟩ := zBb hz (Int.natCast_nonneg k) hd
        have q2 : zG s.done k = false := q2
        have q3 : (zz l s (mv k)).2.done = s.done.set k true := q3
        have q1 : k < l.length := q1
        obtain ⟨i1, i2⟩ := zAf hf n _ r' (j + 1) (by rw [je]; exact hd) h'
        have i2 : r'.length = yf (zz l s (mv k)).2.done := i2
        rw [q3] at i2
        have i3 := zBX (d := s.done) (k := k) (by omega) q2
        exact ⟨zFz hz i1, by rw [List.length_cons]; omega⟩
      · cases hb
theorem zEp {k : Nat} (hk : k < l.length) (hf : 0 ≤ (zG l k).fin) (hb : ∀ t, (xY t (zG l k)).1 = false) : ∀ (ms : List MovD) (s : LinS) (j : Nat), zG s.done k = false → s.done.length = l.length → (zAP l s ms j).2 ≠ 0
  | [], s, j, h, hd => fun q => by have := zIr q k hk hf; rw [h] at this; cases this
  | m :: ms, s, j, h, hd => fun q => by
    obtain ⟨h1, h2⟩ := zGq q
    obtain ⟨c1, c2, c3⟩ := zIS h1
    refine zEp hk hf hb ms _ _ ?_ (by rw [je]; exact hd) h2
    rcases c3 with c3 | ⟨c0, c4, c5⟩
    · rw [mvN c1 (by omega) c2]; exact h
    · rw [mvC c1 c0 c4 c2]
      show zG (s.done.set m.call.toNat true) k = false
      rw [zCy (by omega)]
      by_cases e : k = m.call.toNat
      · subst e; rw [hb] at c5; cases c5
      · rw [if_neg e]; exact h
end
def zBK (c : CallD) : CallD := { c with reply := repZ }
theorem zDH (l : List CallD) (e : Int) : y5 (l.map zBK) e = (y5 l e).map zBK := by
  induction l using zIO with
  | h0 => rfl
  | h1 m c ih =>
    rw [List.map_append, List.map_cons, List.map_nil, kY, kY, ih]
    show (if c.edge = e then _ else _) = _
    split <;> rfl
theorem zCz {α β : Type} [Inhabited α] [Inhabited β] {f : α → β} {l : List α} {i : Nat} (hi : i < l.length) : zG (l.map f) i = f (zG l i) := by
  unfold zG
  rw [List.getElem?_map, List.getElem?_eq_getElem hi]; rfl
theorem zBR (l : List CallD) : xD (l.map zBK) ↔ xD l := by
  have key : ∀ i, i < l.length → (((zG (l.map zBK) i).single ∧ zA3 (y5 ((l.map zBK).take i) (zG (l.map zBK) i).edge) (zG (l.map zBK) i)) ↔ ((zG l i).single ∧ zA3 (y5 (l.take i) (zG l i).edge) (zG l i))) := fun i hi => by
    rw [zCz hi, ← List.map_take, zDH]
    refine and_congr Iff.rfl ?_
    show zA3 ((y5 (l.take i) (zG l i).edge).map zBK) _ ↔ _
    cases y5 (l.take i) (zG l i).edge <;> exact Iff.rfl
  constructor
  · intro h i hi; exact (key i hi).1 (h i (by rw [List.length_map]; exact hi))
  · intro h i hi; rw [List.length_map] at hi; exact (key i hi).2 (h i hi)
theorem zIW {α : Type} [Inhabited α] {l : List α} {k : Nat} : l.set k (zG l k) = l := by
  apply List.ext_getElem?
  intro i
  rw [List.getElem?_set]
  split
  · rename_i e; subst e
    split
    · rename_i h; rw [kc (List.getElem?_eq_getElem h), List.getElem?_eq_getElem h]
    · rename_i h; rw [List.getElem?_eq_none (by omega)]
  · rfl
theorem zDb {l : List CallD} {k : Nat} {r : RepD} (hk : k < l.length) : xD (l.set k { zG l k with reply := r }) ↔ xD l := by
  rw [← zBR (l.set k _), ← zBR l]
  have e : (l.set k { zG l k with reply := r }).map zBK = l.map zBK := by
    rw [List.map_set, show zBK { zG l k with reply := r } = zG (l.map zBK) k by rw [zCz hk]; rfl]
    exact zIW
  rw [e]
theorem zFd {kl : List (Nat × RepD)} {s q : Nat} (h : (zu kl s q).2 = 0) : (zu kl s q).1.seq = q := by
  unfold zu at h ⊢
  split
  · rename_i c; rw [if_pos c] at h; exact absurd h (by decide)
  · rename_i c
    rw [if_neg c] at h
    cases hg : zf s kl with
    | none =>
      rw [hg] at h
      dsimp only at h
      split at h <;> exact absurd h (by decide)
    | some r =>
      rw [hg] at h
      dsimp only at h ⊢
      split
      · rename_i c2; rw [if_pos c2] at h; exact absurd h (by decide)
      · rename_i c2
        rw [if_neg c2] at h
        split
        · rename_i c3; rw [if_pos c3] at h; exact absurd h (by decide)
        · show r.seq = q; omega
theorem zGJ (c : CmdD) (x : LeaD) (e : Int) : (xv c x e).seq = c.seq := by unfold xv; split <;> rfl
theorem zI3 (t : RL) (c : CmdD) : (doF t c).1.1.seq = c.seq := by
  unfold doF
  rcases zCg t c with ⟨r, h, h2⟩ | ⟨h, h2⟩
  · rw [h]
    show r.seq = _
    rcases h2 with ⟨_, rfl⟩ | ⟨_, _, rfl⟩ | ⟨_, _, _, rfl⟩ | ⟨_, _, rfl⟩
    · rfl
    · rfl
    · rfl
    · split
      · rename_i h3; exact zFd h3
      · rfl
  · rw [h]
    show (jn t c).1.seq = _
    unfold jn
    repeat' split
    all_goals first | rfl | exact zGJ _ _ _
structure FewC (c : CallD) (i : Nat) : Prop where
  look : c.look = false
  beg : 0 ≤ c.beg
  fin : c.beg ≤ c.fin
  seq : c.cmd.seq = i + 1
  wf : c.wf
structure FewP (l : List CallD) : Prop where
  len : l.length ≤ 6
  each : ∀ i, i < l.length → FewC (zG l i) i
  mono : ∀ i j, i ≤ j → j < l.length → (zG l i).beg ≤ (zG l j).beg
structure FewN (now : Int) (l : List CallD) : Prop where
  p : FewP l
  now : ∀ i, i < l.length → (zG l i).beg ≤ now
theorem FewN.start (now : Int) : FewN now [] := ⟨⟨by decide, fun i hi => absurd hi (Nat.not_lt_zero _), fun i j _ hj => absurd hj (Nat.not_lt_zero _)⟩, fun i hi => absurd hi (Nat.not_lt_zero _)⟩
theorem zAY {α : Type} [Inhabited α] {l : List α} {a : α} {i : Nat} : i < l.length + 1 → zG (l ++ [a]) i = if i = l.length then a else zG l i := fun hi => by
  unfold zG
  by_cases e : i = l.length
  · subst e; rw [if_pos rfl]; simp
  · rw [if_neg e, List.getElem?_append_left (by omega)]
theorem FewN.next {now n2 : Int} {l : List CallD} {c : CallD} (h : FewN now l) (hn : now ≤ n2) (hl : l.length < 6) (hc : FewC c l.length) (hb : c.beg = n2) : FewN n2 (l ++ [c]) := by
  have hN : ∀ i, i < (l ++ [c]).length → (zG (l ++ [c]) i).beg ≤ n2 := fun i hi => by
    have hi : i < l.length + 1 := by simpa using hi
    rw [zAY hi]
    split
    · omega
    · have := h.now i (by omega); omega
  refine ⟨⟨by simp; omega, fun i hi => ?_, fun i j hij hj => ?_⟩, hN⟩
  · have hi : i < l.length + 1 := by simpa using hi
    rw [zAY hi]
    split
    · rename_i e; rw [e]; exact hc
    · exact h.p.each i (by omega)
  · have hN' := hN i (by simp at hj ⊢; omega)
    have hj : j < l.length + 1 := by simpa using hj
    rw [zAY hj]
    split
    · omega
    · rw [zAY (by omega), if_neg (by omega)]; exact h.p.mono i j hij (by omega)
def stT (l : List CallD) : Nat → RL
  | 0 => ⟨0, 0, [], [], []⟩
  | i + 1 => (doF (stT l i) (zG l i).cmd).2
def zHt (l : List CallD) (i : Nat) : RepD := (doF (stT l i) (zG l i).cmd).1.1
def xd (l : List CallD) : Nat → List CallD
  | 0 => l
  | i + 1 => (xd l i).set i { zG (xd l i) i with reply := zHt l i }
theorem kh (l : List CallD) : ∀ i, (xd l i).length = l.length
  | 0 => rfl
  | i + 1 => by unfold xd; rw [List.length_set]; exact kh l i
theorem zAM (l : List CallD) {j : Nat} (hj : j < l.length) : ∀ i, i ≤ l.length → zG (xd l i) j = if j < i then { zG l j with reply := zHt l j } else zG l j
  | 0, _ => by rw [if_neg (by omega)]; rfl
  | i + 1, hi => by
    unfold xd
    rw [zCy (by rw [kh]; omega)]
    have ih := zAM l hj i (by omega)
    by_cases e : j = i
    · subst e
      rw [if_pos rfl, if_pos (by omega), ih, if_neg (by omega)]
    · rw [if_neg e, ih]
      by_cases q : j < i
      · rw [if_pos q, if_pos (by omega)]
      · rw [if_neg q, if_neg (by omega)]
theorem zDi {l : List CallD} (h : FewP l) (hw : ∀ i, i < l.length → (zHt l i).wf) : FewP (xd l l.length) := by
  have e : ∀ i, i < l.length → zG (xd l l.length) i = { zG l i with reply := zHt l i } := fun i hi => by rw [zAM l hi _ (Nat.le_refl _), if_pos hi]
  refine ⟨by rw [kh]; exact h.len, fun i hi => ?_, fun i j hij hj => ?_⟩
  · rw [kh] at hi
    have q := h.each i hi
    rw [e i hi]; exact ⟨q.look, q.beg, q.fin, q.seq, ⟨q.wf.edge, q.wf.cmd, q.wf.key, q.wf.beg, q.wf.fin, hw i hi⟩⟩
  · rw [kh] at hj
    rw [e i (by omega), e j hj]; exact h.mono i j hij hj
theorem zIx (t : RL) (c : CmdD) : (doF t c).2.cnt ≤ t.cnt + 1 := by
  have h := zDN t ⟨0, false, false, c, ⟨#[]⟩, 0, 0, repZ, 0, 0⟩
  exact h
theorem zHB {l : List CallD} (h : FewP l) : ∀ i, i ≤ l.length → LOkR (stT l i).now (stT l i).cnt (stT l i).bs (stT l i).ls (stT l i).rs ∧ (stT l i).cnt ≤ i
  | 0, _ => ⟨LOkR.start, Nat.le_refl _⟩
  | i + 1, hi => by
    obtain ⟨h1, h2⟩ := zHB h i (by omega)
    have hl := h.len
    have q := LOkR.doF h1 (h.each i (by omega)).wf.cmd (by omega)
    have q1 : (stT l (i + 1)).now = (stT l i).now := (zD8 (stT l i) (zG l i).cmd).2
    refine ⟨?_, Nat.le_trans (zIx _ _) (by omega)⟩
    rw [q1]; exact q.1
theorem zG9 {l : List CallD} (h : FewP l) {i : Nat} (hi : i < l.length) : (zHt l i).wf := by
  obtain ⟨h1, h2⟩ := zHB h i (by omega)
  have hl := h.len
  exact (LOkR.doF h1 (h.each i (by omega)).wf.cmd (by omega)).2
def doneN (n i : Nat) : List Bool := List.replicate i true ++ List.replicate (n - i) false
theorem zFp {l : List CallD} {k : Nat} {c : CallD} (h : FewP l) (hk : k < l.length) (hc : c = { zG l k with reply := { (zG l k).reply with seq := 99 } }) (n : Nat) : ya (l.set k c) n (jU (l.set k c)) = none := by
  have hn : zG (l.set k c) k = c := by rw [zCy hk, if_pos rfl]
  have hl := h.len
  have hf : ∀ i, i < (l.set k c).length → 0 ≤ (zG (l.set k c) i).fin := fun i hi => by
    rw [List.length_set] at hi
    have := h.each i hi
    have q1 := this.beg
    have q2 := this.fin
    rw [zCy hk]
    split
    · rename_i e; subst e; rw [hc]; show 0 ≤ (zG l i).fin; omega
    · omega
  cases hs : ya (l.set k c) n (jU (l.set k c)) with
  | none => rfl
  | some r =>
    obtain ⟨q1, _⟩ := zAf hf _ _ r 0 (by simp [jU]) hs
    refine absurd q1 (zEp (k := k) (by rw [List.length_set]; exact hk) (hf k (by rw [List.length_set]; exact hk)) (fun t => ?_) _ _ _ ?_ (by simp [jU]))
    · have hq := h.each k hk
      have q1 := hq.beg
      have q2 := hq.fin
      rw [hn, hc]
      unfold xY
      rw [if_neg (by rw [hq.look]; decide)]
      refine decide_eq_false ?_
      rintro (q | q)
      · have q : (zG l k).fin < 0 := q
        omega
      · have e := zI3 t (zG l k).cmd
        have q : (doF t (zG l k).cmd).1.1 = { (zG l k).reply with seq := 99 } := q
        rw [q, hq.seq] at e
        have e : (99 : Nat) = k + 1 := e
        omega
    · unfold jU zG
      rw [List.getElem?_replicate, if_pos (by rw [List.length_set]; exact hk)]; rfl
end Go.Proofs.YtcdiehplbmkmeaaGreat
set_option linter.unusedVariables false
namespace Go.Sc
open Go
section
variable {P : Program} {n : Nat} {ops : Array Oper} {N R : K} {X : List (Nat × K)} {f : Nat → Value} {A : World → Prop} {rest : List Oper} {w0 : World} {S : List Nat} {L : List Res}
variable {d : Nat} {ty : TypeId} {p : String} {af : Array Edge} {x y : Operand} {t e : TypeId}
theorem zCa {α : Type} [Inhabited α] {g : α → List Value} {sz : Nat} (hg : ∀ x, (g x).length = sz) {o : Nat} {vs : List Value} (ho : o + vs.length ≤ sz) : ∀ {l : List α} {k : Nat} {a : α}, k < l.length → g a = yI (g (zG l k)) o vs → (l.set k a).flatMap g = yI (l.flatMap g) (k * sz + o) vs
  | [], k, a, h, _ => by simp at h
  | b :: l, 0, a, _, hu => by
    have hu : g a = yI (g b) o vs := hu
    have hb := hg b
    simp only [List.set_cons_zero, List.flatMap_cons, Nat.zero_mul, Nat.zero_add, hu, yI]
    rw [List.take_append_of_le_length (by omega), List.drop_append_of_le_length (by omega)]
    simp
  | b :: l, k + 1, a, h, hu => by
    have ih := zCa hg ho (l := l) (k := k) (a := a) (by simpa using h) hu
    have hb := hg b
    simp only [List.set_cons_succ, List.flatMap_cons, ih, yI]
    have e : (k + 1) * sz = sz + k * sz := by rw [Nat.add_mul, Nat.one_mul, Nat.add_comm]
    rw [e, List.take_append, List.drop_append, List.take_of_length_le (l := g b) (by omega), List.drop_of_length_le (l := g b) (by omega), hb,
      show sz + k * sz + o - sz = k * sz + o by omega, show sz + k * sz + o + vs.length - sz = k * sz + o + vs.length by omega]
    simp
theorem zJm {α : Type} [Inhabited α] {g : α → List Value} {xs : List α} (k sz j o : Nat) (a : α) (vs : List Value) {off : Nat} {v : Value} (hL : L[k]? = some (Res.vec e sz v xs.length (xs.flatMap g))) (hg : ∀ x, (g x).length = sz) (hx : ev f x = .pointer (some ⟨xK v, off, none⟩)) (ho : off = yK v + (j * sz + o)) (hy : ev f y = .agg vs.toArray) (hu : g a = yI (g (zG xs j)) o vs) (hc : ∀ u ∈ vs, cell1 u = true) (hj : j < xs.length) (hp : o + vs.length ≤ sz) (h0 : 0 < vs.length) (ht : kZ P t = some vs.length)
    (kk : CL P n ops rest N f (Own w0 S (L.set k (Res.vec e sz v (xs.set j a).length ((xs.set j a).flatMap g))))) : CL P n ops (⟨none, .store t x y, ty, p, af, none⟩ :: rest) N f (Own w0 S L) := by
  refine zKF k (j * sz + o) hx ho hy hL ht hc (by rw [xu hg]; exact Nat.le_trans (by omega) (Nat.le_trans (Nat.le_of_eq (by rw [Nat.add_mul, Nat.one_mul] : j * sz + sz = (j + 1) * sz)) (Nat.mul_le_mul_right sz (show j + 1 ≤ xs.length by omega)))) ?_ h0
  rw [zCa hg hp hj hu, List.length_set] at kk
  exact kk
def zKj (P : Program) (t : TypeId) : Option (List Value × Nat) :=
  match P.underlying t, (P.info? t).bind (·.zero) with
  | some (.array _ e), some z => (P.info? e).map fun i => (z.cells.toList, i.size)
  | _, _ => none
theorem zJx {z : List Value} {sz : Nat} {parts : List (Nat × Operand)} {cs : List Value} (hs : zKj P t = some (z, sz)) (hf : kn (fun i => some (i * sz, sz)) z (parts.map fun q => (q.1, ev f q.2)) = some cs) : RV P f ⟨some d, .build t parts.toArray, ty, p, af, none⟩ A (.agg cs.toArray) :=
  fun w _ => by
    unfold zKj at hs
    split at hs
    · rename_i m e z0 hu hz
      simp only [Option.map_eq_some_iff, Prod.mk.injEq] at hs
      obtain ⟨i, hi, rfl, rfl⟩ := hs
      simp only [Option.bind_eq_some_iff] at hz
      obtain ⟨i0, hi0, hz0⟩ := hz
      have h2 := zAa _ _ _ _ hf
      simp only [Array.toArray_toList] at h2
      simp [execOp, Instr.build, zeroValue, typeInfo, sizeOf, hi0, hz0, hi, zg hu, h2]
    · cases hs
theorem zJq {z : List Value} {sz : Nat} {parts : List (Nat × Operand)} {cs : List Value} (hs : zKj P t = some (z, sz)) (hf : kn (fun i => some (i * sz, sz)) z (parts.map fun q => (q.1, ev f q.2)) = some cs) (hd : Nat.blt d n = true)
    (k : CL P n ops rest N (upd f d (.agg cs.toArray)) A) : CL P n ops (⟨some d, .build t parts.toArray, ty, p, af, none⟩ :: rest) N f A := z5 hd (zJx hs hf) k
end
end Go.Sc
