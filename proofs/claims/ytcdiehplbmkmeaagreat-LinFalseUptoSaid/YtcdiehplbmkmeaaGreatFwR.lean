import Derived.Test.YtcdiehplbmkmeaaGreatFwU
import Derived.Maps.RangeRun
set_option linter.unusedSimpArgs false
set_option linter.unusedVariables false
set_option linter.unusedSectionVars false
namespace Go.Sc
open Go.ChangeMaps (setBlock)
section
variable {κ : Type} [DecidableEq κ] {P : Program} {kt vt t : TypeId} {ke : κ → Value}
def Res.rng (ke : κ → Value) (b r : Nat) (kv todo : List (κ × Value)) : Res where
  fp := [b, r]
  φ w := ∃ es clock since seen c0, w.heap[b]? = some (.map es clock) ∧ w.heap[r]? = some (.mapIter (some b) since seen c0) ∧ es.toList.map (fun e => (e.key, e.val)) = kv.map (fun p => (ke p.1, p.2)) ∧ kQ es clock ∧
    (∀ e ∈ es.toList, e.born < since) ∧ (since ≤ c0 ∧ since ≤ clock) ∧ (leftOf es seen).toList.map (fun e => (e.key, e.val)) = todo.map (fun p => (ke p.1, p.2))
  st w w' h hb := by
    obtain ⟨es, clock, since, seen, c0, h1, h2, h3⟩ := h
    exact ⟨es, clock, since, seen, c0, by rw [hb b (by simp)]; exact h1, by rw [hb r (by simp)]; exact h2, h3⟩
  lt w h b' hb' := by
    obtain ⟨es, clock, since, seen, c0, h1, h2, h3⟩ := h
    simp at hb'
    rcases hb' with rfl | rfl
    · exact (Array.getElem?_eq_some_iff.1 h1).1
    · exact (Array.getElem?_eq_some_iff.1 h2).1
def Res.rnl (ke : κ → Value) (b r : Nat) (kv todo : List (κ × Value)) (k : κ) (v : Value) : Res where
  fp := [b, r]
  φ w := ∃ (es : Array MapEntry) (clock since : Nat) (seen : Array Nat) (e : MapEntry), w.heap[b]? = some (.map es clock) ∧ w.heap[r]? = some (.mapIter (some b) since (seen.push e.born) clock) ∧ es.toList.map (fun e => (e.key, e.val)) = kv.map (fun p => (ke p.1, p.2)) ∧ kQ es clock ∧
    (∀ e ∈ es.toList, e.born < since) ∧ since ≤ clock ∧ (leftOf es (seen.push e.born)).toList.map (fun e => (e.key, e.val)) = todo.map (fun p => (ke p.1, p.2)) ∧ e ∈ es.toList ∧ e.key = ke k ∧ e.val = v
  st w w' h hb := by
    obtain ⟨es, clock, since, seen, e, h1, h2, h3⟩ := h
    exact ⟨es, clock, since, seen, e, by rw [hb b (by simp)]; exact h1, by rw [hb r (by simp)]; exact h2, h3⟩
  lt w h b' hb' := by
    obtain ⟨es, clock, since, seen, e, h1, h2, h3⟩ := h
    simp at hb'
    rcases hb' with rfl | rfl
    · exact (Array.getElem?_eq_some_iff.1 h1).1
    · exact (Array.getElem?_eq_some_iff.1 h2).1
theorem zIz {w : World} {b r : Nat} {kv todo : List (κ × Value)} {k : κ} {v : Value} (h : (Res.rnl ke b r kv todo k v).φ w) : (Res.rng ke b r kv todo).φ w := by
  obtain ⟨es, clock, since, seen, e, h1, h2, h3, h4, h5, h6, h7, _⟩ := h
  exact ⟨es, clock, since, _, clock, h1, h2, h3, h4, h5, ⟨h6, h6⟩, h7⟩
theorem zI2 {w : World} {b r : Nat} {kv todo : List (κ × Value)} (h : (Res.rng ke b r kv todo).φ w) : (Res.map ke b kv).φ w := by
  obtain ⟨es, clock, since, seen, c0, h1, h2, h3, h4, h5⟩ := h
  exact ⟨es, clock, h1, h3, h4⟩
theorem zD2 (es : Array MapEntry) : leftOf es #[] = es := by simp [leftOf]
theorem zDa {es : Array MapEntry} {seen : Array Nat} {e : MapEntry} {s t : List MapEntry} (h : (leftOf es seen).toList = s ++ e :: t) (hn : (es.toList.map (·.born)).Nodup) : (leftOf es (seen.push e.born)).toList = s ++ t := by
  have h1 : (leftOf es (seen.push e.born)).toList = (leftOf es seen).toList.filter fun x => x.born != e.born := by
    simp only [leftOf, Array.toList_filter, List.filter_filter]
    congr 1
    funext x
    simp [Array.contains_push, Bool.and_comm]
    by_cases hx : x.born = e.born <;> simp [hx]
  have h2 : ((leftOf es seen).toList.map (·.born)).Nodup := by
    refine hn.sublist (List.Sublist.map _ ?_)
    simp only [leftOf, Array.toList_filter]
    exact List.filter_sublist
  rw [h1, h]
  rw [h, List.map_append, List.map_cons, List.nodup_append] at h2
  obtain ⟨h3, h4, h5⟩ := h2
  rw [List.nodup_cons] at h4
  rw [List.filter_append, List.filter_cons_of_neg (by simp)]
  congr 1
  · refine List.filter_eq_self.2 fun x hx => ?_
    have := h5 x.born (List.mem_map_of_mem hx) e.born (by simp)
    simpa using this
  · refine List.filter_eq_self.2 fun x hx => ?_
    have : x.born ≠ e.born := fun h => h4.1 (h ▸ List.mem_map_of_mem hx)
    simpa using this
variable {n : Nat} {ops : Array Oper} {N : K} {f : Nat → Value} {rest : List Oper} {d : Nat} {ty : TypeId} {p : String} {af : Array Edge} {x y z : Operand} {w0 : World} {S : List Nat} {L : List Res} {A : World → Prop}
theorem KeyL.inj (K : KeyL P kt ke) {a b : κ} (h : ke a = ke b) : a = b := by
  obtain ⟨d, _, hs, _⟩ := K.desc
  have h1 := hs a b
  have h2 := hs b b
  rw [h, h2] at h1
  simpa using h1.symm
theorem zH3 (i : Nat) {b : Nat} {kv : List (κ × Value)} (ht : x3 P t = some (kt, vt)) (hx : ev f x = .map (some b)) (hL : L[i]? = some (Res.map ke b kv)) (hd : Nat.blt d n = true)
    (k : ∀ r, CL P n ops rest N (upd f d (.pointer (some ⟨r, 0, none⟩))) (Own w0 S (L.set i (Res.rng ke b r kv kv)))) :
    CL P n ops (⟨some d, .range t x, ty, p, af, none⟩ :: rest) N f (Own w0 S L) := by
  intro w hw
  obtain ⟨es, clock, h1, h2, h3⟩ := hw.holds i _ hL
  have hb : b < w.heap.size := hw.lt hL b (by simp [Res.map])
  have e1 := xH (P := P) h1
  have hO := hw.frame1 (r' := Res.rng ke b w.heap.size kv kv) (E := []) hL (Own.mk1 (w' := w.alloc (.mapIter (some b) clock #[] clock)) ⟨rfl, rfl, rfl, by simp, fun k hk _ => heap_alloc_old w _ hk⟩
    ⟨es, clock, clock, #[], clock, by rw [heap_alloc_old w _ hb]; exact h1, heap_alloc_new w _, h2, h3, h3.1, ⟨Nat.le_refl _, Nat.le_refl _⟩, by rw [zD2]; exact h2⟩ (fun b' hb' => by
      simp only [Res.rng, List.mem_cons, List.not_mem_nil, or_false] at hb'
      rcases hb' with rfl | rfl
      · left; simp [Res.map]
      · right; exact Nat.le_refl _))
  refine xA (w' := w.alloc (.mapIter (some b) clock #[] clock)) ?_ hd (k w.heap.size _ (by simpa using hO))
  simp [execOp, hx, Instr.range, zg (yv ht), e1, newObj, Sem.run]
theorem zI7 {i b r : Nat} {kv todo : List (κ × Value)} {w : World} (hw : Own w0 S L w) (hL : L[i]? = some (Res.rng ke b r kv todo)) (ty : TypeId) :
    (todo = [] ∧ (Instr.next (.pointer (some ⟨r, 0, none⟩)) false ty).run P w = .ok (.tuple #[.bool false]) w) ∨
    ∃ l1 k v l2 w', todo = l1 ++ (k, v) :: l2 ∧ (Instr.next (.pointer (some ⟨r, 0, none⟩)) false ty).run P w = .ok (.tuple #[.bool true, ke k, v]) w' ∧ Own w0 S (L.set i (Res.rnl ke b r kv (l1 ++ l2) k v)) w' := by
  obtain ⟨es, clock, since, seen, c0, h1, h2, h3, h4, h5, h6, h7⟩ := hw.holds i _ hL
  rcases run_next_at (P := P) w ty r b since c0 seen es clock h2 h1 h5 h6.1 with ⟨h8, h9⟩ | ⟨e, he, w1, hw1, hrun⟩
  · left
    refine ⟨?_, h9⟩
    have : (leftOf es seen).toList.length = 0 := by simpa using h8
    have h10 := congrArg List.length h7
    simp only [List.length_map] at h10
    exact List.eq_nil_of_length_eq_zero (by omega)
  · right
    obtain ⟨s, t, hst⟩ := List.append_of_mem he
    rw [hst, List.map_append, List.map_cons] at h7
    obtain ⟨l1, l2', ht, hl1, hl2⟩ := List.map_eq_append_iff.1 h7.symm
    obtain ⟨q, l2, rfl, hq, hl3⟩ := List.map_eq_cons_iff.1 hl2
    obtain ⟨k, v⟩ := q
    simp only [Prod.mk.injEq] at hq
    have hbr : b ≠ r := by rintro rfl; rw [h1] at h2; cases h2
    have hr : r < w.heap.size := (Array.getElem?_eq_some_iff.1 h2).1
    refine ⟨l1, k, v, l2, setBlock w1 r (.mapIter (some b) since (seen.push e.born) clock), ht, by rw [hrun, hq.1, hq.2], ?_⟩
    have hh : w1.heap = w.heap := by rcases hw1 with rfl | rfl <;> rfl
    have hO := hw.frame1 (r' := Res.rnl ke b r kv (l1 ++ l2) k v) (E := []) hL (Own.mk1 (w' := setBlock w1 r (.mapIter (some b) since (seen.push e.born) clock)) ⟨?_, ?_, ?_, ?_, fun k hk hS => ?_⟩
      ⟨es, clock, since, seen, e, ?_, ?_, h3, h4, h5, h6.2, ?_, ?_, hq.1.symm, hq.2.symm⟩ (fun b' hb' => .inl hb'))
    · simpa using hO
    · rcases hw1 with rfl | rfl <;> rfl
    · rcases hw1 with rfl | rfl <;> rfl
    · rcases hw1 with rfl | rfl <;> rfl
    · simp [setBlock, hh]
    · simp only [Res.rng, List.mem_cons, List.not_mem_nil, or_false, not_or] at hS
      simp only [setBlock, hh, Array.getElem?_setIfInBounds_ne (Ne.symm hS.2)]
    · simp only [setBlock, hh, Array.getElem?_setIfInBounds_ne (Ne.symm hbr)]; exact h1
    · simp [setBlock, hh, Array.getElem?_setIfInBounds_self, hr]
    · rw [zDa hst h4.2, List.map_append, List.map_append, hl1, hl3]
    · have : e ∈ (leftOf es seen).toList := by rw [hst]; simp
      simp only [leftOf, Array.toList_filter] at this
      exact (List.mem_filter.1 this).1
theorem zKM (i : Nat) {b r : Nat} {kv todo : List (κ × Value)} (hx : ev f x = .pointer (some ⟨r, 0, none⟩)) (hL : L[i]? = some (Res.rng ke b r kv todo)) (hd : Nat.blt d n = true)
    (k0 : todo = [] → CL P n ops rest N (upd f d (.tuple #[.bool false])) (Own w0 S L))
    (k1 : ∀ l1 k v l2, todo = l1 ++ (k, v) :: l2 → CL P n ops rest N (upd f d (.tuple #[.bool true, ke k, v])) (Own w0 S (L.set i (Res.rnl ke b r kv (l1 ++ l2) k v)))) :
    CL P n ops (⟨some d, .next x false, ty, p, af, none⟩ :: rest) N f (Own w0 S L) := by
  intro w hw
  rcases zI7 (P := P) hw hL ty with ⟨h0, hr⟩ | ⟨l1, k, v, l2, w', ht, hr, hO⟩
  · exact xA (w' := w) (by simp [execOp, hx, hr]) hd (k0 h0 _ hw)
  · exact xA (w' := w') (by simp [execOp, hx, hr]) hd (k1 l1 k v l2 ht _ hO)
theorem Own.rnlEnd {w : World} (i : Nat) {b r : Nat} {kv todo : List (κ × Value)} {k : κ} {v : Value} (h : Own w0 S L w) (hL : L[i]? = some (Res.rnl ke b r kv todo k v)) : Own w0 S (L.set i (Res.rng ke b r kv todo)) w :=
  h.turn hL zIz (by simp [Res.rnl, Res.rng])
theorem zIX (i : Nat) {b r : Nat} {kv todo : List (κ × Value)} {k : κ} {v : Value} (hx : ev f x = .pointer (some ⟨r, 0, none⟩)) (hL : L[i]? = some (Res.rnl ke b r kv todo k v)) (hd : Nat.blt d n = true)
    (kk : CL P n ops rest N (upd f d (.tuple #[ke k, v])) (Own w0 S (L.set i (Res.rng ke b r kv todo)))) :
    CL P n ops (⟨some d, .entry x, ty, p, af, none⟩ :: rest) N f (Own w0 S L) := by
  intro w hw
  obtain ⟨es, clock, since, seen, e, h1, h2, h3, h4, h5, h6, h7, h8, h9, h10⟩ := hw.holds i _ hL
  have hr := run_entry_at (P := P) w r b since seen es clock e h2 h1 h8 h4.2
  rw [h9, h10] at hr
  exact xA (w' := w) (by simp [execOp, hx, hr]) hd (kk _ (hw.rnlEnd i hL))
theorem Own.rngEnd {w : World} (i : Nat) {b r : Nat} {kv todo : List (κ × Value)} (h : Own w0 S L w) (hL : L[i]? = some (Res.rng ke b r kv todo)) : Own w0 S (L.set i (Res.map ke b kv)) w :=
  h.turn hL zI2 (by simp [Res.map, Res.rng])
theorem zIv (i : Nat) {b : Nat} {kv : List (κ × Value)} {k : κ} {u : TypeId} (K : KeyL P kt ke) (ht : x3 P t = some (kt, vt)) (hx : ev f x = .map (some b)) (hy : ev f y = ke k) (hL : L[i]? = some (Res.map ke b kv))
    (kk : CL P n ops rest N f (Own w0 S (L.set i (Res.map ke b (jo k kv))))) : CL P n ops (⟨none, .call ⟨.builtin .delete, #[x, y], #[t, u]⟩, ty, p, af, none⟩ :: rest) N f (Own w0 S L) := by
  intro w hw
  obtain ⟨w', hr, hO⟩ := zG6 (ty := ty) (u := u) (k := k) K ht hw hL
  refine zEv (w' := w') (v := .tuple #[]) ?_ (kk _ hO)
  simp [execOp, resolve, invoke, builtin, hx, hy, hr]
theorem zGL (K : KeyL P kt ke) (ht : x3 P t = some (kt, vt)) {i b r : Nat} {kv todo : List (κ × Value)} {k : κ} {w : World} {u : TypeId} (hw : Own w0 S L w) (hL : L[i]? = some (Res.rng ke b r kv todo)) (hk : ∀ q ∈ todo, q.1 ≠ k) :
    ∃ w', (Builtin.delete_ #[t, u] ty #[.map (some b), ke k]).run P w = .ok (.tuple #[]) w' ∧ Own w0 S (L.set i (Res.rng ke b r (jo k kv) todo)) w' := by
  obtain ⟨es, clock, since, seen, c0, h1, h2, h3, h4, h5, h6, h7⟩ := hw.holds i _ hL
  have e1 := xH (P := P) h1
  have e2 := k6 K es.isEmpty k w
  have e3 := jS K k h3 w
  have hbr : b ≠ r := by rintro rfl; rw [h1] at h2; cases h2
  have hbl : b < w.heap.size := (Array.getElem?_eq_some_iff.1 h1).1
  have fin : ∀ (es' : Array MapEntry) (kv' : List (κ × Value)), es'.toList.map (fun e => (e.key, e.val)) = kv'.map (fun p => (ke p.1, p.2)) → kQ es' clock → (∀ e ∈ es'.toList, e.born < since) → (leftOf es' seen).toList.map (fun e => (e.key, e.val)) = todo.map (fun p => (ke p.1, p.2)) →
      Own w0 S (L.set i (Res.rng ke b r kv' todo)) { w with heap := w.heap.setIfInBounds b (.map es' clock) } := by
    intro es' kv' q1 q2 q3 q4
    have hO := hw.frame1 (r' := Res.rng ke b r kv' todo) (E := []) hL (Own.mk1 (w' := { w with heap := w.heap.setIfInBounds b (.map es' clock) }) ⟨rfl, rfl, rfl, by simp, fun k hk hS => ?_⟩
      ⟨es', clock, since, seen, c0, by simp [Array.getElem?_setIfInBounds_self, hbl], by simp only [Array.getElem?_setIfInBounds_ne hbr]; exact h2, q1, q2, q3, h6, q4⟩ (fun b' hb' => .inl hb'))
    · simpa using hO
    · simp only [Res.rng, List.mem_cons, List.not_mem_nil, or_false, not_or] at hS
      simp only [Array.getElem?_setIfInBounds_ne (Ne.symm hS.1)]
  cases hi : x9 k kv 0 with
  | none =>
    refine ⟨_, ?_, fin es (jo k kv) (by simp [jo, hi, h3]) h4 h5 h7⟩
    simp [Builtin.delete_, zg (yv ht), e1, e2, e3, hi, xS (P := P) h1]
  | some q =>
    obtain ⟨j, u'⟩ := q
    obtain ⟨_, hj⟩ := jl hi
    simp only [Nat.sub_zero] at hj
    have hjl : j < es.toList.length := by
      have hl := congrArg List.length h3
      simp only [List.length_map] at hl
      rw [hl]; exact (List.getElem?_eq_some_iff.1 hj).1
    have hjs : j < es.size := by simpa using hjl
    have htl : (es.eraseIdxIfInBounds j).toList = es.toList.eraseIdx j := by
      simp [Array.eraseIdxIfInBounds, hjs]
    have hey : (es.toList[j]).key = ke k := by
      have := congrArg (·[j]?) h3
      simp only [List.getElem?_map, hj, Option.map_some, List.getElem?_eq_getElem hjl] at this
      simpa using congrArg (fun o => o.map Prod.fst) this
    have hseen : (es.toList.eraseIdx j).filter (fun e => !seen.contains e.born) = es.toList.filter (fun e => !seen.contains e.born) := by
      rw [List.eraseIdx_eq_take_drop_succ]
      have h0 : es.toList = es.toList.take j ++ es.toList[j] :: es.toList.drop (j + 1) := by
        rw [← List.drop_eq_getElem_cons hjl, List.take_append_drop]
      have h9 : (!seen.contains (es.toList[j]).born) = false := by
        cases hc : (!seen.contains (es.toList[j]).born) with
        | false => rfl
        | true =>
          exfalso
          have hm : es.toList[j] ∈ (leftOf es seen).toList := by
            simp only [leftOf, Array.toList_filter]
            exact List.mem_filter.2 ⟨List.getElem_mem hjl, hc⟩
          have hm2 : ((es.toList[j]).key, (es.toList[j]).val) ∈ todo.map (fun p => (ke p.1, p.2)) := by
            rw [← h7]; exact List.mem_map_of_mem (f := fun e : MapEntry => (e.key, e.val)) hm
          obtain ⟨q, hq, he⟩ := List.mem_map.1 hm2
          simp only [Prod.mk.injEq] at he
          exact hk q hq (K.inj (he.1.trans hey))
      conv => rhs; rw [h0]
      rw [List.filter_append, List.filter_append, List.filter_cons_of_neg (by rw [h9]; simp)]
    refine ⟨_, ?_, fin (es.eraseIdxIfInBounds j) (jo k kv) ?_ ⟨?_, ?_⟩ ?_ ?_⟩
    · simp [Builtin.delete_, zg (yv ht), e1, e2, e3, hi, xS (P := P) h1]
    · rw [htl]
      simp only [jo, hi]
      rw [xp, xp, h3]
    · rw [htl]; exact fun e he => h4.1 e (List.mem_of_mem_eraseIdx he)
    · rw [htl, xp]; exact h4.2.sublist (List.eraseIdx_sublist _ _)
    · rw [htl]; exact fun e he => h5 e (List.mem_of_mem_eraseIdx he)
    · simp only [leftOf, Array.toList_filter, htl, hseen]
      simpa only [leftOf, Array.toList_filter] using h7
theorem zH2 (i : Nat) {b r : Nat} {kv todo : List (κ × Value)} {k : κ} {u : TypeId} (K : KeyL P kt ke) (ht : x3 P t = some (kt, vt)) (hx : ev f x = .map (some b)) (hy : ev f y = ke k) (hL : L[i]? = some (Res.rng ke b r kv todo)) (hk : ∀ q ∈ todo, q.1 ≠ k)
    (kk : CL P n ops rest N f (Own w0 S (L.set i (Res.rng ke b r (jo k kv) todo)))) : CL P n ops (⟨none, .call ⟨.builtin .delete, #[x, y], #[t, u]⟩, ty, p, af, none⟩ :: rest) N f (Own w0 S L) := by
  intro w hw
  obtain ⟨w', hr, hO⟩ := zGL (ty := ty) (u := u) (k := k) K ht hw hL hk
  refine zEv (w' := w') (v := .tuple #[]) ?_ (kk _ hO)
  simp [execOp, resolve, invoke, builtin, hx, hy, hr]
end
section
variable {κ α : Type} [DecidableEq κ]
def zf (k : κ) : List (κ × α) → Option α
  | [] => none
  | (x, v) :: r => if k = x then some v else zf k r
def y6 (k : κ) (v : α) : List (κ × α) → List (κ × α)
  | [] => [(k, v)]
  | (x, u) :: r => if k = x then (k, v) :: r else (x, u) :: y6 k v r
def kC (k : κ) : List (κ × α) → List (κ × α)
  | [] => []
  | (x, u) :: r => if k = x then r else (x, u) :: kC k r
def vA (ve : α → Value) (kv : List (κ × α)) : List (κ × Value) := kv.map fun p => (p.1, ve p.2)
theorem zGF (ve : α → Value) (k : κ) : ∀ (kv : List (κ × α)) (i : Nat), (x9 k (vA ve kv) i).map (·.2) = (zf k kv).map ve
  | [], i => rfl
  | (x, u) :: r, i => by
    simp only [vA, List.map_cons, x9, zf]
    by_cases h : k = x
    · simp [h]
    · simp only [h, if_false]; exact zGF ve k r (i + 1)
theorem zHM (ve : α → Value) (k : κ) (kv : List (κ × α)) : zEP k (vA ve kv) = (zf k kv).map ve := zGF ve k kv 0
theorem zAJ (k : κ) : ∀ (kv : List (κ × Value)) (i : Nat), x9 k kv (i + 1) = (x9 k kv i).map fun q => (q.1 + 1, q.2)
  | [], i => rfl
  | (x, u) :: r, i => by
    simp only [x9]
    by_cases h : k = x
    · simp [h]
    · simp only [h, if_false]; exact zAJ k r (i + 1)
theorem zEk (k : κ) (v : Value) (x : κ) (u : Value) (kv : List (κ × Value)) : zBz k v ((x, u) :: kv) = if k = x then (k, v) :: kv else (x, u) :: zBz k v kv := by
  unfold zBz
  simp only [x9]
  by_cases h : k = x
  · simp [h]
  · simp only [h, if_false, zAJ k kv 0]
    cases x9 k kv 0 <;> simp
theorem zEl (k : κ) (x : κ) (u : Value) (kv : List (κ × Value)) : jo k ((x, u) :: kv) = if k = x then kv else (x, u) :: jo k kv := by
  unfold jo
  simp only [x9]
  by_cases h : k = x
  · simp [h]
  · simp only [h, if_false, zAJ k kv 0]
    cases x9 k kv 0 <;> simp
theorem zHZ (ve : α → Value) (k : κ) (v : α) : ∀ kv : List (κ × α), zBz k (ve v) (vA ve kv) = vA ve (y6 k v kv)
  | [] => rfl
  | (x, u) :: r => by
    have ih := zHZ ve k v r
    simp only [vA, List.map_cons] at ih ⊢
    rw [zEk, ih]
    by_cases h : k = x
    · simp [y6, h]
    · simp [y6, h]
theorem zEg (ve : α → Value) (k : κ) : ∀ kv : List (κ × α), jo k (vA ve kv) = vA ve (kC k kv)
  | [] => rfl
  | (x, u) :: r => by
    have ih := zEg ve k r
    simp only [vA, List.map_cons] at ih ⊢
    rw [zEl, ih]
    by_cases h : k = x
    · simp [kC, h]
    · simp [kC, h]
def Res.mp (ke : κ → Value) (ve : α → Value) (b : Nat) (kv : List (κ × α)) : Res := Res.map ke b (vA ve kv)
def Res.rg (ke : κ → Value) (ve : α → Value) (b r : Nat) (kv todo : List (κ × α)) : Res := Res.rng ke b r (vA ve kv) (vA ve todo)
def Res.rl (ke : κ → Value) (ve : α → Value) (b r : Nat) (kv todo : List (κ × α)) (k : κ) (a : α) : Res := Res.rnl ke b r (vA ve kv) (vA ve todo) k (ve a)
variable {P : Program} {kt vt t : TypeId} {ke : κ → Value} {ve : α → Value}
variable {n : Nat} {ops : Array Oper} {N : K} {f : Nat → Value} {rest : List Oper} {d : Nat} {ty : TypeId} {p : String} {af : Array Edge} {x y z : Operand} {w0 : World} {S : List Nat} {L : List Res} {A : World → Prop}
theorem zAo (ke : κ → Value) (ve : α → Value) {o : Option Operand} (ho : o = none) (hd : Nat.blt d n = true) (k : ∀ b, CL P n ops rest N (upd f d (.map (some b))) (Own w0 S (L ++ [Res.mp ke ve b ([] : List (κ × α))]))) :
    CL P n ops (⟨some d, .makeMap t o, ty, p, af, none⟩ :: rest) N f (Own w0 S L) := zIp ke ho hd k
theorem zKW {b : Nat} {kv : List (κ × α)} {k : κ} {zv : α} (K : KeyL P kt ke) (ht : x3 P t = some (kt, vt)) (hz : kM P vt = some (ve zv)) (hx : ev f x = .map (some b)) (hy : ev f y = ke k) (hA : ∀ w, A w → (Res.mp ke ve b kv).φ w) :
    RV P f ⟨some d, .lookup t x y true, ty, p, af, none⟩ A (.tuple #[ve ((zf k kv).getD zv), .bool (zf k kv).isSome]) := by
  have := zLf (P := P) (f := f) (d := d) (ty := ty) (p := p) (af := af) (x := x) (y := y) (t := t) (zHM ve k kv) K ht hz hx hy hA
  cases h : zf k kv <;> simpa [h] using this
theorem zEs {b : Nat} {kv : List (κ × α)} {k : κ} {zv : α} (K : KeyL P kt ke) (ht : x3 P t = some (kt, vt)) (hz : kM P vt = some (ve zv)) (hx : ev f x = .map (some b)) (hy : ev f y = ke k) (hA : ∀ w, A w → (Res.mp ke ve b kv).φ w) :
    RV P f ⟨some d, .lookup t x y false, ty, p, af, none⟩ A (ve ((zf k kv).getD zv)) := by
  have := zL8 (P := P) (f := f) (d := d) (ty := ty) (p := p) (af := af) (x := x) (y := y) (t := t) (zHM ve k kv) K ht hz hx hy hA
  cases h : zf k kv <;> simpa [h] using this
theorem zJE (ke : κ → Value) (ve : α → Value) {b : Nat} {kv : List (κ × α)} (ht : x3 P t = some (kt, vt)) (hx : ev f x = .map (some b)) (hA : ∀ w, A w → (Res.mp ke ve b kv).φ w) :
    RV P f ⟨some d, .call ⟨.builtin .len, #[x], #[t]⟩, ty, p, af, none⟩ A (.int .i64 kv.length) := by
  have := zJi (P := P) (f := f) (d := d) (ty := ty) (p := p) (af := af) (x := x) (t := t) ht hx hA
  simpa [vA] using this
theorem zBi {b : Nat} {kv : List (κ × α)} {k : κ} {zv : α} (K : KeyL P kt ke) (ht : x3 P t = some (kt, vt)) (hz : kM P vt = some (ve zv)) (hx : ev f x = .map (some b)) (hy : ev f y = ke k) (hA : ∀ w, A w → (Res.mp ke ve b kv).φ w) (hd : Nat.blt d n = true)
    (kk : CL P n ops rest N (upd f d (.tuple #[ve ((zf k kv).getD zv), .bool (zf k kv).isSome])) A) : CL P n ops (⟨some d, .lookup t x y true, ty, p, af, none⟩ :: rest) N f A := z5 hd (zKW K ht hz hx hy hA) kk
theorem zCs (ke : κ → Value) (ve : α → Value) {b : Nat} {kv : List (κ × α)} (ht : x3 P t = some (kt, vt)) (hx : ev f x = .map (some b)) (hA : ∀ w, A w → (Res.mp ke ve b kv).φ w) (hd : Nat.blt d n = true)
    (kk : CL P n ops rest N (upd f d (.int .i64 kv.length)) A) : CL P n ops (⟨some d, .call ⟨.builtin .len, #[x], #[t]⟩, ty, p, af, none⟩ :: rest) N f A := z5 hd (zJE ke ve ht hx hA) kk
theorem zAu (i : Nat) {b : Nat} {kv : List (κ × α)} {k : κ} {v : α} (K : KeyL P kt ke) (ht : x3 P t = some (kt, vt)) (hx : ev f x = .map (some b)) (hy : ev f y = ke k) (hz : ev f z = ve v) (hL : L[i]? = some (Res.mp ke ve b kv))
    (kk : CL P n ops rest N f (Own w0 S (L.set i (Res.mp ke ve b (y6 k v kv))))) : CL P n ops (⟨none, .mapUpdate t x y z, ty, p, af, none⟩ :: rest) N f (Own w0 S L) :=
  zLV i K ht hx hy hz hL (by rw [zHZ]; exact kk)
theorem zDU (i : Nat) {b : Nat} {kv : List (κ × α)} {k : κ} {u : TypeId} (K : KeyL P kt ke) (ht : x3 P t = some (kt, vt)) (hx : ev f x = .map (some b)) (hy : ev f y = ke k) (hL : L[i]? = some (Res.mp ke ve b kv))
    (kk : CL P n ops rest N f (Own w0 S (L.set i (Res.mp ke ve b (kC k kv))))) : CL P n ops (⟨none, .call ⟨.builtin .delete, #[x, y], #[t, u]⟩, ty, p, af, none⟩ :: rest) N f (Own w0 S L) :=
  zIv i K ht hx hy hL (by rw [zEg]; exact kk)
theorem zDW (i : Nat) {b : Nat} {kv : List (κ × α)} (ht : x3 P t = some (kt, vt)) (hx : ev f x = .map (some b)) (hL : L[i]? = some (Res.mp ke ve b kv)) (hd : Nat.blt d n = true)
    (k : ∀ r, CL P n ops rest N (upd f d (.pointer (some ⟨r, 0, none⟩))) (Own w0 S (L.set i (Res.rg ke ve b r kv kv)))) :
    CL P n ops (⟨some d, .range t x, ty, p, af, none⟩ :: rest) N f (Own w0 S L) := zH3 i ht hx hL hd k
theorem zHg {ve : α → Value} {todo : List (κ × α)} {l1 l2 : List (κ × Value)} {k : κ} {v : Value} (h : vA ve todo = l1 ++ (k, v) :: l2) : ∃ m1 a m2, todo = m1 ++ (k, a) :: m2 ∧ l1 = vA ve m1 ∧ v = ve a ∧ l2 = vA ve m2 := by
  obtain ⟨m1, m2', h1, h2, h3⟩ := List.map_eq_append_iff.1 h
  obtain ⟨q, m2, rfl, h4, h5⟩ := List.map_eq_cons_iff.1 h3
  obtain ⟨k', a⟩ := q
  simp only [Prod.mk.injEq] at h4
  obtain ⟨rfl, rfl⟩ := h4
  exact ⟨m1, a, m2, h1, h2.symm, rfl, h5.symm⟩
theorem zE3 (i : Nat) {b r : Nat} {kv todo : List (κ × α)} (hx : ev f x = .pointer (some ⟨r, 0, none⟩)) (hL : L[i]? = some (Res.rg ke ve b r kv todo)) (hd : Nat.blt d n = true)
    (k0 : todo = [] → CL P n ops rest N (upd f d (.tuple #[.bool false])) (Own w0 S L))
    (k1 : ∀ l1 k v l2, todo = l1 ++ (k, v) :: l2 → CL P n ops rest N (upd f d (.tuple #[.bool true, ke k, ve v])) (Own w0 S (L.set i (Res.rl ke ve b r kv (l1 ++ l2) k v)))) :
    CL P n ops (⟨some d, .next x false, ty, p, af, none⟩ :: rest) N f (Own w0 S L) := by
  refine zKM i hx hL hd (fun h => k0 (by cases todo with | nil => rfl | cons a l => simp [vA] at h)) (fun l1 k v l2 h => ?_)
  obtain ⟨m1, a, m2, h1, rfl, rfl, rfl⟩ := zHg h
  have := k1 m1 k a m2 h1
  rw [show vA ve m1 ++ vA ve m2 = vA ve (m1 ++ m2) by simp [vA]]
  exact this
theorem zDs (i : Nat) {b r : Nat} {kv todo : List (κ × α)} {k : κ} {a : α} (hx : ev f x = .pointer (some ⟨r, 0, none⟩)) (hL : L[i]? = some (Res.rl ke ve b r kv todo k a)) (hd : Nat.blt d n = true)
    (kk : CL P n ops rest N (upd f d (.tuple #[ke k, ve a])) (Own w0 S (L.set i (Res.rg ke ve b r kv todo)))) :
    CL P n ops (⟨some d, .entry x, ty, p, af, none⟩ :: rest) N f (Own w0 S L) := zIX i hx hL hd kk
theorem zGh (i : Nat) {b r : Nat} {kv todo : List (κ × α)} {k : κ} {u : TypeId} (K : KeyL P kt ke) (ht : x3 P t = some (kt, vt)) (hx : ev f x = .map (some b)) (hy : ev f y = ke k) (hL : L[i]? = some (Res.rg ke ve b r kv todo)) (hk : ∀ q ∈ todo, q.1 ≠ k)
    (kk : CL P n ops rest N f (Own w0 S (L.set i (Res.rg ke ve b r (kC k kv) todo)))) : CL P n ops (⟨none, .call ⟨.builtin .delete, #[x, y], #[t, u]⟩, ty, p, af, none⟩ :: rest) N f (Own w0 S L) :=
  zH2 i K ht hx hy hL (by rintro q hq; obtain ⟨a, ha, rfl⟩ := List.mem_map.1 hq; exact hk a ha) (by rw [zEg]; exact kk)
theorem Own.rgEnd {w : World} (i : Nat) {b r : Nat} {kv todo : List (κ × α)} (h : Own w0 S L w) (hL : L[i]? = some (Res.rg ke ve b r kv todo)) : Own w0 S (L.set i (Res.mp ke ve b kv)) w := h.rngEnd i hL
end
end Go.Sc
