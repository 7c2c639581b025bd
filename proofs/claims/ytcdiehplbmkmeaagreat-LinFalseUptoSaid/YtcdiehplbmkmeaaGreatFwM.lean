import Derived.Test.YtcdiehplbmkmeaaGreatFwA
import Derived.MapKept
set_option linter.unusedSimpArgs false
set_option linter.unusedVariables false
set_option linter.unusedSectionVars false
namespace Go.Sc
theorem zAI {α : Type} (l : List α) (j : Nat) (f : α → α) (h : j < l.length) : l.modify j f = l.set j (f l[j]) := by
  apply List.ext_getElem?
  intro m
  rw [List.getElem?_modify, List.getElem?_set]
  by_cases hm : j = m
  · subst hm; simp [h]
  · simp [hm]
theorem xp {α β : Type} (f : α → β) : ∀ (l : List α) (j : Nat), (l.eraseIdx j).map f = (l.map f).eraseIdx j
  | [], j => by simp
  | a :: l, 0 => by simp
  | a :: l, j + 1 => by simp [xp f l j]
structure KeyL {κ : Type} [DecidableEq κ] (P : Program) (kt : TypeId) (ke : κ → Value) : Prop where
  desc : ∃ d, P.underlying kt = some d ∧ (∀ a b, Instr.sameNow d (ke a) (ke b) = some (decide (a = b))) ∧ ((∃ q, d = .int q) ∨ d = .string)
  bits : ∀ a, Instr.sameBits 10000 (ke a) (ke a) = true
theorem zDy {P : Program} {kt : TypeId} {q : IntKind} (h : zFj P kt = some q) : KeyL P kt (fun n : Nat => Value.int q n) := by
  unfold zFj at h
  split at h
  · rename_i k hk
    simp at h; subst h
    refine ⟨⟨_, hk, fun a b => ?_, .inl ⟨_, rfl⟩⟩, fun a => ?_⟩
    · simp only [Instr.sameNow, if_true]
      congr 1
      by_cases hab : a = b
      · subst hab; simp
      · rw [decide_eq_false hab, beq_eq_false_iff_ne]; omega
    · simp [Instr.sameBits]
  · cases h
theorem zGD {P : Program} {kt : TypeId} (h : jT P kt = true) : KeyL P kt Value.string := by
  unfold jT at h
  split at h
  · rename_i hk
    refine ⟨⟨_, hk, fun a b => ?_, .inr rfl⟩, fun a => ?_⟩
    · simp only [Instr.sameNow]
      congr 1
      by_cases hab : a = b
      · subst hab; simpa using (MapKept.bytes_beq a a).2 rfl
      · rw [decide_eq_false hab, ← Bool.not_eq_true, MapKept.bytes_beq]; exact hab
    · simp only [Instr.sameBits]; exact (MapKept.bytes_beq a a).2 rfl
  · cases h
def kQ (es : Array MapEntry) (clock : Nat) : Prop := (∀ e ∈ es.toList, e.born < clock) ∧ (es.toList.map (·.born)).Nodup
section
variable {κ : Type} [DecidableEq κ] {P : Program} {kt vt t : TypeId} {ke : κ → Value}
def Res.map (ke : κ → Value) (b : Nat) (kv : List (κ × Value)) : Res where
  fp := [b]
  φ w := ∃ es clock, w.heap[b]? = some (.map es clock) ∧ es.toList.map (fun e => (e.key, e.val)) = kv.map (fun p => (ke p.1, p.2)) ∧ kQ es clock
  st w w' h hb := by
    obtain ⟨es, clock, h1, h2⟩ := h
    exact ⟨es, clock, by rw [hb b (by simp)]; exact h1, h2⟩
  lt w h b' hb' := by
    obtain ⟨es, clock, h1, h2⟩ := h
    simp at hb'; subst hb'
    exact (Array.getElem?_eq_some_iff.1 h1).1
def x9 (k : κ) : List (κ × Value) → Nat → Option (Nat × Value)
  | [], _ => none
  | (x, v) :: r, i => if k = x then some (i, v) else x9 k r (i + 1)
def zEP (k : κ) (kv : List (κ × Value)) : Option Value := (x9 k kv 0).map (·.2)
theorem zE2 (K : KeyL P kt ke) (k : κ) : ∀ (es : List MapEntry) (kv : List (κ × Value)) (i : Nat), es.map (fun e => (e.key, e.val)) = kv.map (fun p => (ke p.1, p.2)) →
    ∀ d, P.underlying kt = some d → (∀ a b, Instr.sameNow d (ke a) (ke b) = some (decide (a = b))) → Instr.findNow d (ke k) es i = some (x9 k kv i)
  | [], [], i, _, d, _, _ => rfl
  | [], _ :: _, i, h, d, _, _ => by simp at h
  | _ :: _, [], i, h, d, _, _ => by simp at h
  | e :: es, (x, v) :: kv, i, h, d, hd, hs => by
    simp only [List.map_cons, List.cons.injEq, Prod.mk.injEq] at h
    obtain ⟨⟨h1, h2⟩, h3⟩ := h
    unfold Instr.findNow x9
    rw [h1, hs]
    by_cases hkx : k = x
    · subst hkx; simp [h2]
    · simp only [hkx, decide_false, if_false]
      exact zE2 K k es kv (i + 1) h3 d hd hs
theorem jS (K : KeyL P kt ke) (k : κ) {es : List MapEntry} {kv : List (κ × Value)} (h : es.map (fun e => (e.key, e.val)) = kv.map (fun p => (ke p.1, p.2))) (w : World) : (Instr.findKey kt (ke k) es).run P w = .ok (x9 k kv 0) w := by
  obtain ⟨d, hd, hs, _⟩ := K.desc
  simp [Instr.findKey, zg hd, zE2 K k es kv 0 h d hd hs]
theorem k6 (K : KeyL P kt ke) (em : Bool) (k : κ) (w : World) : (Instr.checkKey em 10000 kt (ke k)).run P w = .ok () w := by
  obtain ⟨d, hd, hs, hp⟩ := K.desc
  have : ∀ m, (Instr.checkKey em (m + 1) kt (ke k)).run P w = .ok () w := by
    intro m
    unfold Instr.checkKey
    rcases hp with ⟨q, rfl⟩ | rfl
    · simp [zg hd]
    · simp [zg hd]
  exact this 9999
theorem zFX (K : KeyL P kt ke) (k : κ) (w : World) : (Instr.keyThatStays (ke k) (ke k)).run P w = .ok (ke k) w := by
  simp [Instr.keyThatStays, K.bits k]
theorem jl {k : κ} : ∀ {kv : List (κ × Value)} {i j : Nat} {v : Value}, x9 k kv i = some (j, v) → i ≤ j ∧ kv[j - i]? = some (k, v)
  | [], i, j, v, h => by simp [x9] at h
  | (x, u) :: r, i, j, v, h => by
    unfold x9 at h
    split at h
    · rename_i hk
      simp at h
      obtain ⟨rfl, rfl⟩ := h
      subst hk
      simp
    · have := jl h
      refine ⟨by omega, ?_⟩
      rw [show j - i = (j - (i + 1)) + 1 by omega]
      simpa using this.2
def zBz (k : κ) (v : Value) (kv : List (κ × Value)) : List (κ × Value) :=
  match x9 k kv 0 with
  | some (j, _) => kv.set j (k, v)
  | none => kv ++ [(k, v)]
def jo (k : κ) (kv : List (κ × Value)) : List (κ × Value) :=
  match x9 k kv 0 with
  | some (j, _) => kv.eraseIdx j
  | none => kv
theorem xH {w : World} {b : Nat} {es : Array MapEntry} {clock : Nat} (h : w.heap[b]? = some (.map es clock)) : (getObj b).run P w = .ok (.map es clock) w := by
  simp [getObj, Sem.run, h]
theorem xS {w : World} {b : Nat} {es : Array MapEntry} {clock : Nat} (h : w.heap[b]? = some (.map es clock)) (o : Obj) : (setObj b o).run P w = .ok () { w with heap := w.heap.setIfInBounds b o } := by
  simp [setObj, Sem.run, h]
theorem jH {w0 w : World} {S : List Nat} {L : List Res} {i b : Nat} {kv kv' : List (κ × Value)} {es' : Array MapEntry} {clock' : Nat} (hw : Own w0 S L w) (hL : L[i]? = some (Res.map ke b kv))
    (h1 : es'.toList.map (fun e => (e.key, e.val)) = kv'.map (fun p => (ke p.1, p.2))) (h2 : kQ es' clock') : Own w0 S (L.set i (Res.map ke b kv')) { w with heap := w.heap.setIfInBounds b (.map es' clock') } := by
  have hb : b < w.heap.size := hw.lt hL b (by simp [Res.map])
  have := hw.frame1 (r' := Res.map ke b kv') (E := []) hL (Own.mk1 (w' := { w with heap := w.heap.setIfInBounds b (.map es' clock') }) ⟨rfl, rfl, rfl, by simp, fun k hk hS => ?_⟩ ⟨es', clock', ?_, h1, h2⟩ (fun b' hb' => .inl hb'))
  · simpa using this
  · simp only [Res.map, List.mem_singleton] at hS
    simp only [Array.getElem?_setIfInBounds_ne (Ne.symm hS)]
  · simp [Array.getElem?_setIfInBounds_self, hb]
variable {n : Nat} {ops : Array Oper} {N : K} {f : Nat → Value} {rest : List Oper} {d : Nat} {ty : TypeId} {p : String} {af : Array Edge} {x y z : Operand} {w0 : World} {S : List Nat} {L : List Res} {A : World → Prop}
theorem zIp (ke : κ → Value) {o : Option Operand} (ho : o = none) (hd : Nat.blt d n = true) (k : ∀ b, CL P n ops rest N (upd f d (.map (some b))) (Own w0 S (L ++ [Res.map ke b []]))) :
    CL P n ops (⟨some d, .makeMap t o, ty, p, af, none⟩ :: rest) N f (Own w0 S L) := by
  intro w hw
  subst ho
  have hO : Own w [] [Res.map ke w.heap.size []] (w.alloc (.map #[] 0)) :=
    Own.mk1 ⟨rfl, rfl, rfl, by simp, fun k hk _ => heap_alloc_old w _ k hk⟩ ⟨#[], 0, heap_alloc_new w _, rfl, by simp [kQ]⟩ (fun b hb => by simp [Res.map] at hb; right; omega)
  refine xA (w' := w.alloc (.map #[] 0)) ?_ hd (k w.heap.size _ (hw.frame0 hO))
  simp [execOp, Instr.makeMap, newObj, Sem.run]
def x3 (P : Program) (t : TypeId) : Option (TypeId × TypeId) := match P.underlying t with | some (.map k v) => some (k, v) | _ => none
theorem yv (h : x3 P t = some (kt, vt)) : P.underlying t = some (.map kt vt) := by
  unfold x3 at h
  split at h
  · rename_i k v hk; simp at h; obtain ⟨rfl, rfl⟩ := h; exact hk
  · cases h
theorem zDo {v : Value} (h : kM P vt = some v) (w : World) : (zeroValue vt).run P w = .ok v w := by
  simp only [kM, Option.bind_eq_some_iff] at h
  obtain ⟨i0, hi0, hz0⟩ := h
  simp [zeroValue, typeInfo, hi0, hz0]
theorem zLf {b : Nat} {kv : List (κ × Value)} {k : κ} {zv : Value} {res : Option Value} (hg : zEP k kv = res) (K : KeyL P kt ke) (ht : x3 P t = some (kt, vt)) (hz : kM P vt = some zv) (hx : ev f x = .map (some b)) (hy : ev f y = ke k) (hA : ∀ w, A w → (Res.map ke b kv).φ w) :
    RV P f ⟨some d, .lookup t x y true, ty, p, af, none⟩ A (.tuple #[res.getD zv, .bool res.isSome]) := fun w hw => by
  subst hg
  obtain ⟨es, clock, h1, h2, h3⟩ := hA w hw
  have e1 := xH (P := P) h1
  have e2 := k6 K es.isEmpty k w
  have e3 := jS K k h2 w
  have e4 := zDo hz w
  cases hi : x9 k kv 0 with
  | none => simp [execOp, hx, hy, Instr.lookup, zg (yv ht), e1, e2, e3, hi, e4, zEP]
  | some q => simp [execOp, hx, hy, Instr.lookup, zg (yv ht), e1, e2, e3, hi, zEP]
theorem zL8 {b : Nat} {kv : List (κ × Value)} {k : κ} {zv : Value} {res : Option Value} (hg : zEP k kv = res) (K : KeyL P kt ke) (ht : x3 P t = some (kt, vt)) (hz : kM P vt = some zv) (hx : ev f x = .map (some b)) (hy : ev f y = ke k) (hA : ∀ w, A w → (Res.map ke b kv).φ w) :
    RV P f ⟨some d, .lookup t x y false, ty, p, af, none⟩ A (res.getD zv) := fun w hw => by
  subst hg
  obtain ⟨es, clock, h1, h2, h3⟩ := hA w hw
  have e1 := xH (P := P) h1
  have e2 := k6 K es.isEmpty k w
  have e3 := jS K k h2 w
  have e4 := zDo hz w
  cases hi : x9 k kv 0 with
  | none => simp [execOp, hx, hy, Instr.lookup, zg (yv ht), e1, e2, e3, hi, e4, zEP]
  | some q => simp [execOp, hx, hy, Instr.lookup, zg (yv ht), e1, e2, e3, hi, zEP]
theorem zJi {b : Nat} {kv : List (κ × Value)} (ht : x3 P t = some (kt, vt)) (hx : ev f x = .map (some b)) (hA : ∀ w, A w → (Res.map ke b kv).φ w) :
    RV P f ⟨some d, .call ⟨.builtin .len, #[x], #[t]⟩, ty, p, af, none⟩ A (.int .i64 kv.length) := fun w hw => by
  obtain ⟨es, clock, h1, h2, h3⟩ := hA w hw
  have e1 := xH (P := P) h1
  have e2 : es.size = kv.length := by have := congrArg List.length h2; simpa using this
  simp [execOp, resolve, invoke, builtin, Builtin.len_, hx, zg (yv ht), e1, goInt, e2]
theorem zEF {es : Array MapEntry} {clock : Nat} (h : kQ es clock) (e : MapEntry) (he : e.born = clock) : kQ (es.push e) (clock + 1) := by
  refine ⟨fun x hx => ?_, ?_⟩
  · simp only [Array.toList_push, List.mem_append, List.mem_singleton] at hx
    rcases hx with hx | rfl
    · have := h.1 x hx; omega
    · omega
  · simp only [Array.toList_push, List.map_append, List.map_cons, List.map_nil]
    rw [List.nodup_append]
    refine ⟨h.2, by simp, ?_⟩
    intro a ha b hb
    simp at hb; subst hb
    obtain ⟨x, hx, rfl⟩ := List.mem_map.1 ha
    have := h.1 x hx
    omega
theorem zJF (K : KeyL P kt ke) (ht : x3 P t = some (kt, vt)) {i b : Nat} {kv : List (κ × Value)} {k : κ} {v : Value} {w : World} (hw : Own w0 S L w) (hL : L[i]? = some (Res.map ke b kv)) :
    ∃ w', (Instr.mapUpdate t (.map (some b)) (ke k) v).run P w = .ok () w' ∧ Own w0 S (L.set i (Res.map ke b (zBz k v kv))) w' := by
  obtain ⟨es, clock, h1, h2, h3⟩ := hw.holds i _ hL
  have e1 := xH (P := P) h1
  have e2 := k6 K false k w
  have e3 := jS K k h2 w
  cases hi : x9 k kv 0 with
  | none =>
    refine ⟨_, ?_, jH (es' := es.push ⟨ke k, v, clock⟩) (clock' := clock + 1) (kv' := zBz k v kv) hw hL ?_ (zEF h3 _ rfl)⟩
    · simp [Instr.mapUpdate, zg (yv ht), e1, e2, e3, hi, xS (P := P) h1]
    · simp [zBz, hi, h2]
  | some q =>
    obtain ⟨j, u⟩ := q
    obtain ⟨_, hj⟩ := jl hi
    simp only [Nat.sub_zero] at hj
    have hjl : j < es.toList.length := by
      have hl := congrArg List.length h2
      simp only [List.length_map] at hl
      rw [hl]; exact (List.getElem?_eq_some_iff.1 hj).1
    have hkey : (es[j]?.map (·.key)).getD (ke k) = ke k := by
      have := congrArg (·[j]?) h2
      simp only [List.getElem?_map, hj, Option.map_some] at this
      cases he : es[j]? with
      | none => rfl
      | some e =>
        rw [← Array.getElem?_toList] at he
        rw [he] at this
        simp at this
        simp [this.1]
    have e5 := zFX K k w
    refine ⟨_, ?_, jH (es' := es.modify j fun e => { e with key := ke k, val := v }) (clock' := clock) (kv' := zBz k v kv) hw hL ?_ ⟨?_, ?_⟩⟩
    · simp only [Instr.mapUpdate]
      simp [zg (yv ht), e1, e2, e3, hi, xS (P := P) h1]
      rw [hkey, e5]
      simp [xS (P := P) h1]
    · simp only [zBz, hi]
      rw [Array.toList_modify, zAI _ _ _ hjl]
      simp only [List.map_set, h2]
    · intro e he
      rw [Array.toList_modify, zAI _ _ _ hjl] at he
      rcases List.mem_or_eq_of_mem_set he with he | rfl
      · exact h3.1 e he
      · exact h3.1 (es.toList[j]) (List.getElem_mem hjl)
    · rw [Array.toList_modify, zAI _ _ _ hjl]
      simp only [List.map_set]
      have : (es.toList.map (·.born)).set j es.toList[j].born = es.toList.map (·.born) := by
        apply List.ext_getElem?
        intro m
        rw [List.getElem?_set]
        split
        · rename_i hm; subst hm; simp only [List.length_map, hjl, if_true, List.getElem?_map, List.getElem?_eq_getElem hjl, Option.map_some]
        · rfl
      rw [this]; exact h3.2
theorem zLV (i : Nat) {b : Nat} {kv : List (κ × Value)} {k : κ} {v : Value} (K : KeyL P kt ke) (ht : x3 P t = some (kt, vt)) (hx : ev f x = .map (some b)) (hy : ev f y = ke k) (hz : ev f z = v) (hL : L[i]? = some (Res.map ke b kv))
    (kk : CL P n ops rest N f (Own w0 S (L.set i (Res.map ke b (zBz k v kv))))) : CL P n ops (⟨none, .mapUpdate t x y z, ty, p, af, none⟩ :: rest) N f (Own w0 S L) := by
  intro w hw
  obtain ⟨w', hr, hO⟩ := zJF (v := v) K ht hw hL
  refine zAW (w' := w') ?_ (kk _ hO)
  simp [execOp, hx, hy, hz, hr]
theorem zG6 (K : KeyL P kt ke) (ht : x3 P t = some (kt, vt)) {i b : Nat} {kv : List (κ × Value)} {k : κ} {w : World} {u : TypeId} (hw : Own w0 S L w) (hL : L[i]? = some (Res.map ke b kv)) :
    ∃ w', (Builtin.delete_ #[t, u] ty #[.map (some b), ke k]).run P w = .ok (.tuple #[]) w' ∧ Own w0 S (L.set i (Res.map ke b (jo k kv))) w' := by
  obtain ⟨es, clock, h1, h2, h3⟩ := hw.holds i _ hL
  have e1 := xH (P := P) h1
  have e2 := k6 K es.isEmpty k w
  have e3 := jS K k h2 w
  cases hi : x9 k kv 0 with
  | none =>
    refine ⟨_, ?_, jH (es' := es) (clock' := clock) (kv' := jo k kv) hw hL (by simp [jo, hi, h2]) h3⟩
    simp [Builtin.delete_, zg (yv ht), e1, e2, e3, hi, xS (P := P) h1]
  | some q =>
    obtain ⟨j, u'⟩ := q
    obtain ⟨_, hj⟩ := jl hi
    simp only [Nat.sub_zero] at hj
    have hjl : j < es.toList.length := by
      have hl := congrArg List.length h2
      simp only [List.length_map] at hl
      rw [hl]; exact (List.getElem?_eq_some_iff.1 hj).1
    have hjs : j < es.size := by simpa using hjl
    have htl : (es.eraseIdxIfInBounds j).toList = es.toList.eraseIdx j := by
      simp [Array.eraseIdxIfInBounds, hjs]
    refine ⟨_, ?_, jH (es' := es.eraseIdxIfInBounds j) (clock' := clock) (kv' := jo k kv) hw hL ?_ ⟨?_, ?_⟩⟩
    · simp [Builtin.delete_, zg (yv ht), e1, e2, e3, hi, xS (P := P) h1]
    · rw [htl]
      simp only [jo, hi]
      rw [xp, xp, h2]
    · rw [htl]; exact fun e he => h3.1 e (List.mem_of_mem_eraseIdx he)
    · rw [htl, xp]; exact h3.2.sublist (List.eraseIdx_sublist _ _)
end
end Go.Sc
