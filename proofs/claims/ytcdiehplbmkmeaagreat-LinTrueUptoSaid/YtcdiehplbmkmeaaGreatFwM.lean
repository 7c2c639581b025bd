import Derived.Test.YtcdiehplbmkmeaaGreatFwA
import Derived.MapKept
set_option linter.unusedSimpArgs false
set_option linter.unusedVariables false
set_option linter.unusedSectionVars false
namespace Go.Sc
theorem zAC {α : Type} (l : List α) (j : Nat) (f : α → α) (h : j < l.length) : l.modify j f = l.set j (f l[j]) := by
  apply List.ext_getElem?
  intro m
  rw [List.getElem?_modify, List.getElem?_set]
  by_cases hm : j = m
  · subst hm; simp [h]
  · simp [hm]
theorem xo {α β : Type} (f : α → β) : ∀ (l : List α) (j : Nat), (l.eraseIdx j).map f = (l.map f).eraseIdx j
  | [], j => by simp
  | a :: l, 0 => by simp
  | a :: l, j + 1 => by simp [xo f l j]
structure KeyL {κ : Type} [DecidableEq κ] (P : Program) (kt : TypeId) (ke : κ → Value) : Prop where
  desc : ∃ d, P.underlying kt = some d ∧ (∀ a b, Instr.sameNow d (ke a) (ke b) = some (decide (a = b))) ∧ ((∃ q, d = .int q) ∨ d = .string)
  bits : ∀ a, Instr.sameBits 10000 (ke a) (ke a) = true
theorem zDx {P : Program} {kt : TypeId} {q : IntKind} (h : zGJ P kt = some q) : KeyL P kt (fun n : Nat => Value.int q n) := by
  unfold zGJ at h
  split at h
  · rename_i k hk
    simp at h; subst h
    refine ⟨⟨_, hk, fun a b => ?_, .inl ⟨_, rfl⟩⟩, fun a => ?_⟩
    · simp only [Instr.sameNow, if_true]
      congr 1
      by_cases hab : a = b
      · subst hab; simp
      · rw [decide_eq_false hab, beq_eq_false_iff_ne]; omega
    · simp [Instr.sameBits]
  · cases h
theorem zGZ {P : Program} {kt : TypeId} (h : jZ P kt = true) : KeyL P kt Value.string := by
  unfold jZ at h
  split at h
  · rename_i hk
    refine ⟨⟨_, hk, fun a b => ?_, .inr rfl⟩, fun a => ?_⟩
    · simp only [Instr.sameNow]
      congr 1
      by_cases hab : a = b
      · subst hab; simpa using (MapKept.bytes_beq a a).2 rfl
      · rw [decide_eq_false hab, ← Bool.not_eq_true, MapKept.bytes_beq]; exact hab
    · simp only [Instr.sameBits]; exact (MapKept.bytes_beq a a).2 rfl
  · cases h
def kW (es : Array MapEntry) (clock : Nat) : Prop := (∀ e ∈ es.toList, e.born < clock) ∧ (es.toList.map (·.born)).Nodup
section
variable {κ : Type} [DecidableEq κ] {P : Program} {kt vt t : TypeId} {ke : κ → Value}
def Res.map (ke : κ → Value) (b : Nat) (kv : List (κ × Value)) : Res where
  fp := [b]
  φ w := ∃ es clock, w.heap[b]? = some (.map es clock) ∧ es.toList.map (fun e => (e.key, e.val)) = kv.map (fun p => (ke p.1, p.2)) ∧ kW es clock
  st w w' h hb := by
    obtain ⟨es, clock, h1, h2⟩ := h
    exact ⟨es, clock, by rw [hb b (by simp)]; exact h1, h2⟩
  lt w h b' hb' := by
    obtain ⟨es, clock, h1, h2⟩ := h
    simp at hb'; subst hb'
    exact (Array.getElem?_eq_some_iff.1 h1).1
def kH (k : κ) : List (κ × Value) → Nat → Option (Nat × Value)
  | [], _ => none
  | (x, v) :: r, i => if k = x then some (i, v) else kH k r (i + 1)
def zEH (k : κ) (kv : List (κ × Value)) : Option Value := (kH k kv 0).map (·.2)
theorem zEt (K : KeyL P kt ke) (k : κ) : ∀ (es : List MapEntry) (kv : List (κ × Value)) (i : Nat), es.map (fun e => (e.key, e.val)) = kv.map (fun p => (ke p.1, p.2)) →
    ∀ d, P.underlying kt = some d → (∀ a b, Instr.sameNow d (ke a) (ke b) = some (decide (a = b))) → Instr.findNow d (ke k) es i = some (kH k kv i)
  | [], [], i, _, d, _, _ => rfl
  | [], _ :: _, i, h, d, _, _ => by simp at h
  | _ :: _, [], i, h, d, _, _ => by simp at h
  | e :: es, (x, v) :: kv, i, h, d, hd, hs => by
    simp only [List.map_cons, List.cons.injEq, Prod.mk.injEq] at h
    obtain ⟨⟨h1, h2⟩, h3⟩ := h
    unfold Instr.findNow kH
    rw [h1, hs]
    by_cases hkx : k = x
    · subst hkx; simp [h2]
    · simp only [hkx, decide_false, if_false]
      exact zEt K k es kv (i + 1) h3 d hd hs
theorem jY (K : KeyL P kt ke) (k : κ) {es : List MapEntry} {kv : List (κ × Value)} (h : es.map (fun e => (e.key, e.val)) = kv.map (fun p => (ke p.1, p.2))) (w : World) : (Instr.findKey kt (ke k) es).run P w = .ok (kH k kv 0) w := by
  obtain ⟨d, hd, hs, _⟩ := K.desc
  simp [Instr.findKey, zg hd, zEt K k es kv 0 h d hd hs]
theorem jE (K : KeyL P kt ke) (em : Bool) (k : κ) (w : World) : (Instr.checkKey em 10000 kt (ke k)).run P w = .ok () w := by
  obtain ⟨d, hd, hs, hp⟩ := K.desc
  have : ∀ m, (Instr.checkKey em (m + 1) kt (ke k)).run P w = .ok () w := by
    intro m
    unfold Instr.checkKey
    rcases hp with ⟨q, rfl⟩ | rfl
    · simp [zg hd]
    · simp [zg hd]
  exact this 9999
theorem zFc (K : KeyL P kt ke) (k : κ) (w : World) : (Instr.keyThatStays (ke k) (ke k)).run P w = .ok (ke k) w := by
  simp [Instr.keyThatStays, K.bits k]
theorem jh {k : κ} : ∀ {kv : List (κ × Value)} {i j : Nat} {v : Value}, kH k kv i = some (j, v) → i ≤ j ∧ kv[j - i]? = some (k, v)
  | [], i, j, v, h => by simp [kH] at h
  | (x, u) :: r, i, j, v, h => by
    unfold kH at h
    split at h
    · rename_i hk
      simp at h
      obtain ⟨rfl, rfl⟩ := h
      subst hk
      simp
    · have := jh h
      refine ⟨by omega, ?_⟩
      rw [show j - i = (j - (i + 1)) + 1 by omega]
      simpa using this.2
def zB7 (k : κ) (v : Value) (kv : List (κ × Value)) : List (κ × Value) :=
  match kH k kv 0 with
  | some (j, _) => kv.set j (k, v)
  | none => kv ++ [(k, v)]
def js (k : κ) (kv : List (κ × Value)) : List (κ × Value) :=
  match kH k kv 0 with
  | some (j, _) => kv.eraseIdx j
  | none => kv
theorem xH {w : World} {b : Nat} {es : Array MapEntry} {clock : Nat} (h : w.heap[b]? = some (.map es clock)) : (getObj b).run P w = .ok (.map es clock) w := by
  simp [getObj, Sem.run, h]
theorem xX {w : World} {b : Nat} {es : Array MapEntry} {clock : Nat} (h : w.heap[b]? = some (.map es clock)) (o : Obj) : (setObj b o).run P w = .ok () { w with heap := w.heap.setIfInBounds b o } := by
  simp [setObj, Sem.run, h]
theorem jM {w0 w : World} {S : List Nat} {L : List Res} {i b : Nat} {kv kv' : List (κ × Value)} {es' : Array MapEntry} {clock' : Nat} (hw : Own w0 S L w) (hL : L[i]? = some (Res.map ke b kv))
    (h1 : es'.toList.map (fun e => (e.key, e.val)) = kv'.map (fun p => (ke p.1, p.2))) (h2 : kW es' clock') : Own w0 S (L.set i (Res.map ke b kv')) { w with heap := w.heap.setIfInBounds b (.map es' clock') } := by
  have hb : b < w.heap.size := hw.lt hL b (by simp [Res.map])
  have := hw.frame1 (r' := Res.map ke b kv') (E := []) hL (Own.mk1 (w' := { w with heap := w.heap.setIfInBounds b (.map es' clock') }) ⟨rfl, rfl, rfl, by simp, fun k hk hS => ?_⟩ ⟨es', clock', ?_, h1, h2⟩ (fun b' hb' => .inl hb'))
  · simpa using this
  · simp only [Res.map, List.mem_singleton] at hS
    simp only [Array.getElem?_setIfInBounds_ne (Ne.symm hS)]
  · simp [Array.getElem?_setIfInBounds_self, hb]
variable {n : Nat} {ops : Array Oper} {N : K} {f : Nat → Value} {rest : List Oper} {d : Nat} {ty : TypeId} {p : String} {af : Array Edge} {x y z : Operand} {w0 : World} {S : List Nat} {L : List Res} {A : World → Prop}
theorem zID (ke : κ → Value) {o : Option Operand} (ho : o = none) (hd : Nat.blt d n = true) (k : ∀ b, CL P n ops rest N (upd f d (.map (some b))) (Own w0 S (L ++ [Res.map ke b []]))) :
    CL P n ops (⟨some d, .makeMap t o, ty, p, af, none⟩ :: rest) N f (Own w0 S L) := by
  intro w hw
  subst ho
  have hO : Own w [] [Res.map ke w.heap.size []] (w.alloc (.map #[] 0)) :=
    Own.mk1 ⟨rfl, rfl, rfl, by simp, fun k hk _ => heap_alloc_old w _ k hk⟩ ⟨#[], 0, heap_alloc_new w _, rfl, by simp [kW]⟩ (fun b hb => by simp [Res.map] at hb; right; omega)
  refine xC (w' := w.alloc (.map #[] 0)) ?_ hd (k w.heap.size _ (hw.frame0 hO))
  simp [execOp, Instr.makeMap, newObj, Sem.run]
def x5 (P : Program) (t : TypeId) : Option (TypeId × TypeId) := match P.underlying t with | some (.map k v) => some (k, v) | _ => none
theorem yz (h : x5 P t = some (kt, vt)) : P.underlying t = some (.map kt vt) := by
  unfold x5 at h
  split at h
  · rename_i k v hk; simp at h; obtain ⟨rfl, rfl⟩ := h; exact hk
  · cases h
theorem zDp {v : Value} (h : kN P vt = some v) (w : World) : (zeroValue vt).run P w = .ok v w := by
  simp only [kN, Option.bind_eq_some_iff] at h
  obtain ⟨i0, hi0, hz0⟩ := h
  simp [zeroValue, typeInfo, hi0, hz0]
theorem zLC {b : Nat} {kv : List (κ × Value)} {k : κ} {zv : Value} {res : Option Value} (hg : zEH k kv = res) (K : KeyL P kt ke) (ht : x5 P t = some (kt, vt)) (hz : kN P vt = some zv) (hx : ev f x = .map (some b)) (hy : ev f y = ke k) (hA : ∀ w, A w → (Res.map ke b kv).φ w) :
    RV P f ⟨some d, .lookup t x y true, ty, p, af, none⟩ A (.tuple #[res.getD zv, .bool res.isSome]) := fun w hw => by
  subst hg
  obtain ⟨es, clock, h1, h2, h3⟩ := hA w hw
  have e1 := xH (P := P) h1
  have e2 := jE K es.isEmpty k w
  have e3 := jY K k h2 w
  have e4 := zDp hz w
  cases hi : kH k kv 0 with
  | none => simp [execOp, hx, hy, Instr.lookup, zg (yz ht), e1, e2, e3, hi, e4, zEH]
  | some q => simp [execOp, hx, hy, Instr.lookup, zg (yz ht), e1, e2, e3, hi, zEH]
theorem zMK {b : Nat} {kv : List (κ × Value)} {k : κ} {zv : Value} {res : Option Value} (hg : zEH k kv = res) (K : KeyL P kt ke) (ht : x5 P t = some (kt, vt)) (hz : kN P vt = some zv) (hx : ev f x = .map (some b)) (hy : ev f y = ke k) (hA : ∀ w, A w → (Res.map ke b kv).φ w) :
    RV P f ⟨some d, .lookup t x y false, ty, p, af, none⟩ A (res.getD zv) := fun w hw => by
  subst hg
  obtain ⟨es, clock, h1, h2, h3⟩ := hA w hw
  have e1 := xH (P := P) h1
  have e2 := jE K es.isEmpty k w
  have e3 := jY K k h2 w
  have e4 := zDp hz w
  cases hi : kH k kv 0 with
  | none => simp [execOp, hx, hy, Instr.lookup, zg (yz ht), e1, e2, e3, hi, e4, zEH]
  | some q => simp [execOp, hx, hy, Instr.lookup, zg (yz ht), e1, e2, e3, hi, zEH]
theorem zKN {b : Nat} {kv : List (κ × Value)} (ht : x5 P t = some (kt, vt)) (hx : ev f x = .map (some b)) (hA : ∀ w, A w → (Res.map ke b kv).φ w) :
    RV P f ⟨some d, .call ⟨.builtin .len, #[x], #[t]⟩, ty, p, af, none⟩ A (.int .i64 kv.length) := fun w hw => by
  obtain ⟨es, clock, h1, h2, h3⟩ := hA w hw
  have e1 := xH (P := P) h1
  have e2 : es.size = kv.length := by have := congrArg List.length h2; simpa using this
  simp [execOp, resolve, invoke, builtin, Builtin.len_, hx, zg (yz ht), e1, goInt, e2]
theorem zEn {es : Array MapEntry} {clock : Nat} (h : kW es clock) (e : MapEntry) (he : e.born = clock) : kW (es.push e) (clock + 1) := by
  refine ⟨fun x hx => ?_, ?_⟩
  · simp only [Array.toList_push, List.mem_append, List.mem_singleton] at hx
    rcases hx with hx | rfl
    · have := h.1 x hx; omega
    · omega
  · simp only [Array.toList_push, List.map_append, List.map_cons, List.map_nil]
    rw [List.nodup_append]
    refine ⟨h.2, by simp, ?_⟩
    intro a ha b hb
    simp at hb; subst hb
    obtain ⟨x, hx, rfl⟩ := List.mem_map.1 ha
    have := h.1 x hx
    omega
theorem zIa (K : KeyL P kt ke) (ht : x5 P t = some (kt, vt)) {i b : Nat} {kv : List (κ × Value)} {k : κ} {v : Value} {w : World} (hw : Own w0 S L w) (hL : L[i]? = some (Res.map ke b kv)) :
    ∃ w', (Instr.mapUpdate t (.map (some b)) (ke k) v).run P w = .ok () w' ∧ Own w0 S (L.set i (Res.map ke b (zB7 k v kv))) w' := by
  obtain ⟨es, clock, h1, h2, h3⟩ := hw.holds i _ hL
  have e1 := xH (P := P) h1
  have e2 := jE K false k w
  have e3 := jY K k h2 w
  cases hi : kH k kv 0 with
  | none =>
    refine ⟨_, ?_, jM (es' := es.push ⟨ke k, v, clock⟩) (clock' := clock + 1) (kv' := zB7 k v kv) hw hL ?_ (zEn h3 _ rfl)⟩
    · simp [Instr.mapUpdate, zg (yz ht), e1, e2, e3, hi, xX (P := P) h1]
    · simp [zB7, hi, h2]
  | some q =>
    obtain ⟨j, u⟩ := q
    obtain ⟨_, hj⟩ := jh hi
    simp only [Nat.sub_zero] at hj
    have hjl : j < es.toList.length := by
      have hl := congrArg List.length h2
      simp only [List.length_map] at hl
      rw [hl]; exact (List.getElem?_eq_some_iff.1 hj).1
    have hkey : (es[j]?.map (·.key)).getD (ke k) = ke k := by
      have := congrArg (·[j]?) h2
      simp only [List.getElem?_map, hj, Option.map_some] at this
      cases he : es[j]? with
      | none => rfl
      | some e =>
        rw [← Array.getElem?_toList] at he
        rw [he] at this
        simp at this
        simp [this.1]
    have e5 := zFc K k w
    refine ⟨_, ?_, jM (es' := es.modify j fun e => { e with key := ke k, val := v }) (clock' := clock) (kv' := zB7 k v kv) hw hL ?_ ⟨?_, ?_⟩⟩
    · simp only [Instr.mapUpdate]
      simp [zg (yz ht), e1, e2, e3, hi, xX (P := P) h1]
      rw [hkey, e5]
      simp [xX (P := P) h1]
    · simp only [zB7, hi]
      rw [Array.toList_modify, zAC _ _ _ hjl]
      simp only [List.map_set, h2]
    · intro e he
      rw [Array.toList_modify, zAC _ _ _ hjl] at he
      rcases List.mem_or_eq_of_mem_set he with he | rfl
      · exact h3.1 e he
      · exact h3.1 (es.toList[j]) (List.getElem_mem hjl)
    · rw [Array.toList_modify, zAC _ _ _ hjl]
      simp only [List.map_set]
      have : (es.toList.map (·.born)).set j es.toList[j].born = es.toList.map (·.born) := by
        apply List.ext_getElem?
        intro m
        rw [List.getElem?_set]
        split
        · rename_i hm; subst hm; simp only [List.length_map, hjl, if_true, List.getElem?_map, List.getElem?_eq_getElem hjl, Option.map_some]
        · rfl
      rw [this]; exact h3.2
theorem zLw (i : Nat) {b : Nat} {kv : List (κ × Value)} {k : κ} {v : Value} (K : KeyL P kt ke) (ht : x5 P t = some (kt, vt)) (hx : ev f x = .map (some b)) (hy : ev f y = ke k) (hz : ev f z = v) (hL : L[i]? = some (Res.map ke b kv))
    (kk : CL P n ops rest N f (Own w0 S (L.set i (Res.map ke b (zB7 k v kv))))) : CL P n ops (⟨none, .mapUpdate t x y z, ty, p, af, none⟩ :: rest) N f (Own w0 S L) := by
  intro w hw
  obtain ⟨w', hr, hO⟩ := zIa (v := v) K ht hw hL
  refine zAT (w' := w') ?_ (kk _ hO)
  simp [execOp, hx, hy, hz, hr]
theorem zHd (K : KeyL P kt ke) (ht : x5 P t = some (kt, vt)) {i b : Nat} {kv : List (κ × Value)} {k : κ} {w : World} {u : TypeId} (hw : Own w0 S L w) (hL : L[i]? = some (Res.map ke b kv)) :
    ∃ w', (Builtin.delete_ #[t, u] ty #[.map (some b), ke k]).run P w = .ok (.tuple #[]) w' ∧ Own w0 S (L.set i (Res.map ke b (js k kv))) w' := by
  obtain ⟨es, clock, h1, h2, h3⟩ := hw.holds i _ hL
  have e1 := xH (P := P) h1
  have e2 := jE K es.isEmpty k w
  have e3 := jY K k h2 w
  cases hi : kH k kv 0 with
  | none =>
    refine ⟨_, ?_, jM (es' := es) (clock' := clock) (kv' := js k kv) hw hL (by simp [js, hi, h2]) h3⟩
    simp [Builtin.delete_, zg (yz ht), e1, e2, e3, hi, xX (P := P) h1]
  | some q =>
    obtain ⟨j, u'⟩ := q
    obtain ⟨_, hj⟩ := jh hi
    simp only [Nat.sub_zero] at hj
    have hjl : j < es.toList.length := by
      have hl := congrArg List.length h2
      simp only [List.length_map] at hl
      rw [hl]; exact (List.getElem?_eq_some_iff.1 hj).1
    have hjs : j < es.size := by simpa using hjl
    have htl : (es.eraseIdxIfInBounds j).toList = es.toList.eraseIdx j := by
      simp [Array.eraseIdxIfInBounds, hjs]
    refine ⟨_, ?_, jM (es' := es.eraseIdxIfInBounds j) (clock' := clock) (kv' := js k kv) hw hL ?_ ⟨?_, ?_⟩⟩
    · simp [Builtin.delete_, zg (yz ht), e1, e2, e3, hi, xX (P := P) h1]
    · rw [htl]
      simp only [js, hi]
      rw [xo, xo, h2]
    · rw [htl]; exact fun e he => h3.1 e (List.mem_of_mem_eraseIdx he)
    · rw [htl, xo]; exact h3.2.sublist (List.eraseIdx_sublist _ _)
end
end Go.Sc
