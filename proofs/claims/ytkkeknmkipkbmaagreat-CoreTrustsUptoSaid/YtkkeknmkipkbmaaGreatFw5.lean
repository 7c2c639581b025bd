import Derived.Test.YtkkeknmkipkbmaaGreatFw4
import Derived.Laws.BytesArg
import Derived.Lib.ConvBytes
set_option linter.unusedSectionVars false
set_option linter.unusedSimpArgs false
set_option linter.unusedVariables false
namespace Go.Sc
def slT (P : Program) (t : TypeId) : Option (TypeId × Nat × Nat) :=
  match P.underlying t with
  | some (.slice e) => (P.info? e).bind fun i => i.zero.bind fun z => if z.cells.size = i.size ∧ 0 < i.size then some (e, i.size, i.bytes) else none
  | _ => none
theorem jO {P : Program} {t e : TypeId} {sz by' : Nat} (h : slT P t = some (e, sz, by')) :
    P.underlying t = some (.slice e) ∧ ∃ i z, P.info? e = some i ∧ i.zero = some z ∧ i.size = sz ∧ i.bytes = by' ∧ z.cells.size = sz ∧ 0 < sz := by
  unfold slT at h
  split at h
  · rename_i e' he
    simp only [Option.bind_eq_some_iff] at h
    obtain ⟨i, hi, z, hz, h⟩ := h
    split at h
    · rename_i hc
      simp at h
      obtain ⟨rfl, rfl, rfl⟩ := h
      exact ⟨he, i, z, hi, hz, rfl, rfl, hc.1, hc.2⟩
    · cases h
  · cases h
theorem yz : maxLen = 9223372036854775807 := rfl
section
variable {P : Program} {w : World} {t e ty : TypeId} {sz by' : Nat}
theorem kq (w : World) (olds news : List Value) (z : Value) (n m old : Nat) (hz : z.cells.size = sz) (ho : olds.length = n * sz) (hl : news.length = m * sz) (h63 : n + m ≤ maxLen) :
    (w.drew.alloc (.cells (olds.toArray ++ news.toArray ++ Builtin.zeroCells z.cells (grownCap w (n + m) old e - (n + m))) e)).ownsRow 0 e sz
        (.slice (some ⟨w.heap.size, 0, none⟩) (n + m) (grownCap w (n + m) old e)) (n + m) (olds ++ news) ∧
    Keep [] w (w.drew.alloc (.cells (olds.toArray ++ news.toArray ++ Builtin.zeroCells z.cells (grownCap w (n + m) old e - (n + m))) e)) := by
  have hge := grownCap_ge w (n + m) old e
  have hcm : grownCap w (n + m) old e ≤ maxLen := grownCap_le_maxLen w (n + m) old e h63
  have hlen : (olds ++ news).length = (n + m) * sz := by rw [List.length_append, ho, hl, Nat.add_mul]
  refine ⟨⟨hlen, .inr ⟨w.heap.size, _, _, rfl, Nat.zero_le _, heap_alloc_new w.drew _, hge, hcm, ?_, ?_⟩⟩, ⟨rfl, rfl, rfl, by simp, fun k hk _ => heap_alloc_old w.drew _ k hk⟩⟩
  · simp only [Array.size_append, List.size_toArray, size_zeroCells, hz, ho, hl, ← Nat.add_mul]
    congr 1
    omega
  · simp only [Array.toList_append, List.append_assoc]
    rw [← List.append_assoc, ← hlen]
    exact List.take_left
theorem Sl.cells {u : Value} {m : Nat} {news : List Value} (h : Sl w u m news) : (∃ a, u = .slice a 0 0 ∧ m = 0 ∧ news = []) ∨ ∃ b off cap, u = .slice (some ⟨b, off, none⟩) m cap ∧ ∀ j v, news[j]? = some v → w.cell? ((⟨b, off, none⟩ : Addr).add j) = some v := by
  rcases h with h | ⟨b, off, cap, rfl, h1, h2, h3, h4⟩
  · exact .inl h
  · exact .inr ⟨b, off, cap, rfl, fun j v hv => by rw [jE]; exact h4 j v hv⟩
theorem zBr (ht : slT P t = some (e, sz, by')) {v u : Value} {n m : Nat} {xs news : List Value} (hown : w.ownsRow 0 e sz v n xs) (hsrc : Sl w u m news) (hl : news.length = m * sz) (h1 : ∀ v ∈ news, cell1 v = true)
    (h63 : n + m ≤ maxLen) (hb : (n + m) * by' ≤ 140737488355328) :
    ∃ v' w', (Builtin.append_ #[t, t] ty #[v, u]).run P w = .ok v' w' ∧ Own w (yp v) [Res.vec e sz v' (n + m) (xs ++ news)] w' := by
  obtain ⟨hu, i, z, hi, hz, rfl, rfl, hzs, hsz⟩ := jO ht
  have hsmall : n + m ≤ 9223372036854775807 := by rw [yz] at h63; exact h63
  have h1' : ∀ u ∈ news, u.oneCell' = true := fun u hu => zCG (h1 u hu)
  rcases hsrc.cells with ⟨a, rfl, rfl, rfl⟩ | ⟨b, off, cap, rfl, hnews⟩
  · refine ⟨v, w, ?_, Own.mk1 (Keep.refl _ _) (by simpa [Res.vec] using hown) (fun b hb => .inl hb)⟩
    rcases hown.2 with ⟨rfl, rfl⟩ | ⟨g, cap, cur, rfl, h0, hg, hnc, hcm, hcs, htake⟩
    · cases a <;> simp [Builtin.append_, run_underlying hu, sizeOf, typeInfo, hi, Builtin.lenOf, Builtin.firstCells, loadCells, loadCellsFrom, storeCells]
    · cases a <;> simp [Builtin.append_, run_underlying hu, sizeOf, typeInfo, hi, Builtin.lenOf, Builtin.firstCells, hnc, loadCells, loadCellsFrom, storeCells]
  · rcases hown.2 with ⟨rfl, rfl⟩ | ⟨g, cap', cur, rfl, h0, hg, hnc, hcm, hcs, htake⟩
    · have hx : xs = [] := List.eq_nil_of_length_eq_zero (by simpa using hown.1)
      subst hx
      by_cases hm : m = 0
      · subst hm
        have hn : news = [] := List.eq_nil_of_length_eq_zero (by simpa using hl)
        subst hn
        refine ⟨.slice none 0 0, w, ?_, Own.mk1 (Keep.refl _ _) (by simpa [Res.vec] using hown) (fun b hb => .inl hb)⟩
        simp [Builtin.append_, run_underlying hu, sizeOf, typeInfo, hi, Builtin.lenOf, Builtin.firstCells, loadCells, loadCellsFrom, storeCells]
      · have hr := run_append_nil (P := P) w t ty e i z hu hi hz ⟨b, off, none⟩ m cap news hl hnews (by omega) (by omega) (by have hb := hb; simp only [Nat.zero_add] at hb; omega)
        have hgr := kq (e := e) (sz := i.size) w [] news z 0 m 0 hzs (by simp) hl h63
        simp only [Nat.zero_add, List.nil_append, Array.empty_append] at hgr ⊢
        refine ⟨_, _, hr, Own.mk1 (by simpa [yp] using hgr.2) hgr.1 ?_⟩
        intro b hb; simp [Res.vec, yp] at hb; right; omega
    · by_cases hroom : n + m ≤ cap'
      · have hfit : n * i.size + news.length ≤ cur.size := by rw [hl, hcs, ← Nat.add_mul]; exact Nat.mul_le_mul_right _ hroom
        have hr := run_append_room (P := P) w t ty e i hu hi g n cap' cur hg ⟨b, off, none⟩ m cap news hl hnews h1' hroom hfit
        have hlen : (xs ++ news).length = (n + m) * i.size := by rw [List.length_append, hown.1, hl, Nat.add_mul]
        refine ⟨_, _, hr, Own.mk1 ⟨rfl, rfl, rfl, by simp, fun k _ hk => setRow_other w g k _ (fun e => hk (by simp [yp, e]))⟩ ⟨hlen, .inr ⟨g, cap', _, rfl, Nat.zero_le _, setRow_heap w g cur _ e _ hg, hroom, hcm, ?_, ?_⟩⟩ (fun b hb => .inl hb)⟩
        · simp only [List.size_toArray, List.length_append, List.length_take, List.length_drop, Array.length_toList]
          omega
        · rw [htake, ← hlen]
          exact List.take_left
      · have holds : ∀ j u, xs[j]? = some u → w.cell? ((⟨g, 0, none⟩ : Addr).add j) = some u := hown.cells (g := g) rfl
        have hr := run_append_grow (P := P) w t ty e i z hu hi hz ⟨g, 0, none⟩ n cap' xs hown.1 holds ⟨b, off, none⟩ m cap news hl hnews (by omega) (by omega) (growslice_fits (by omega) hb)
        have hgr := kq (e := e) (sz := i.size) w xs news z n m cap' hzs hown.1 hl h63
        refine ⟨_, _, hr, Own.mk1 (hgr.2.mono (by simp)) hgr.1 ?_⟩
        intro b hb; simp [Res.vec, yp] at hb; right; omega
theorem zAu (ht : slT P t = some (e, sz, by')) {b off n m : Nat} {u : Value} {xs news : List Value} (hv : Sl w (.slice (some ⟨b, off, none⟩) n n) n xs) (hx : xs.length = n * sz) (hsrc : Sl w u m news) (hl : news.length = m * sz) (hm : 0 < m)
    (h63 : n + m ≤ maxLen) (hb : (n + m) * by' ≤ 140737488355328) :
    ∃ v' w', (Builtin.append_ #[t, t] ty #[.slice (some ⟨b, off, none⟩) n n, u]).run P w = .ok v' w' ∧ Own w [] [Res.vec e sz v' (n + m) (xs ++ news)] w' := by
  obtain ⟨hu, i, z, hi, hz, rfl, rfl, hzs, hsz⟩ := jO ht
  have hsmall : n + m ≤ 9223372036854775807 := by rw [yz] at h63; exact h63
  rcases hsrc.cells with ⟨a', rfl, rfl, rfl⟩ | ⟨b', off', cap, rfl, hnews⟩
  · omega
  · have holds : ∀ j v, xs[j]? = some v → w.cell? ((⟨b, off, none⟩ : Addr).add j) = some v := by
      rcases hv.cells with ⟨_, _, _, rfl⟩ | ⟨b1, off1, cap1, h, holds⟩
      · intro j v hj; simp at hj
      · simp at h
        obtain ⟨⟨rfl, rfl⟩, rfl⟩ := h
        exact holds
    · have hr := run_append_grow (P := P) w t ty e i z hu hi hz ⟨b, off, none⟩ n n xs hx holds ⟨b', off', none⟩ m cap news hl hnews (by omega) (by omega) (growslice_fits (by omega) hb)
      have hgr := kq (e := e) (sz := i.size) w xs news z n m n hzs hx hl h63
      refine ⟨_, _, hr, Own.mk1 hgr.2 hgr.1 ?_⟩
      intro b hb; simp [Res.vec, yp] at hb; right; omega
end
def jH (pl : Nat → Option (Nat × Nat)) (cells : List Value) : List (Nat × Value) → Option (List Value)
  | [] => some cells
  | (i, v) :: rest =>
    match pl i with
    | none => none
    | some (off, size) => if v.cells.toList.length = size ∧ off + v.cells.toList.length ≤ cells.length then jH pl (xE cells off v.cells.toList) rest else none
theorem zAI : ∀ (vs : List Value) (cells : Array Value) (off k : Nat), off + k + vs.length ≤ cells.size →
    (vs.zipIdx k).foldl (fun cs (c, j) => cs.setIfInBounds (off + j) c) cells = (xE cells.toList (off + k) vs).toArray
  | [], cells, off, k, _ => by simp [xE]
  | v :: vs, cells, off, k, h => by
    simp only [List.length_cons] at h
    rw [List.zipIdx_cons, List.foldl_cons]
    have := zAI vs (cells.setIfInBounds (off + k) v) off (k + 1) (by simp; omega)
    simp only at this ⊢
    rw [this]
    congr 1
    have hlt : off + k < cells.toList.length := by simp; omega
    unfold xE
    simp only [Array.toList_setIfInBounds]
    have e1 : (cells.toList.set (off + k) v).take (off + (k + 1)) = cells.toList.take (off + k) ++ [v] := by
      rw [show off + (k + 1) = (off + k) + 1 by omega, List.take_set, List.take_succ_eq_append_getElem hlt, List.set_append_right _ _ (by simp; omega)]
      simp only [Array.length_toList] at hlt
      simp [Nat.min_eq_left (Nat.le_of_lt hlt)]
    have e2 : (cells.toList.set (off + k) v).drop (off + (k + 1) + vs.length) = cells.toList.drop (off + k + (vs.length + 1)) := by
      rw [List.drop_set_of_lt (by omega)]
      congr 1
      omega
    rw [e1, e2]
    simp
theorem zAF (pl : Nat → Option (Nat × Nat)) : ∀ (parts : List (Nat × Value)) (cells : List Value) (out : List Value), jH pl cells parts = some out → Instr.fill pl cells.toArray parts = some out.toArray
  | [], cells, out, h => by simp [jH] at h; subst h; simp [Instr.fill]
  | (i, v) :: rest, cells, out, h => by
    unfold jH at h
    unfold Instr.fill
    cases hp : pl i with
    | none => rw [hp] at h; cases h
    | some q =>
      obtain ⟨off, size⟩ := q
      rw [hp] at h
      simp only at h ⊢
      split at h
      · rename_i hc
        have hs : v.cells.size = size := by simpa using hc.1
        have hle : off + v.cells.size ≤ cells.toArray.size := by simpa using hc.2
        rw [if_neg (by simp only [hs] at *; simp at *; omega)]
        have := zAI v.cells.toList cells.toArray off 0 (by simpa using hc.2)
        have e0 : v.cells.zipIdx = (v.cells.toList.zipIdx 0).toArray := by
          apply Array.ext'
          simp [Array.toList_zipIdx]
        rw [e0, List.foldl_toArray, this]
        exact zAF pl rest _ out h
      · cases h
def jZ (P : Program) (t : TypeId) : Option (List Value × List (Nat × Nat)) :=
  match P.underlying t, (P.info? t).bind (·.zero) with
  | some (.struct fs), some z => (fs.toList.mapM fun (f : Field) => (P.info? f.type).map fun i => (f.offset, i.size)).map fun l => (z.cells.toList, l)
  | _, _ => none
section
variable {P : Program} {n : Nat} {ops : Array Oper} {N R : K} {f : Nat → Value} {A : World → Prop} {rest : List Oper}
variable {d : Nat} {ty : TypeId} {p : String} {af : Array Edge} {x y : Operand} {t : TypeId}
variable {w0 : World} {S : List Nat} {L : List Res}
theorem jr {P : Program} (w : World) : ∀ (fs : List Field) (l : List (Nat × Nat)), (fs.mapM fun (f : Field) => (P.info? f.type).map fun i => (f.offset, i.size)) = some l →
    (fs.mapM fun (f : Field) => do pure (f.offset, ← sizeOf f.type)).run P w = .ok l w
  | [], l, h => by simp at h; subst h; simp
  | f :: fs, l, h => by
    simp only [List.mapM_cons, bind, Option.bind_eq_some_iff, Option.map_eq_some_iff, pure] at h
    obtain ⟨q, ⟨i, hi, rfl⟩, l', hl', h⟩ := h
    simp at h; subst h
    have := jr w fs l' hl'
    have hs : (sizeOf f.type).run P w = .ok i.size w := by simp [sizeOf, typeInfo, hi]
    simp only [List.mapM_cons, Sem.run_bind, Sem.run_pure, Result.andThen, hs, this]
theorem zAD {z : List Value} {pl : List (Nat × Nat)} {parts : List (Nat × Operand)} {cs : List Value} (hs : jZ P t = some (z, pl)) (hf : jH (pl[·]?) z (parts.map fun q => (q.1, ev f q.2)) = some cs) : RV P f ⟨some d, .build t parts.toArray, ty, p, af, none⟩ A ((.agg cs.toArray)) :=
  fun w _ => by
    unfold jZ at hs
    split at hs
    · rename_i fs z0 hu hz
      simp only [Option.map_eq_some_iff, Prod.mk.injEq] at hs
      obtain ⟨l, hl, rfl, rfl⟩ := hs
      simp only [Option.bind_eq_some_iff] at hz
      obtain ⟨i0, hi0, hz0⟩ := hz
      have h1 := jr (P := P) w fs.toList l hl
      have h2 := zAF _ _ _ _ hf
      have h3 : (fs.mapM fun (f : Field) => do pure (f.offset, ← sizeOf f.type) : Sem _).run P w = .ok l.toArray w := by
        cases fs with
        | mk fl =>
          have h1' : (List.mapM (fun (f : Field) => Prod.mk f.offset <$> sizeOf f.type) fl).run P w = .ok l w := by simpa using h1
          simp [h1']
      have h3' : (fs.mapM (fun (f : Field) => Prod.mk f.offset <$> sizeOf f.type) : Sem _).run P w = .ok l.toArray w := by simpa using h3
      simp only [Array.toArray_toList] at h2
      simp [execOp, Instr.build, zeroValue, typeInfo, hi0, hz0, yF hu, h3', h2]
    · cases hs
theorem yc {z : List Value} {pl : List (Nat × Nat)} {parts : List (Nat × Operand)} {cs : List Value} (hs : jZ P t = some (z, pl)) (hf : jH (pl[·]?) z (parts.map fun q => (q.1, ev f q.2)) = some cs) (hd : Nat.blt d n = true)
    (k : CL P n ops rest N (upd f d (.agg cs.toArray)) A) : CL P n ops (⟨some d, .build t parts.toArray, ty, p, af, none⟩ :: rest) N f A :=
  yN hd (fun w _ => by
    unfold jZ at hs
    split at hs
    · rename_i fs z0 hu hz
      simp only [Option.map_eq_some_iff, Prod.mk.injEq] at hs
      obtain ⟨l, hl, rfl, rfl⟩ := hs
      simp only [Option.bind_eq_some_iff] at hz
      obtain ⟨i0, hi0, hz0⟩ := hz
      have h1 := jr (P := P) w fs.toList l hl
      have h2 := zAF _ _ _ _ hf
      have h3 : (fs.mapM fun (f : Field) => do pure (f.offset, ← sizeOf f.type) : Sem _).run P w = .ok l.toArray w := by
        cases fs with
        | mk fl =>
          have h1' : (List.mapM (fun (f : Field) => Prod.mk f.offset <$> sizeOf f.type) fl).run P w = .ok l w := by simpa using h1
          simp [h1']
      have h3' : (fs.mapM (fun (f : Field) => Prod.mk f.offset <$> sizeOf f.type) : Sem _).run P w = .ok l.toArray w := by simpa using h3
      simp only [Array.toArray_toList] at h2
      simp [execOp, Instr.build, zeroValue, typeInfo, hi0, hz0, yF hu, h3', h2]
    · cases hs) k
theorem zBt {l cs : List Value} {off : Nat} (h : off + cs.length ≤ l.length) : (xE l off cs).length = l.length := by
  simp [xE]; omega
theorem zAj {sz : Nat} : ∀ {vs : List Value}, (∀ v ∈ vs, v.cells.toList.length = sz) → (vs.flatMap fun v => v.cells.toList).length = vs.length * sz
  | [], _ => by simp
  | v :: vs, hc => by rw [List.flatMap_cons, List.length_append, zAj (fun u hu => hc u (by simp [hu])), hc v (by simp), List.length_cons, Nat.add_mul]; omega
theorem zB4 (sz : Nat) : ∀ (vs : List Value) (k : Nat) (cells : List Value), (∀ v ∈ vs, v.cells.toList.length = sz) → cells.length = (k + vs.length) * sz →
    jH (fun i => some (i * sz, sz)) cells ((List.range' k vs.length).zip vs) = some (cells.take (k * sz) ++ vs.flatMap fun v => v.cells.toList)
  | [], k, cells, _, hl => by simp [jH]; rw [List.take_of_length_le]; simp at hl; omega
  | v :: vs, k, cells, hv, hl => by
    have h1 := hv v (by simp)
    simp only [List.length_cons, List.range'_succ, List.zip_cons_cons, jH]
    have hle : k * sz + v.cells.toList.length ≤ cells.length := by
      rw [h1, hl]; simp only [List.length_cons]
      have : (k + (vs.length + 1)) * sz = k * sz + sz + vs.length * sz := by rw [Nat.add_mul, Nat.add_mul]; omega
      omega
    rw [if_pos ⟨h1, hle⟩]
    have hsp : (xE cells (k * sz) v.cells.toList).length = cells.length := zBt hle
    have ih := zB4 sz vs (k + 1) (xE cells (k * sz) v.cells.toList) (fun u hu => hv u (by simp [hu])) (by rw [hsp, hl]; simp only [List.length_cons]; congr 1; omega)
    rw [ih]
    congr 1
    have : (xE cells (k * sz) v.cells.toList).take ((k + 1) * sz) = cells.take (k * sz) ++ v.cells.toList := by
      unfold xE
      have e1 : (cells.take (k * sz) ++ v.cells.toList).length = (k + 1) * sz := by
        have h1' : v.cells.size = sz := by simpa using h1
        rw [List.length_append, List.length_take, h1, Nat.add_mul, Nat.one_mul]
        simp only [h1, Array.length_toList, h1'] at hle
        omega
      rw [← e1, List.take_left]
    rw [this]
    simp
theorem z4 {len sz : Nat} {e : TypeId} {parts : List (Nat × Operand)} {vs : List Value} (ht : (slT P t).map (fun q => (q.1, q.2.1)) = some (e, sz)) (hn : parts.map Prod.fst = List.range len) (hv : parts.map (fun q => ev f q.2) = vs)
    (hc : ∀ v ∈ vs, v.cells.toList.length = sz) (hb : len * sz ≤ 16777216) (hd : Nat.blt d n = true)
    (k : ∀ b, CL P n ops rest N (upd f d (.slice (some ⟨b, 0, none⟩) len len)) (Own w0 S (L ++ [Res.vec e sz (.slice (some ⟨b, 0, none⟩) len len) len (vs.flatMap fun v => v.cells.toList)]))) :
    CL P n ops (⟨some d, .buildSlice t len parts.toArray, ty, p, af, none⟩ :: rest) N f (Own w0 S L) := by
  intro w hw
  simp only [Option.map_eq_some_iff] at ht
  obtain ⟨⟨e', sz', by'⟩, ht, hq⟩ := ht
  simp only [Prod.mk.injEq] at hq
  obtain ⟨rfl, rfl⟩ := hq
  obtain ⟨hu, i, z, hi, hz, hs, hby, hzs, hsz⟩ := jO ht
  have hlen : vs.length = len := by
    have := congrArg List.length hn
    rw [← hv]; simpa using this
  have hz2 : (parts.map fun q => (q.1, ev f q.2)) = (List.range' 0 vs.length).zip vs := by
    have e1 : (parts.map fun q => (q.1, ev f q.2)) = (parts.map Prod.fst).zip (parts.map fun q => ev f q.2) := by
      rw [List.zip_map', ]
    rw [e1, hn, hv, hlen, List.range_eq_range']
  generalize hcells : (Array.range (len * sz')).map ((if len * sz' = 0 then #[] else z.cells)[· % (if len * sz' = 0 then #[] else z.cells).size]!) = cells0
  have hc0 : cells0.toList.length = (0 + vs.length) * sz' := by rw [← hcells]; simp [hlen]
  have hfill := zAF _ _ _ _ (zB4 sz' vs 0 cells0.toList hc hc0)
  simp only [Nat.zero_mul, List.take_zero, List.nil_append, Array.toArray_toList] at hfill
  rw [← hz2] at hfill
  have hfl : (vs.flatMap fun v => v.cells.toList).length = len * sz' := by rw [← hlen]; exact zAj hc
  have hle : len ≤ maxLen := by
    rw [yz]
    have : len * 1 ≤ len * sz' := Nat.mul_le_mul_left _ hsz
    omega
  refine kJ (w' := w.alloc (.cells (vs.flatMap fun v => v.cells.toList).toArray e')) ?_ hd (k w.heap.size _ (hw.frame0 (Own.mk1 ⟨rfl, rfl, rfl, by simp, fun k hk _ => heap_alloc_old w _ k hk⟩ (zIV (heap_alloc_new w _) hfl hle) ?_)))
  · have hb' : ¬ (16777216 < len * sz') := by omega
    by_cases h0 : len * sz' = 0
    · rw [if_pos h0] at hcells
      have e0 : Array.range 0 = (#[] : Array Nat) := rfl
      rw [h0, e0] at hcells
      simp only [Array.map_empty] at hcells
      rw [← hcells] at hfill
      simp [execOp, Instr.buildSlice, yF hu, sizeOf, typeInfo, hi, hs, h0, e0, newRow, hfill]
    · rw [if_neg h0] at hcells
      simp [execOp, Instr.buildSlice, yF hu, sizeOf, typeInfo, hi, hs, hb', h0, zeroValue, hz, newRow]
      rw [hcells, hfill]
      simp
  · intro b hb
    simp [Res.vec, yp] at hb
    right; omega
end
end Go.Sc
