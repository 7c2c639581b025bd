import Derived.Test.YthincafbmpialaaGreatFwU
import Derived.Test.YthincafbmpialaaGreatFwO
import Derived.Test.YthincafbmpialaaGreatSrt
import Derived.Shelf.SortM.Plain
import Derived.Shelf.SortM.SortNone
import Derived.Shelf.SlSortCmp.WholeK
import Derived.Shelf.SlSortCmp.NoneTotal
set_option linter.unusedSimpArgs false
set_option linter.unusedVariables false
set_option linter.unusedSectionVars false
namespace Go.Sc
open Go.Sort Go.Shelf Go.Proofs
theorem zEs {α : Type} [Inhabited α] {enc : α → Value} {w : World} {e : TypeId} {g n k cap : Nat} {cur : Array Value} {d : Array α} {cs : List Value} {m : Nat} {os : Array Obj} (hg : w.heap[g]? = some (.cells cur e (0, 0))) (hd : d.size = n * k) (hcs : cs.length = n * k) (he : ∀ j, j < n * k → cs[j]? = some (enc d[j]!)) (hc : n ≤ cap) (hm : cap ≤ maxLen) (hs : cur.size = cap * k) :
    (grow (putRow enc (Sort.ahead w m) g 0 d) os).ownsRow 0 e k (.slice (some ⟨g, 0, none⟩) n cap) n cs ∧ Keep [g] w (grow (putRow enc (Sort.ahead w m) g 0 d) os) := by
  have hgs : g < w.heap.size := (Array.getElem?_eq_some_iff.1 hg).1
  have hck : n * k ≤ cap * k := Nat.mul_le_mul_right k hc
  constructor
  · refine ⟨hcs, .inr ⟨g, cap, putCells enc 0 d cur, rfl, Nat.zero_le _, ?_, hc, hm, by simpa [putCells] using hs, ?_⟩⟩
    · show (grow _ os).heap[g]? = _
      simp only [grow, putRow, mapBlock, heap_ahead]
      rw [Array.getElem?_append_left (by simpa using hgs), Array.getElem?_modify, if_pos rfl, hg]
      rfl
    · apply List.ext_getElem?
      intro j
      rw [List.getElem?_take]
      by_cases hj : j < n * k
      · rw [if_pos hj, he j hj]
        have hjc : j < cur.size := by omega
        rw [Array.getElem?_toList]
        simp only [putCells, Array.getElem?_mapIdx, Array.getElem?_eq_getElem hjc, Option.map_some]
        rw [if_pos ⟨Nat.zero_le _, by omega⟩, Nat.sub_zero]
      · rw [if_neg hj, List.getElem?_eq_none (by omega)]
  · refine ⟨rfl, rfl, rfl, ?_, fun q hq hS => ?_⟩
    · simp [grow, putRow, mapBlock]
    · have hqg : q ≠ g := by simpa using hS
      simp only [grow, putRow, mapBlock, heap_ahead]
      rw [Array.getElem?_append_left (by simpa using hq), Array.getElem?_modify, if_neg (Ne.symm hqg)]
theorem zCW {α : Type} [Inhabited α] {enc : α → Value} {w : World} {e : TypeId} {g n k : Nat} {cur : Array Value} {d : Array α} {cs : List Value} (hg : w.heap[g]? = some (.cells cur e (0, 0))) (hd : d.size = n * k) (he : ∀ j, j < n * k → cs[j]? = some (enc d[j]!)) (ht : cur.toList.take (n * k) = cs) : Holds enc w g 0 d := by
  have hr : Row w g e cur.toList := ⟨0, 0, by simpa using hg, .inl (Nat.le_refl _)⟩
  intro j hj
  have h1 := he j (by omega)
  rw [← ht, List.getElem?_take, if_pos (by omega)] at h1
  rw [Nat.zero_add]
  exact ⟨hr.cell h1, hr.free (List.getElem?_eq_some_iff.1 h1).1⟩
theorem zLe {l : List ByteArray} {j : Nat} : (l.flatMap S1)[j]? = l[j]?.map Value.string := by
  rw [show l.flatMap S1 = l.map Value.string by induction l <;> simp_all [S1], List.getElem?_map]
theorem zLv (l : List ByteArray) : (l.flatMap S1).length = l.length := by rw [show l.flatMap S1 = l.map Value.string by induction l <;> simp_all [S1], List.length_map]
theorem zJs (s : ByteArray) : (⟨s.toList.toArray⟩ : ByteArray) = s := by rw [ByteArray.toList_eq]
theorem zG1 {P : Program} {ρ : Ren} (Ly : SlLaysM.n6 P ρ) {F : FuncId} (hF : ρ.f 6 = F) {T : TypeId} (v : Value) (l : List ByteArray) (w : World) (hl : zb l.length) (hin : Own w (xZ [Res.vec T 1 v l.length (l.flatMap S1)]) [Res.vec T 1 v l.length (l.flatMap S1)] w) :
    Rets P F #[v] w fun u_ w' => ∃ (l' : List ByteArray), u_ = .tuple #[] ∧ l'.Perm l ∧ l'.Pairwise (fun x y => x3 x y) ∧ Own w (xZ [Res.vec T 1 v l.length (l.flatMap S1)]) [Res.vec T 1 v l'.length (l'.flatMap S1)] w' := by
  subst hF
  obtain ⟨hcs, ⟨rfl, h1⟩ | ⟨g, cap, cur, rfl, hb0, hg, hc, hm, hs, ht⟩⟩ := hin.holds 0 _ rfl
  · have hn : l = [] := List.eq_nil_of_length_eq_zero h1
    subst hn
    refine Calls.mono (AnyM.slices_Sort_string_none Ly none 0 w) ?_
    rintro e w' ⟨rfl, rfl⟩
    exact ⟨_, rfl, [], rfl, .refl _, List.Pairwise.nil, hin⟩
  · have hgs : g < w.heap.size := (Array.getElem?_eq_some_iff.1 hg).1
    have key : ∀ ss : List (List UInt8), ∀ us : List ByteArray, us = ss.map (fun u => (⟨u.toArray⟩ : ByteArray)) → ∀ j, j < us.length * 1 → (us.flatMap S1)[j]? = some (encStr ss.toArray[j]!) := by
      rintro ss _ rfl j hj
      have hj' : j < ss.length := by simpa using hj
      rw [zLe, List.getElem?_map, List.getElem?_eq_getElem hj']
      simp [hj']
    have hback : l = (l.map (·.toList)).map (fun u => (⟨u.toArray⟩ : ByteArray)) := by
      rw [List.map_map]
      exact (List.map_id'' (fun s => zJs s) l).symm
    have hH : Holds encStr w g 0 (l.map (·.toList)).toArray := zCW (n := l.length) (k := 1) hg (by simp) (key _ l hback) ht
    have hp := List.mergeSort_perm (l.map (·.toList)) (fun x y => decide (x ≤ y))
    have hso := List.pairwise_mergeSort (le := fun x y : List UInt8 => decide (x ≤ y)) (fun a b c h k => by simp only [decide_eq_true_eq] at h k ⊢; exact List.le_trans h k) (fun a b => by simp only [Bool.or_eq_true, decide_eq_true_eq]; exact List.le_total a b) (l.map (·.toList))
    have h0 := AnyM.slices_Sort_string Ly g 0 cap (l.map (·.toList)) w hH hgs (by have : l.length ≤ 1000000000000 := hl; simp; omega)
    rw [List.length_map] at h0
    refine Calls.mono h0 ?_
    rintro e w' ⟨rfl, m, os, rfl⟩
    generalize hss : (l.map (·.toList)).mergeSort (fun x y => decide (x ≤ y)) = ss at hp hso ⊢
    have hlen : ss.length = l.length := by rw [hp.length_eq, List.length_map]
    have h3 := zEs (enc := encStr) (m := m) (os := os) (d := ss.toArray) (cs := (ss.map fun u => (⟨u.toArray⟩ : ByteArray)).flatMap S1) (n := l.length) (k := 1) hg (by simp [hlen]) (by rw [zLv, List.length_map, hlen, Nat.mul_one]) (fun j hj => key ss _ rfl j (by rw [List.length_map, hlen]; exact hj)) hc hm hs
    refine ⟨_, rfl, ss.map fun u => (⟨u.toArray⟩ : ByteArray), rfl, ?_, ?_, ?_⟩
    · have := hp.map (fun u => (⟨u.toArray⟩ : ByteArray))
      rwa [← hback] at this
    · rw [List.pairwise_map]
      refine hso.imp fun {a b} h => ?_
      simp only [decide_eq_true_eq] at h
      show ¬ sLt _ _
      unfold sLt
      rw [ByteArray.toList_mk, ByteArray.toList_mk]
      exact List.not_lt.2 h
    · have e1 : xZ [Res.vec T 1 (.slice (some ⟨g, 0, none⟩) l.length cap) l.length (l.flatMap S1)] = [g] := by simp [xZ, Res.vec, xm]
      rw [e1, show (ss.map fun u => (⟨u.toArray⟩ : ByteArray)).length = l.length by rw [List.length_map, hlen]]
      exact Own.mk1 h3.2 h3.1 (fun b hb => .inl (by simpa [Res.vec, xm] using hb))
theorem zLo {α : Type} [SO α] {cf : α → α → Int} (h : ∀ x y, cf x y < 0 ↔ olt x y) : SWO (ltOf cf) where
  irrefl x := decide_eq_false fun q => SO.asymm ((h _ _).1 q) ((h _ _).1 q)
  trans x y z h1 h2 := decide_eq_true ((h _ _).2 (zBH ((h _ _).1 (of_decide_eq_true h1)) (xr ((h _ _).1 (of_decide_eq_true h2)))))
  ntrans x y z h1 h2 := decide_eq_false fun q => xg (fun k => of_decide_eq_false h2 ((h _ _).2 k)) (fun k => of_decide_eq_false h1 ((h _ _).2 k)) ((h _ _).1 q)
theorem zFC {α : Type} [Inhabited α] {enc : α → List Value} {k : Nat} (hk : ∀ x, (enc x).length = k) (d : Array α) (j : Nat) (hj : j < d.size * k) : (d.toList.flatMap enc)[j]? = some (flatK enc k d)[j]! := by
  have k0 : 0 < k := by rcases Nat.eq_zero_or_pos k with h | h; · subst h; simp at hj
                        · exact h
  have hq : j / k < d.size := (Nat.div_lt_iff_lt_mul k0).2 hj
  have hr : j % k < k := Nat.mod_lt _ k0
  have hx : d.toList[j / k]? = some d[j / k]! := by simp [hq]
  rw [get_flatK enc k d j hj]
  have h1 : (enc d[j / k]!)[j % k]? = some (enc d[j / k]!)[j % k]! := by
    have : j % k < (enc d[j / k]!).length := by rw [hk]; exact hr
    simp [this]
  have h2 := zEF hk hx h1
  rwa [Nat.div_add_mod'] at h2
theorem zGm {P : Program} {ρ : Ren} {α : Type} [Inhabited α] [SO α] (L : SlLaysF0.n6 P ρ) {F : FuncId} (hF : ρ.f 6 = F) {T : TypeId} (enc : α → List Value) (k : Nat) (aE : ∀ w, (isAgg (ρ.t 24)).run P w = .ok true w) (zE : ∀ w, (Go.sizeOf (ρ.t 24)).run P w = .ok k w) (hk : ∀ x, (enc x).length = k) (h1 : ∀ x, ∀ v ∈ enc x, v.oneCell' = true) (cf : α → α → Int) (hcf : ∀ x y, cf x y < 0 ↔ olt x y) (gf : FuncId)
    (eg : ∀ args w, (callFunc gf args).run P w = .ok (.enter gf args) w) (hcmp : ∀ (x y : α) (W : World), Calls P gf #[.agg (enc x).toArray, .agg (enc y).toArray] W fun e w' => e = .returned (.int .i64 (cf x y)) ∧ ∃ q os', w' = grow (W.drewN q) os')
    (v : Value) (l : List α) (w : World) (hl : zb l.length) (hin : Own w (xZ [Res.vec T k v l.length (l.flatMap enc)]) [Res.vec T k v l.length (l.flatMap enc)] w) :
    Rets P F #[v, .func (.func gf) #[] #[]] w fun u_ w' => ∃ (l' : List α), u_ = .tuple #[] ∧ l'.Perm l ∧ l'.Pairwise (fun x y => x3 x y) ∧ Own w (xZ [Res.vec T k v l.length (l.flatMap enc)]) [Res.vec T k v l'.length (l'.flatMap enc)] w' := by
  subst hF
  obtain ⟨hcs, ⟨rfl, h0⟩ | ⟨g, cap, cur, rfl, hb0, hg, hc, hm, hs, ht⟩⟩ := hin.holds 0 _ rfl
  · have hn : l = [] := List.eq_nil_of_length_eq_zero h0
    subst hn
    refine Calls.mono (AnyF.slices_SortFunc_none L none 0 _ w) ?_
    rintro e w' ⟨rfl, rfl⟩
    exact ⟨_, rfl, [], rfl, .refl _, List.Pairwise.nil, hin⟩
  · have hgs : g < w.heap.size := (Array.getElem?_eq_some_iff.1 hg).1
    have hH : HoldsK enc k w g 0 l.toArray := zCW (n := l.length) (k := k) (cs := l.flatMap enc) hg (by simp) (fun j hj => zFC hk l.toArray j (by simpa using hj)) ht
    have h2 := AnyQ.slices_SortFunc L k aE zE enc hk h1 cf (zLo hcf) gf #[] g 0 cap l.toArray w eg (fun m os dk hd x y => hcmp x y _) hH hgs (by have : l.length ≤ 1000000000000 := hl; simp; omega)
    rw [List.size_toArray] at h2
    refine Calls.mono h2 ?_
    rintro e w' ⟨rfl, d', m, os, hp, hso, rfl⟩
    have hsz : d'.size = l.length := by rw [hp.1]; simp
    have hpl : d'.toList.Perm l := by
      have := hp.2.2
      rw [← hsz] at this
      have e2 : (l.toArray.extract 0 d'.size) = l.toArray := by rw [hsz, ← List.size_toArray, Array.extract_size]
      rw [e2, Array.extract_size] at this
      exact this
    have h3 := zEs (enc := id) (m := m) (os := os) (d := flatK enc k d') (cs := d'.toList.flatMap enc) (n := l.length) (k := k) hg (by rw [size_flatK, hsz]) (by rw [ky hk, Array.length_toList, hsz]) (fun j hj => zFC hk d' j (by rw [hsz]; exact hj)) hc hm hs
    refine ⟨_, rfl, d'.toList, rfl, hpl, ?_, ?_⟩
    · rw [List.pairwise_iff_getElem]
      intro i j hi hj hij
      have hi' : i < d'.size := by simpa using hi
      have hj' : j < d'.size := by simpa using hj
      have := hso i j (Nat.zero_le _) hij (by omega)
      intro q
      have q' := (hcf _ _).2 q
      rw [getElem!_pos d' j hj', getElem!_pos d' i hi'] at this
      exact of_decide_eq_false this q'
    · have e1 : xZ [Res.vec T k (.slice (some ⟨g, 0, none⟩) l.length cap) l.length (l.flatMap enc)] = [g] := by simp [xZ, Res.vec, xm]
      rw [e1, show d'.toList.length = l.length by simpa using hsz]
      exact Own.mk1 h3.2 h3.1 (fun b hb => .inl (by simpa [Res.vec, xm] using hb))
end Go.Sc
