/-
  LISTS OF NUMBERS OF ONE'S OWN: sorted by the library, cut, wiped.
-/
import Derived.Test.YtniiobmkcbeknaaFwU
import Derived.Shelf.SortM.Plain
set_option linter.unusedVariables false
set_option linter.unusedSectionVars false
namespace Go.Sc
open Go.Sort Go.Shelf Go.Proofs

theorem map_I1 (l : List Int) : l.flatMap I1 = l.map (Value.int .i64) := by induction l <;> simp_all [I1]
theorem I1_get {l : List Int} {j : Nat} : (l.flatMap I1)[j]? = l[j]?.map (Value.int .i64) := by rw [map_I1, List.getElem?_map]

theorem sorted_own {w : World} {e : TypeId} {g n cap : Nat} {cur : Array Value} {zs ys : List Int} {m : Nat} {os : Array Obj} (hg : w.heap[g]? = some (.cells cur e (0, 0))) (hn : zs.length = n) (hc : n ≤ cap) (hm : cap ≤ maxLen) (hs : cur.size = cap * 1) (ht : cur.toList.take (n * 1) = zs.flatMap I1) (hl : ys.length = zs.length) :
    (grow (putRow (Value.int .i64) (Sort.ahead w m) g 0 ys.toArray) os).ownsRow 0 e 1 (.slice (some ⟨g, 0, none⟩) n cap) n (ys.flatMap I1) ∧ Keep [g] w (grow (putRow (Value.int .i64) (Sort.ahead w m) g 0 ys.toArray) os) := by
  have hgs : g < w.heap.size := (Array.getElem?_eq_some_iff.1 hg).1
  constructor
  · refine ⟨by rw [map_I1, List.length_map]; omega, .inr ⟨g, cap, putCells (Value.int .i64) 0 ys.toArray cur, rfl, Nat.zero_le _, ?_, hc, hm, by simpa [putCells] using hs, ?_⟩⟩
    · show (grow _ os).heap[g]? = _
      simp only [grow, putRow, mapBlock, heap_ahead]
      rw [Array.getElem?_append_left (by simpa using hgs), Array.getElem?_modify, if_pos rfl, hg]
      rfl
    · apply List.ext_getElem?
      intro j
      rw [I1_get, List.getElem?_take]
      by_cases hj : j < n
      · rw [if_pos (by omega)]
        have hjc : j < cur.size := by omega
        have e1 : (putCells (Value.int .i64) 0 ys.toArray cur).toList[j]? = some (.int .i64 ys.toArray[j]!) := by
          rw [Array.getElem?_toList]
          simp only [putCells, Array.getElem?_mapIdx, Array.getElem?_eq_getElem hjc, Option.map_some]
          rw [if_pos ⟨Nat.zero_le _, by simp; omega⟩, Nat.sub_zero]
        have hj2 : j < ys.length := by omega
        rw [e1, List.getElem?_eq_getElem hj2]
        simp [hj2]
      · rw [if_neg (by omega), List.getElem?_eq_none (by omega)]; rfl
  · refine ⟨rfl, rfl, rfl, ?_, fun k hk hS => ?_⟩
    · simp [grow, putRow, mapBlock]
    · have hkg : k ≠ g := by simpa using hS
      simp only [grow, putRow, mapBlock, heap_ahead]
      rw [Array.getElem?_append_left (by simpa using hk), Array.getElem?_modify, if_neg (Ne.symm hkg)]

/-- The library's sort, of a list of one's own that is not empty. -/
theorem sort_own {P : Program} {ρ : Ren} (Ly : SlLaysM.n5 P ρ) {F : FuncId} (hF : ρ.f 5 = F) {T : TypeId} {v : Value} {l : List Int} (w : World) (hl : LenOk l.length) (h0 : 0 < l.length) (hin : Own w (fps [Res.vec T 1 v l.length (l.flatMap I1)]) [Res.vec T 1 v l.length (l.flatMap I1)] w) :
    Rets P F #[v] w fun u_ w' => u_ = .tuple #[] ∧ Own w (fps [Res.vec T 1 v l.length (l.flatMap I1)]) [Res.vec T 1 v (l.mergeSort fun x y => decide (x ≤ y)).length ((l.mergeSort fun x y => decide (x ≤ y)).flatMap I1)] w' := by
  subst hF
  obtain ⟨hcs, ⟨rfl, h1⟩ | ⟨g, cap, cur, rfl, hb0, hg, hc, hm, hs, ht⟩⟩ := hin.holds 0 _ rfl
  · omega
  · have hgs : g < w.heap.size := (Array.getElem?_eq_some_iff.1 hg).1
    have hr : Row w g T cur.toList := ⟨0, 0, by simpa using hg, .inl (Nat.le_refl _)⟩
    have hH : Holds (Value.int .i64) w g 0 l.toArray := by
      intro j hj
      have hj' : j < l.length := by simpa using hj
      have hjc : j < cur.toList.length := by simp; omega
      rw [Nat.zero_add]
      refine ⟨?_, hr.free hjc⟩
      have hx : cur.toList[j]? = some (.int .i64 l.toArray[j]!) := by
        have h2 : (cur.toList.take (l.length * 1))[j]? = (l.flatMap I1)[j]? := by rw [ht]
        rw [List.getElem?_take, if_pos (by omega), I1_get, List.getElem?_eq_getElem hj'] at h2
        rw [h2]; simp [hj']
      exact hr.cell hx
    have hperm := List.mergeSort_perm l (fun x y => decide (x ≤ y))
    refine (AnyM.slices_Sort_int Ly g 0 cap l w hH hgs (by have : l.length ≤ 1000000000000 := hl; omega)).mono ?_
    rintro e w' ⟨rfl, m, os, rfl⟩
    have h3 := sorted_own (m := m) (os := os) (ys := l.mergeSort fun x y => decide (x ≤ y)) hg rfl hc hm hs ht hperm.length_eq
    refine ⟨_, rfl, rfl, ?_⟩
    have e1 : fps [Res.vec T 1 (.slice (some ⟨g, 0, none⟩) l.length cap) l.length (l.flatMap I1)] = [g] := by simp [fps, Res.vec, blkOf]
    rw [e1, hperm.length_eq]
    exact Own.mk1 h3.2 h3.1 (fun b hb => .inl (by simpa [Res.vec, blkOf] using hb))

section
variable {P : Program} {n : Nat} {ops : Array Oper} {N R : K} {X : List (Nat × K)} {f : Nat → Value} {rest : List Oper} {w0 : World} {S : List Nat} {L : List Res}
variable {d : Nat} {ty : TypeId} {p : String} {af : Array Edge} {x y : Operand} {t e : TypeId}
/-- A list cut at its end. -/
theorem Own.vecCut {w : World} {T : TypeId} {v : Value} {l : List Int} (i k : Nat) (hL : L[i]? = some (Res.vec T 1 v l.length (l.flatMap I1))) (hk : k ≤ l.length) (h : Own w0 S L w) : Own w0 S (L.set i (Res.vec T 1 (cutV v 0 k 1) (l.take k).length ((l.take k).flatMap I1))) w := by
  refine h.turn hL ?_ ?_
  · rintro ⟨hl, ⟨rfl, h1⟩ | ⟨g, cap, cur, rfl, h0, h1, h2, h3, h4, h5⟩⟩
    · have : l = [] := List.eq_nil_of_length_eq_zero h1
      subst this
      have hk0 : k = 0 := by simpa using hk
      subst hk0
      exact ⟨rfl, .inl ⟨rfl, rfl⟩⟩
    · have e : cutV (.slice (some ⟨g, 0, none⟩) l.length cap) 0 k 1 = .slice (some ⟨g, 0, none⟩) k cap := by
        show subA (some ⟨g, 0, none⟩) cap 0 k cap 1 = _
        unfold subA
        simp [Addr.add]
      rw [e]
      have hlk : (l.take k).length = k := by simp; omega
      refine ⟨by rw [map_I1, List.length_map]; omega, .inr ⟨g, cap, cur, by rw [hlk], h0, h1, by omega, h3, h4, ?_⟩⟩
      rw [hlk, map_I1, List.map_take, ← map_I1, ← h5, List.take_take]
      congr 1; omega
  · intro b hb
    have : blkOf (cutV v 0 k 1) = blkOf v ∨ blkOf (cutV v 0 k 1) = [] := by
      cases v with
      | slice a m cap => left; show blkOf (subA a cap 0 k cap 1) = _; exact blk_subA a m cap 0 k cap 1
      | _ => left; rfl
    rcases this with h1 | h1
    · show b ∈ blkOf v; rw [← h1]; exact hb
    · have hb' : b ∈ blkOf (cutV v 0 k 1) := hb
      rw [h1] at hb'; cases hb'
/-- The end of a list, wiped. -/
theorem l_clr {T : TypeId} {v : Value} {l : List Int} (i k : Nat) (hx : ev f x = cutV v k l.length 1) (hL : L[i]? = some (Res.vec T 1 v l.length (l.flatMap I1))) (ht : P.underlying t = some (.slice T)) (hz : (P.info? T).bind (·.zero) = some (.int .i64 0)) (hk : k ≤ l.length)
    (kk : CL P n ops rest N f (Own w0 S (L.set i (Res.vec T 1 v (l.take k ++ List.replicate (l.length - k) 0).length ((l.take k ++ List.replicate (l.length - k) (0 : Int)).flatMap I1))))) : CL P n ops (⟨none, .call ⟨.builtin .clear, #[x], #[t]⟩, ty, p, af, none⟩ :: rest) N f (Own w0 S L) := by
  intro w hw
  have hlen : (l.take k ++ List.replicate (l.length - k) (0 : Int)).length = l.length := by simp; omega
  rw [hlen] at kk
  have hcs : ((l.take k ++ List.replicate (l.length - k) (0 : Int)).flatMap I1) = (l.flatMap I1).take k ++ List.replicate (l.length - k) (Value.int .i64 0) := by
    rw [List.flatMap_append, map_I1, map_I1, map_I1, List.map_take, List.map_replicate]
  simp only [Option.bind_eq_some_iff] at hz
  obtain ⟨i0, hi0, hz0⟩ := hz
  by_cases hkl : k = l.length
  · subst hkl
    have e1 : (l.take l.length ++ List.replicate (l.length - l.length) (0 : Int)) = l := by simp
    rw [e1] at kk
    have hLs : L.set i (Res.vec T 1 v l.length (l.flatMap I1)) = L := by
      apply List.ext_getElem?
      intro j
      by_cases hj : j = i
      · subst hj; rw [List.getElem?_set_self (List.getElem?_eq_some_iff.1 hL).1, hL]
      · rw [List.getElem?_set_ne (Ne.symm hj)]
    rw [hLs] at kk
    refine WL_val0 (v := .tuple #[]) (w' := w) ?_ (kk _ hw)
    obtain ⟨_, ⟨rfl, h1⟩ | ⟨g, cap, cur, rfl, _⟩⟩ := hw.holds i _ hL
    · have : l = [] := List.eq_nil_of_length_eq_zero h1
      subst this
      simp [execOp, resolve, invoke, builtin, hx, cutV, subA, Builtin.clear_, run_underlying ht]
    · have e2 : cutV (.slice (some ⟨g, 0, none⟩) l.length cap) l.length l.length 1 = .slice (if cap = l.length then some ⟨g, 0, none⟩ else some ⟨g, 0 + l.length * 1, none⟩) 0 (cap - l.length) := by
        show subA (some ⟨g, 0, none⟩) cap l.length l.length cap 1 = _
        unfold subA; simp only [Nat.sub_self, Nat.mul_one, Nat.zero_add, Option.map_some]
        congr 1
        split
        · rfl
        · by_cases h0 : l.length = 0 <;> simp [Addr.add, h0]
      rw [e2] at hx
      split at hx <;> simp [execOp, resolve, invoke, builtin, hx, Builtin.clear_, run_underlying ht]
  · obtain ⟨hl, ⟨rfl, h1⟩ | ⟨g, cap, cur, rfl, h0, h1, h2, h3, h4, h5⟩⟩ := hw.holds i _ hL
    · omega
    · have hcapk : cap ≠ k := by omega
      have e2 : cutV (.slice (some ⟨g, 0, none⟩) l.length cap) k l.length 1 = .slice (some ⟨g, k, none⟩) (l.length - k) (cap - k) := by
        show subA (some ⟨g, 0, none⟩) cap k l.length cap 1 = _
        unfold subA; rw [if_neg (by omega)]; simp [Addr.add]; omega
      rw [e2] at hx
      have hO : w.ownsRow 0 T 1 (.slice (some ⟨g, 0, none⟩) l.length cap) l.length (l.flatMap I1) := ⟨hl, .inr ⟨g, cap, cur, rfl, h0, h1, h2, h3, h4, h5⟩⟩
      have hfl : (l.flatMap I1).length = l.length := by rw [map_I1, List.length_map]
      obtain ⟨w', hst, hO', hb, hk'⟩ := vec_setN (P := P) (o := k) (vs := List.replicate (l.length - k) (Value.int .i64 0)) hO (by intro u hu; rw [List.eq_of_mem_replicate hu]; rfl) (by rw [hfl, List.length_replicate]; omega) (by rw [List.length_replicate]; omega)
      have e3 : splice (l.flatMap I1) k (List.replicate (l.length - k) (Value.int .i64 0)) = (l.flatMap I1).take k ++ List.replicate (l.length - k) (Value.int .i64 0) := by
        unfold splice; rw [List.length_replicate, show k + (l.length - k) = l.length by omega, List.drop_of_length_le (by omega), List.append_nil]
      rw [e3, ← hcs] at hO'
      have h6 := hw.frame1 (E := []) (r' := Res.vec T 1 (.slice (some ⟨g, 0, none⟩) l.length cap) l.length ((l.take k ++ List.replicate (l.length - k) (0 : Int)).flatMap I1)) hL (Own.mk1 (by show Keep [g] w w'; exact hk') hO' (fun b' hb' => .inl hb'))
      refine WL_val0 (v := .tuple #[]) (w' := w') ?_ (kk _ (by simpa using h6))
      have e4 : (Builtin.zeroCells (Value.int .i64 0).cells (l.length - k)).toList = List.replicate (l.length - k) (Value.int .i64 0) := by
        have hz1 : (Value.int .i64 0).cells = #[Value.int .i64 0] := rfl
        simp [Builtin.zeroCells, hz1, Nat.mod_one, List.map_const']
      have hne : l.length - k ≠ 0 := by omega
      obtain ⟨q, hq⟩ : ∃ q, l.length - k = q + 1 := ⟨l.length - k - 1, by omega⟩
      have hst' : (storeCells ⟨g, k, none⟩ (List.replicate (q + 1) (Value.int .i64 0))).run P w = .ok () w' := by
        rw [← hq]
        have e5 : offV (.slice (some ⟨g, 0, none⟩) l.length cap) + k = k := by show 0 + k = k; omega
        rw [e5] at hst; exact hst
      rw [hq] at e4
      simp [execOp, resolve, invoke, builtin, hx, hq, Builtin.clear_, run_underlying ht, zeroValue, typeInfo, hi0, hz0, e4, hst']
end
end Go.Sc
