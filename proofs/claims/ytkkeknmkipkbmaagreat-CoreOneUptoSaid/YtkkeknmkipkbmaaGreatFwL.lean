import Derived.Test.YtkkeknmkipkbmaaGreatFwX
set_option linter.unusedSectionVars false
set_option linter.unusedSimpArgs false
set_option linter.unusedVariables false
namespace Go.Sc
open Go
theorem kd {P : Program} {w : World} (t ti ty e : TypeId) (i : TypeInfo) (z : Value) (ht : P.underlying t = some (.slice e)) (hti : P.underlying ti = some (.int .i64)) (hi : P.info? e = some i) (hz : i.zero = some z) (hs : i.size = 1)
    {n : Nat} (h0 : 0 < n) (h63 : (n : Int) ≤ 4611686018427387904) (h48 : n * i.bytes ≤ 281474976710656) :
    (Builtin.append_ #[t, ti] ty #[.slice none 0 0, .int .i64 (n : Int)]).run P w =
      .ok (.slice (some ⟨w.heap.size, 0, none⟩) n (grownCap w n 0 e)) (w.drew.alloc (.cells (Builtin.zeroCells z.cells n ++ Builtin.zeroCells z.cells (grownCap w n 0 e - n)) e)) := by
  have hn : n ≠ 0 := by omega
  have hw : IntKind.i64.wrap (n : Int) = (n : Int) := zo (by omega)
  have h63' : ¬ (9223372036854775807 < (n : Int)) := by omega
  have hneg : ¬ ((n : Int) < 0) := by omega
  have h48a : ¬ (281474976710656 < (n : Int) * (i.bytes : Int)) := by
    have e : (n : Int) * (i.bytes : Int) = ((n * i.bytes : Nat) : Int) := (Int.natCast_mul n i.bytes).symm
    rw [e]; omega
  have h48' : ¬ (281474976710656 < Builtin.nextslicecap n 0 * i.bytes) := by rw [nextslicecap_zero h0]; omega
  simp [Builtin.append_, zg ht, zg hti, sizeOf, typeInfo, zeroValue, hi, hz, hs, asInt, asIntOf, hw, hn, hneg, h63', h48a, h48', Question.forced, run_firstCells_none, newRow, grownCap]
section
variable {P : Program} {n : Nat} {ops : Array Oper} {N : K} {f : Nat → Value} {A : World → Prop} {rest : List Oper} {w0 : World} {S : List Nat} {L : List Res}
variable {d : Nat} {ty : TypeId} {p : String} {af : Array Edge} {x y : Operand} {t ti e : TypeId} {by' : Nat}
theorem zD2 {α : Type} {g : α → List Value} {z : α} {zv : Value} {m : Nat} (ht : slT P t = some (e, 1, by')) (hti : zBv P ti = some .i64) (hz : zBG P e = some zv) (hc : zv.cells = #[zv]) (hg : g z = [zv]) (hx : ev f x = .slice none 0 0) (hy : ev f y = .int .i64 (m : Int)) (h0 : 0 < m) (hm : m ≤ 1000000000000) (hb : m * by' ≤ 140737488355328) (hd : Nat.blt d n = true)
    (k : ∀ b c, m ≤ c → CL P n ops rest N (upd f d (.slice (some ⟨b, 0, none⟩) m c)) (Own w0 S (L ++ [Res.vec e 1 (.slice (some ⟨b, 0, none⟩) m c) (List.replicate m z).length ((List.replicate m z).flatMap g)]))) :
    CL P n ops (⟨some d, .call ⟨.builtin .append, #[x, y], #[t, ti]⟩, ty, p, af, none⟩ :: rest) N f (Own w0 S L) := by
  intro w hw
  obtain ⟨hu, i, z', hi, hz', hs, hby, hzs, hsz⟩ := xt ht
  have e0 : z' = zv := by
    simp only [zBG, hi, Option.bind_some, hz'] at hz
    exact Option.some.inj hz
  subst e0
  subst hby
  have hti' : P.underlying ti = some (.int .i64) := by
    unfold zBv at hti
    split at hti
    · rename_i k' hk'; cases hti; exact hk'
    · cases hti
  have hmx := yJ
  have hr := kd (P := P) (w := w) t ti ty e i z' hu hti' hi hz' hs h0 (by omega) (by omega)
  have hge := grownCap_ge w m 0 e
  have hcm : grownCap w m 0 e ≤ maxLen := grownCap_le_maxLen w m 0 e (by rw [hmx]; omega)
  have hrow : (Builtin.zeroCells z'.cells m).toList = (List.replicate m z).flatMap g := by
    rw [hc]
    simp only [Builtin.zeroCells, List.flatMap, hg]
    have e2 : (fun i : Nat => [z'][i % 1]?.getD default) = fun _ => z' := by funext i; rw [Nat.mod_one]; rfl
    simp
    rw [e2, List.map_const', List.length_range, hg]; simp
  have hO : Own w [] [Res.vec e 1 (.slice (some ⟨w.heap.size, 0, none⟩) m (grownCap w m 0 e)) (List.replicate m z).length ((List.replicate m z).flatMap g)] (w.drew.alloc (.cells (Builtin.zeroCells z'.cells m ++ Builtin.zeroCells z'.cells (grownCap w m 0 e - m)) e)) := by
    refine Own.mk1 ⟨rfl, rfl, rfl, by simp, fun k hk _ => heap_alloc_old w.drew _ hk⟩ ?_ (fun b hb => by simp [Res.vec, yQ] at hb; right; omega)
    rw [List.length_replicate]
    refine ⟨by rw [← hrow, Array.length_toList, size_zeroCells, hzs], .inr ⟨w.heap.size, _, _, rfl, Nat.zero_le _, heap_alloc_new w.drew _, hge, hcm, ?_, ?_⟩⟩
    · simp only [Array.size_append, size_zeroCells, hzs]; omega
    · rw [Array.toList_append, hrow]
      exact List.take_left' (by rw [← hrow, Array.length_toList, size_zeroCells, hzs])
  refine xE (w' := _) ?_ hd (k w.heap.size _ hge _ (hw.frame0 hO))
  simp [execOp, resolve, invoke, builtin, hx, hy, hr]
theorem zEJ (ht : yy P t = true) (hx : ev f x = .slice none 0 0) : RV P f ⟨some d, .call ⟨.builtin .cap, #[x], #[t]⟩, ty, p, af, none⟩ A (.int .i64 0) := by
  intro w _
  unfold yy at ht
  split at ht
  · rename_i e he
    simp [execOp, resolve, invoke, builtin, hx, Builtin.cap_, zg he, goInt]
  · cases ht
theorem zCW (ht : yy P t = true) (hx : ev f x = .slice none 0 0) (hd : Nat.blt d n = true) (k : CL P n ops rest N (upd f d (.int .i64 0)) A) : CL P n ops (⟨some d, .call ⟨.builtin .cap, #[x], #[t]⟩, ty, p, af, none⟩ :: rest) N f A := zp hd (zEJ ht hx) k
theorem ju (l : List Int) : l.flatMap I1 = l.map (Value.int .i64) := by induction l <;> simp_all [I1]
theorem Own.vecCutL {w : World} {T : TypeId} {v : Value} {l : List Int} (i k : Nat) (hL : L[i]? = some (Res.vec T 1 v l.length (l.flatMap I1))) (hk : k ≤ l.length) (h : Own w0 S L w) : Own w0 S (L.set i (Res.vec T 1 (yg v 0 k 1) (l.take k).length ((l.take k).flatMap I1))) w := by
  refine h.turn hL ?_ ?_
  · rintro ⟨hl, ⟨rfl, h1⟩ | ⟨g, cap, cur, rfl, h0, h1, h2, h3, h4, h5⟩⟩
    · have : l = [] := List.eq_nil_of_length_eq_zero h1
      subst this
      have hk0 : k = 0 := by simpa using hk
      subst hk0
      exact ⟨rfl, .inl ⟨rfl, rfl⟩⟩
    · have e : yg (.slice (some ⟨g, 0, none⟩) l.length cap) 0 k 1 = .slice (some ⟨g, 0, none⟩) k cap := by
        show xN (some ⟨g, 0, none⟩) cap 0 k cap 1 = _
        unfold xN
        simp [Addr.add]
      rw [e]
      have hlk : (l.take k).length = k := by simp; omega
      refine ⟨by rw [ju, List.length_map]; omega, .inr ⟨g, cap, cur, by rw [hlk], h0, h1, by omega, h3, h4, ?_⟩⟩
      rw [hlk, ju, List.map_take, ← ju, ← h5, List.take_take]
      congr 1; omega
  · intro b hb
    have : yQ (yg v 0 k 1) = yQ v ∨ yQ (yg v 0 k 1) = [] := by
      cases v with
      | slice a m cap => left; show yQ (xN a cap 0 k cap 1) = _; exact zAI a m cap 0 k cap 1
      | _ => left; rfl
    rcases this with h1 | h1
    · show b ∈ yQ v; rw [← h1]; exact hb
    · have hb' : b ∈ yQ (yg v 0 k 1) := hb
      rw [h1] at hb'; cases hb'
end
end Go.Sc
