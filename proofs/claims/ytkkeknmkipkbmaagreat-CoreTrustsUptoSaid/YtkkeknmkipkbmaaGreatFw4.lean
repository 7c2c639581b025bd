import Derived.Test.YtkkeknmkipkbmaaGreatFw3
set_option linter.unusedSectionVars false
set_option linter.unusedSimpArgs false
set_option linter.unusedVariables false
namespace Go.Sc
theorem jE (b off k : Nat) : (⟨b, off, none⟩ : Addr).add k = ⟨b, off + k, none⟩ := by
  unfold Addr.add
  split
  · rename_i h; simp [h]
  · rfl
theorem kF {P : Program} {t : TypeId} (ht : one P t = true) {w : World} {a : Addr} {v : Value} (hc : w.cell? a = some v) : (loadVar t a).run P w = .ok v w := by
  obtain ⟨h1, i, hi, hs⟩ := zDY ht
  simp [loadVar, h1, load, Sem.run, hc]
theorem xG {P : Program} {t : TypeId} {cs : List Value} (ht : kx P t = some cs.length) {w : World} {b off : Nat} (hc : ∀ i u, cs[i]? = some u → w.cell? ⟨b, off + i, none⟩ = some u) : (loadVar t ⟨b, off, none⟩).run P w = .ok (.agg cs.toArray) w := by
  obtain ⟨h1, i, hi, hs⟩ := zFi ht
  have := run_loadCells_list (P := P) (w := w) ⟨b, off, none⟩ cs (fun j v hv => by rw [jE]; exact hc j v hv)
  simp [loadVar, h1, sizeOf, typeInfo, hi, hs, this]
def cell1 : Value → Bool
  | .agg _ => false
  | .tuple _ => false
  | _ => true
theorem x3 {v : Value} (h : cell1 v = true) : v.cells = #[v] := by cases v <;> first | rfl | cases h
theorem zCG {v : Value} (h : cell1 v = true) : v.oneCell' = true := by cases v <;> first | rfl | cases h
theorem zBX {P : Program} {w : World} {a : Addr} {v u : Value} (hv : cell1 v = true) (hc : w.cell? a = some u) (hf : w.frozen? a = false) : (store a v).run P w = .ok () (w.setCell a v) := by
  unfold store
  cases v <;> first | (simp [cell1] at hv; done) | simp [Sem.run, hc, hf]
theorem je {P : Program} {t : TypeId} {i : TypeInfo} (hi : P.info? t = some i) (hs : i.size = 1) {w : World} {b off : Nat} {v u : Value} (hv : cell1 v = true) (hc : w.cell? ⟨b, off, none⟩ = some u) (hf : w.frozen? ⟨b, off, none⟩ = false) :
    (storeVar t ⟨b, off, none⟩ v).run P w = .ok () (w.setCell ⟨b, off, none⟩ v) := by
  have := zBX (P := P) hv hc hf
  simp [storeVar, sizeOf, typeInfo, hi, hs, x3 hv, storeCells, jE, this]
def xE (l : List Value) (off : Nat) (cs : List Value) : List Value := l.take off ++ cs ++ l.drop (off + cs.length)
theorem j6 {P : Program} {b off : Nat} {e : TypeId} : ∀ (cs l : List Value) (k : Nat) (w : World), (∀ v ∈ cs, cell1 v = true) → Row w b e l → off + k + cs.length ≤ l.length →
    ∃ w', (storeCells ⟨b, off, none⟩ cs k).run P w = .ok () w' ∧ Row w' b e (xE l (off + k) cs) ∧ Keep [b] w w'
  | [], l, k, w, _, hr, _ => ⟨w, by simp [storeCells], by simpa [xE] using hr, Keep.refl _ _⟩
  | v :: cs, l, k, w, h1, hr, hl => by
    simp only [List.length_cons] at hl
    have hlt : off + k < l.length := by omega
    obtain ⟨u, hu⟩ : ∃ u, l[off + k]? = some u := ⟨l[off + k], by simp [hlt]⟩
    have hs := zBX (P := P) (w := w) (a := ⟨b, off + k, none⟩) (h1 v (by simp)) (hr.cell hu) (hr.free hlt)
    have hset := hr.set (off := off + k) v
    obtain ⟨w', hw, hr', hk⟩ := j6 (P := P) (off := off) cs (l.set (off + k) v) (k + 1) _ (fun u hu => h1 u (by simp [hu])) hset.1 (by simp; omega)
    refine ⟨w', ?_, ?_, hset.2.trans hk⟩
    · simp [storeCells, jE, hs, hw]
    · have : xE (l.set (off + k) v) (off + (k + 1)) cs = xE l (off + k) (v :: cs) := by
        unfold xE
        have e1 : (l.set (off + k) v).take (off + (k + 1)) = l.take (off + k) ++ [v] := by
          rw [show off + (k + 1) = (off + k) + 1 by omega, List.take_set, List.take_succ_eq_append_getElem hlt, List.set_append_right _ _ (by simp; omega)]
          simp [Nat.min_eq_left (Nat.le_of_lt hlt)]
        have e2 : (l.set (off + k) v).drop (off + (k + 1) + cs.length) = l.drop (off + k + (cs.length + 1)) := by
          rw [List.drop_set_of_lt (by omega)]
          congr 1
          omega
        rw [e1, e2]
        simp
      rw [← this]; exact hr'
section
variable {P : Program} {n : Nat} {ops : Array Oper} {N R : K} {f : Nat → Value} {A : World → Prop} {rest : List Oper}
variable {d : Nat} {ty : TypeId} {p : String} {af : Array Edge} {x y : Operand} {t : TypeId}
variable {w0 : World} {S : List Nat} {L : List Res}
theorem zP {a : Addr} (hx : ev f x = .pointer (some a)) : RV P f ⟨some d, .nilCheck x, ty, p, af, none⟩ A ((.pointer (some a))) :=
  fun w _ => by simp [execOp, hx]
theorem zh {a : Addr} (hx : ev f x = .pointer (some a)) (hd : Nat.blt d n = true) (k : CL P n ops rest N (upd f d (.pointer (some a))) A) : CL P n ops (⟨some d, .nilCheck x, ty, p, af, none⟩ :: rest) N f A :=
  yN hd (fun w _ => by simp [execOp, hx]) k
theorem zKH {b off o i : Nat} (hx : ev f x = .pointer (some ⟨b, off, none⟩)) (ho : zAN P t i = some o) : RV P f ⟨some d, .fieldAddr t x i, ty, p, af, none⟩ A ((.pointer (some ⟨b, off + o, none⟩))) :=
  fun w _ => by
    unfold zAN at ho
    split at ho
    · rename_i fs hfs
      simp only [Option.bind_eq_some_iff] at ho
      obtain ⟨fl, hfl, i0, hi0, ho⟩ := ho
      split at ho
      · cases ho
      · rename_i hz
        simp at ho; subst ho
        simp [execOp, hx, Instr.fieldAt, yF hfs, hfl, Instr.sureAddr, fieldPlace, sizeOf, typeInfo, hi0, hz, jE]
    · cases ho
theorem zKo {b off o i : Nat} (hx : ev f x = .pointer (some ⟨b, off, none⟩)) (ho : zAN P t i = some o) (hd : Nat.blt d n = true) (k : CL P n ops rest N (upd f d (.pointer (some ⟨b, off + o, none⟩))) A) :
    CL P n ops (⟨some d, .fieldAddr t x i, ty, p, af, none⟩ :: rest) N f A :=
  yN hd (fun w _ => by
    unfold zAN at ho
    split at ho
    · rename_i fs hfs
      simp only [Option.bind_eq_some_iff] at ho
      obtain ⟨fl, hfl, i0, hi0, ho⟩ := ho
      split at ho
      · cases ho
      · rename_i hz
        simp at ho; subst ho
        simp [execOp, hx, Instr.fieldAt, yF hfs, hfl, Instr.sureAddr, fieldPlace, sizeOf, typeInfo, hi0, hz, jE]
    · cases ho) k
theorem zKV {k : IntKind} {i : Int} {j b off len cap sz : Nat} (hx : ev f x = .slice (some ⟨b, off, none⟩) len cap) (hy : ev f y = .int k i) (ht : zAC P t = some sz) (hi : i = j) (hj : j < len) : RV P f ⟨some d, .indexAddr t x y, ty, p, af, none⟩ A ((.pointer (some ⟨b, off + j * sz, none⟩))) :=
  fun w _ => by
    unfold zAC at ht
    split at ht
    · rename_i e he
      simp only [Option.map_eq_some_iff] at ht
      obtain ⟨i0, hi0, rfl⟩ := ht
      subst hi
      have hj' : (j : Int) < len := by omega
      simp [execOp, hx, hy, Instr.indexAt, asIntOf, yF he, sizeOf, typeInfo, hi0, hj, jE]
    · cases ht
theorem zFH {a : Addr} {v : Value} (hx : ev f x = .pointer (some a)) (ht : one P t = true) (hc : ∀ w, A w → w.cell? a = some v) : RV P f ⟨some d, .load t x, ty, p, af, none⟩ A (v) :=
  fun w hw => by simp [execOp, hx, Instr.loadAt, Instr.sureAddr, kF ht (hc w hw)]
theorem zKy {a : Addr} {v : Value} (hx : ev f x = .pointer (some a)) (ht : one P t = true) (hc : ∀ w, A w → w.cell? a = some v) (hd : Nat.blt d n = true) (k : CL P n ops rest N (upd f d v) A) :
    CL P n ops (⟨some d, .load t x, ty, p, af, none⟩ :: rest) N f A :=
  yN hd (fun w hw => by simp [execOp, hx, Instr.loadAt, Instr.sureAddr, kF ht (hc w hw)]) k
theorem zHA {b off : Nat} {cs : List Value} (hx : ev f x = .pointer (some ⟨b, off, none⟩)) (ht : kx P t = some cs.length) (hc : ∀ w, A w → ∀ i u, cs[i]? = some u → w.cell? ⟨b, off + i, none⟩ = some u) : RV P f ⟨some d, .load t x, ty, p, af, none⟩ A ((.agg cs.toArray)) :=
  fun w hw => by simp [execOp, hx, Instr.loadAt, Instr.sureAddr, xG ht (hc w hw)]
theorem zKx {b off : Nat} {cs : List Value} (hx : ev f x = .pointer (some ⟨b, off, none⟩)) (ht : kx P t = some cs.length) (hc : ∀ w, A w → ∀ i u, cs[i]? = some u → w.cell? ⟨b, off + i, none⟩ = some u) (hd : Nat.blt d n = true)
    (k : CL P n ops rest N (upd f d (.agg cs.toArray)) A) : CL P n ops (⟨some d, .load t x, ty, p, af, none⟩ :: rest) N f A :=
  yN hd (fun w hw => by simp [execOp, hx, Instr.loadAt, Instr.sureAddr, xG ht (hc w hw)]) k
theorem zGK (i : Nat) {b off : Nat} {e : TypeId} {cs : List Value} {v : Value} (hx : ev f x = .pointer (some ⟨b, off, none⟩)) (hL : L[i]? = some (Res.row b e cs)) (hv : cs[off]? = some v) (ht : one P t = true) : RV P f ⟨some d, .load t x, ty, p, af, none⟩ (Own w0 S L) (v) :=
  zFH hx ht (fun w hw => hw.rowCell hL hv)
theorem zKD (i : Nat) {b off : Nat} {e : TypeId} {cs : List Value} {v : Value} (hx : ev f x = .pointer (some ⟨b, off, none⟩)) (hL : L[i]? = some (Res.row b e cs)) (hv : cs[off]? = some v) (ht : one P t = true) (hd : Nat.blt d n = true)
    (k : CL P n ops rest N (upd f d v) (Own w0 S L)) : CL P n ops (⟨some d, .load t x, ty, p, af, none⟩ :: rest) N f (Own w0 S L) :=
  zKy hx ht (fun w hw => hw.rowCell hL hv) hd k
theorem zKU (i : Nat) {b : Nat} {e : TypeId} {cs : List Value} (hx : ev f x = .pointer (some ⟨b, 0, none⟩)) (hL : L[i]? = some (Res.row b e cs)) (ht : kx P t = some cs.length) : RV P f ⟨some d, .load t x, ty, p, af, none⟩ (Own w0 S L) ((.agg cs.toArray)) :=
  zHA hx ht (fun w hw j u hu => hw.rowCell hL (by simpa using hu))
theorem zKE (i : Nat) {b : Nat} {e : TypeId} {cs : List Value} (hx : ev f x = .pointer (some ⟨b, 0, none⟩)) (hL : L[i]? = some (Res.row b e cs)) (ht : kx P t = some cs.length) (hd : Nat.blt d n = true)
    (k : CL P n ops rest N (upd f d (.agg cs.toArray)) (Own w0 S L)) : CL P n ops (⟨some d, .load t x, ty, p, af, none⟩ :: rest) N f (Own w0 S L) :=
  zKx hx ht (fun w hw j u hu => hw.rowCell hL (by simpa using hu)) hd k
theorem zAq {b off : Nat} {v : Value} (hx : ev f x = .pointer (some ⟨b, off, none⟩)) (hc : w0.cell? ⟨b, off, none⟩ = some v) (hb : b ∉ S) (ht : one P t = true) : RV P f ⟨some d, .load t x, ty, p, af, none⟩ (Own w0 S L) (v) :=
  zFH hx ht (fun w hw => hw.oldCell hc hb)
theorem xq {b off : Nat} {v : Value} (hx : ev f x = .pointer (some ⟨b, off, none⟩)) (hc : w0.cell? ⟨b, off, none⟩ = some v) (hb : b ∉ S) (ht : one P t = true) (hd : Nat.blt d n = true)
    (k : CL P n ops rest N (upd f d v) (Own w0 S L)) : CL P n ops (⟨some d, .load t x, ty, p, af, none⟩ :: rest) N f (Own w0 S L) :=
  zKy hx ht (fun w hw => hw.oldCell hc hb) hd k
theorem zLI (i : Nat) {b off : Nat} {e : TypeId} {cs : List Value} {v : Value} (hx : ev f x = .pointer (some ⟨b, off, none⟩)) (hy : ev f y = v) (hL : L[i]? = some (Res.row b e cs)) (ht : jg P t = some 1) (hv : cell1 v = true) (ho : off < cs.length)
    (k : CL P n ops rest N f (Own w0 S (L.set i (Res.row b e (cs.set off v))))) : CL P n ops (⟨none, .store t x y, ty, p, af, none⟩ :: rest) N f (Own w0 S L) := by
  intro w hw
  simp only [jg, Option.map_eq_some_iff] at ht
  obtain ⟨i0, hi0, hs0⟩ := ht
  have hr : Row w b e cs := hw.holds i _ hL
  obtain ⟨u, hu⟩ : ∃ u, cs[off]? = some u := ⟨cs[off], by simp [ho]⟩
  have hst := je (P := P) hi0 hs0 (w := w) (b := b) (off := off) hv (hr.cell hu) (hr.free ho)
  refine zCr (w' := w.setCell ⟨b, off, none⟩ v) ?_ (k _ (hw.setRow hL v))
  simp [execOp, hx, hy, Instr.storeAt, Instr.sureAddr, hst]
theorem zJ9 (i : Nat) {b off : Nat} {e : TypeId} {cs vs : List Value} (hx : ev f x = .pointer (some ⟨b, off, none⟩)) (hy : ev f y = .agg vs.toArray) (hL : L[i]? = some (Res.row b e cs)) (ht : jg P t = some vs.length) (hv : ∀ v ∈ vs, cell1 v = true) (ho : off + vs.length ≤ cs.length)
    (k : CL P n ops rest N f (Own w0 S (L.set i (Res.row b e (xE cs off vs))))) : CL P n ops (⟨none, .store t x y, ty, p, af, none⟩ :: rest) N f (Own w0 S L) := by
  intro w hw
  simp only [jg, Option.map_eq_some_iff] at ht
  obtain ⟨i0, hi0, hs0⟩ := ht
  have hr : Row w b e cs := hw.holds i _ hL
  obtain ⟨w', hst, hr', hk⟩ := j6 (P := P) (off := off) vs cs 0 w hv hr (by omega)
  have hO := hw.frame1 (r' := Res.row b e (xE cs off vs)) (E := []) hL (Own.mk1 hk hr' (fun b' hb' => .inl hb'))
  refine zCr (w' := w') ?_ (k _ (by simpa using hO))
  simp [execOp, hx, hy, Instr.storeAt, Instr.sureAddr, storeVar, sizeOf, typeInfo, hi0, hs0, Value.cells, hst]
theorem z7 {v : Value} (hx : ev f x = v) (hd : Nat.blt d n = true) (k : ∀ b, CL P n ops rest N (upd f d (.pointer (some ⟨b, 0, none⟩))) (Own w0 S (L ++ [Res.row b t v.cells.toList]))) :
    CL P n ops (⟨some d, .box t x, ty, p, af, none⟩ :: rest) N f (Own w0 S L) := by
  intro w hw
  refine kJ (w' := w.alloc (.cells v.cells.toList.toArray t)) ?_ hd (k w.heap.size _ (hw.alloc t v.cells.toList))
  simp [execOp, hx, Instr.box, newVar, newRow]
theorem yS {v : Value} (hz : zEq P t = some v) (hd : Nat.blt d n = true) (k : ∀ b, CL P n ops rest N (upd f d (.pointer (some ⟨b, 0, none⟩))) (Own w0 S (L ++ [Res.row b t v.cells.toList]))) :
    CL P n ops (⟨some d, .alloc t, ty, p, af, none⟩ :: rest) N f (Own w0 S L) := by
  intro w hw
  simp only [zEq, Option.bind_eq_some_iff] at hz
  obtain ⟨i0, hi0, hz0⟩ := hz
  refine kJ (w' := w.alloc (.cells v.cells.toList.toArray t)) ?_ hd (k w.heap.size _ (hw.alloc t v.cells.toList))
  simp [execOp, Instr.alloc, zeroValue, typeInfo, hi0, hz0, newVar, newRow]
theorem zAa {g : FuncId} {l : List Operand} {vs : List Value} {ats : Array TypeId} (hg : xk P g = true) (ha : l.map (ev f) = vs) (hd : Nat.blt d n = true)
    (h : ∀ w, A w → Rets P g vs.toArray w fun v w' => WL P n ops rest N (upd f d v) w') : CL P n ops (⟨some d, .call ⟨.value (.func g), l.toArray, ats⟩, ty, p, af, none⟩ :: rest) N f A := by
  intro w hw
  refine zDQ (w' := w) (g := g) (args := vs.toArray) ?_ hd (h w hw)
  have hc := xz hg w vs.toArray
  simp [execOp, resolve, ev, Deferred.ofValue, invoke, ha, hc]
theorem yh {g : FuncId} {s : Nat} {l : List Operand} {vs fst cap : List Value} {ats : Array TypeId} (hf : f s = .func (.func g) fst.toArray cap.toArray) (hg : xk P g = true) (ha : l.map (ev f) = vs) (hd : Nat.blt d n = true)
    (h : ∀ w, A w → Rets P g (fst ++ vs ++ cap).toArray w fun v w' => WL P n ops rest N (upd f d v) w') : CL P n ops (⟨some d, .call ⟨.value (.tmp s), l.toArray, ats⟩, ty, p, af, none⟩ :: rest) N f A := by
  intro w hw
  refine zDQ (w' := w) (g := g) (args := (fst ++ vs ++ cap).toArray) ?_ hd (h w hw)
  have hc := xz hg w (fst ++ vs ++ cap).toArray
  simp only [List.append_assoc] at hc
  simp [execOp, resolve, ev, hf, Deferred.ofValue, invoke, ha, hc]
theorem zAs {g : Fn} {a b : List Operand} {va vb : List Value} (ha : a.map (ev f) = va) (hb : b.map (ev f) = vb) (hd : Nat.blt d n = true) (k : CL P n ops rest N (upd f d (.func g va.toArray vb.toArray)) A) :
    CL P n ops (⟨some d, .makeFunc g a.toArray b.toArray, ty, p, af, none⟩ :: rest) N f A :=
  yN hd (fun w _ => by simp [execOp, Instr.makeFunc, ha, hb]) k
theorem zGQ (d : Nat) {e : TypeId} (he : P.underlying t = some (.pointer e)) (a : Option Addr) (w : World) : (Op.equalIn (d + 1) t (.pointer a) (.pointer none)).run P w = .ok a.isNone w := by
  cases a <;> simp [Op.equalIn, yF he]
theorem zHl (d : Nat) {e : TypeId} (he : P.underlying t = some (.slice e)) (a : Option Addr) (i j : Nat) (w : World) : (Op.equalIn (d + 1) t (.slice a i j) (.slice none 0 0)).run P w = .ok a.isNone w := by
  cases a <;> simp [Op.equalIn, yF he]
theorem zH7 (a b : Option Addr) : binOp .eql t (.pointer a) (.pointer b) = (do pure (.bool (← Op.equal t (.pointer a) (.pointer b)))) := rfl
theorem zIZ (a b : Option Addr) : binOp .neq t (.pointer a) (.pointer b) = (do pure (.bool (!(← Op.equal t (.pointer a) (.pointer b))))) := rfl
theorem zEc (a b : Option Addr) (i j k l : Nat) : binOp .eql t (.slice a i j) (.slice b k l) = (do pure (.bool (← Op.equal t (.slice a i j) (.slice b k l)))) := rfl
theorem xy {a : Option Addr} {t' : TypeId} (ht : zCi P t = true) (hx : ev f x = .pointer a) (hy : ev f y = .pointer none) (hd : Nat.blt d n = true) (k : CL P n ops rest N (upd f d (.bool a.isNone)) A) :
    CL P n ops (⟨some d, .binOp .eql t x y t', ty, p, af, none⟩ :: rest) N f A :=
  yN hd (fun w _ => by
    unfold zCi at ht
    split at ht
    · rename_i e he
      have hq : (Op.equal t (.pointer a) (.pointer none)).run P w = .ok a.isNone w := zGQ 9999 he a w
      simp only [execOp, hx, hy, eqGuard, zH7]
      simp [hq]
    · cases ht) k
theorem jw {a : Option Addr} {t' : TypeId} (ht : zCi P t = true) (hx : ev f x = .pointer a) (hy : ev f y = .pointer none) (hd : Nat.blt d n = true) (k : CL P n ops rest N (upd f d (.bool a.isSome)) A) :
    CL P n ops (⟨some d, .binOp .neq t x y t', ty, p, af, none⟩ :: rest) N f A :=
  yN hd (fun w _ => by
    unfold zCi at ht
    split at ht
    · rename_i e he
      have hq : (Op.equal t (.pointer a) (.pointer none)).run P w = .ok a.isNone w := zGQ 9999 he a w
      simp only [execOp, hx, hy, eqGuard, zIZ]
      simp [hq]
    · cases ht) k
theorem zJk {a : Option Addr} {len cap : Nat} {t' : TypeId} (ht : x1 P t = true) (hx : ev f x = .slice a len cap) (hy : ev f y = .slice none 0 0) : RV P f ⟨some d, .binOp .eql t x y t', ty, p, af, none⟩ A ((.bool a.isNone)) :=
  fun w _ => by
    unfold x1 at ht
    split at ht
    · rename_i e he
      have hq : (Op.equal t (.slice a len cap) (.slice none 0 0)).run P w = .ok a.isNone w := zHl 9999 he a len cap w
      simp only [execOp, hx, hy, eqGuard, zEc]
      simp [hq]
    · cases ht
theorem zGd {a : Option Addr} {len cap : Nat} {t' : TypeId} (ht : x1 P t = true) (hx : ev f x = .slice a len cap) (hy : ev f y = .slice none 0 0) (hd : Nat.blt d n = true) (k : CL P n ops rest N (upd f d (.bool a.isNone)) A) :
    CL P n ops (⟨some d, .binOp .eql t x y t', ty, p, af, none⟩ :: rest) N f A :=
  yN hd (fun w _ => by
    unfold x1 at ht
    split at ht
    · rename_i e he
      have hq : (Op.equal t (.slice a len cap) (.slice none 0 0)).run P w = .ok a.isNone w := zHl 9999 he a len cap w
      simp only [execOp, hx, hy, eqGuard, zEc]
      simp [hq]
    · cases ht) k
theorem zKN {a : Option Addr} {len cap : Nat} (ht : x1 P t = true) (hx : ev f x = .slice a len cap) : RV P f ⟨some d, .call ⟨.builtin .len, #[x], #[t]⟩, ty, p, af, none⟩ A ((.int .i64 len)) :=
  fun w _ => by
    unfold x1 at ht
    split at ht
    · rename_i e he
      simp [execOp, resolve, invoke, builtin, Builtin.len_, hx, yF he, goInt]
    · cases ht
theorem zE7 {a : Option Addr} {len cap : Nat} (ht : x1 P t = true) (hx : ev f x = .slice a len cap) (hd : Nat.blt d n = true) (k : CL P n ops rest N (upd f d (.int .i64 len)) A) :
    CL P n ops (⟨some d, .call ⟨.builtin .len, #[x], #[t]⟩, ty, p, af, none⟩ :: rest) N f A :=
  yN hd (fun w _ => by
    unfold x1 at ht
    split at ht
    · rename_i e he
      simp [execOp, resolve, invoke, builtin, Builtin.len_, hx, yF he, goInt]
    · cases ht) k
end
end Go.Sc
