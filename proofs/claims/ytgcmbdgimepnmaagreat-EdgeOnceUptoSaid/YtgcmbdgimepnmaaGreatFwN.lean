/-
  STRUCTS THAT HOLD STRUCTS, HELD AGAINST EACH OTHER: '==' and '!=' where each field is an integer, a bool, a string, or a struct of such.
-/
import Derived.Test.YtgcmbdgimepnmaaGreatFwE
import Derived.ChangeKeysEq
set_option linter.unusedVariables false
set_option linter.unusedSectionVars false
namespace Go.Sc

/-- A field's places: its own, or those of the struct that it holds. -/
def flatF (P : Program) (f : Field) : Option (List (Nat × Option (Option IntKind))) :=
  if f.name = "_" then none else
    match P.underlying f.type with
    | some (.int k) => some [(f.offset, some (some k))]
    | some .string => some [(f.offset, some none)]
    | some .bool => some [(f.offset, none)]
    | some (.struct _) =>
      match flatT P f.type with
      | some ks => if (P.info? f.type).isSome && ks.all (fun q => q.1 < P.cellsOf f.type) then some (ks.map fun q => (f.offset + q.1, q.2)) else none
      | none => none
    | _ => none
def flat2 (P : Program) (t : TypeId) : Option (List (List (Nat × Option (Option IntKind)))) :=
  match P.underlying t with
  | some (.struct fs) => if P.stoodInHeld t then none else fs.toList.mapM (flatF P)
  | _ => none

section
variable {P : Program}
theorem eqL_append (a b : List (Nat × Option (Option IntKind))) (xs ys : List Value) : eqL (a ++ b) xs ys = (eqL a xs ys && eqL b xs ys) := by simp [eqL]
theorem fitsK_append (a b : List (Nat × Option (Option IntKind))) (xs : List Value) : fitsK (a ++ b) xs = (fitsK a xs && fitsK b xs) := by simp [fitsK]
theorem part_get (xs : List Value) (o n i : Nat) (h : i < n) : ((xs.drop o).take n)[i]? = xs[o + i]? := by
  rw [List.getElem?_take, if_pos h, List.getElem?_drop]
theorem eqL_part (o n : Nat) (xs ys : List Value) : ∀ {ks : List (Nat × Option (Option IntKind))}, ks.all (fun q => q.1 < n) = true → eqL (ks.map fun q => (o + q.1, q.2)) xs ys = eqL ks ((xs.drop o).take n) ((ys.drop o).take n)
  | [], _ => rfl
  | q :: ks, h => by
    simp only [List.all_cons, Bool.and_eq_true, decide_eq_true_eq] at h
    have ih := eqL_part o n xs ys h.2
    simp only [eqL] at ih
    simp only [eqL, List.map_cons, List.all_cons, part_get _ _ _ _ h.1]
    rw [ih]
theorem fitsK_part (o n : Nat) (xs : List Value) : ∀ {ks : List (Nat × Option (Option IntKind))}, ks.all (fun q => q.1 < n) = true → fitsK (ks.map fun q => (o + q.1, q.2)) xs = fitsK ks ((xs.drop o).take n)
  | [], _ => rfl
  | q :: ks, h => by
    simp only [List.all_cons, Bool.and_eq_true, decide_eq_true_eq] at h
    have ih := fitsK_part o n xs h.2
    simp only [fitsK] at ih
    simp only [fitsK, List.map_cons, List.all_cons, part_get _ _ _ _ h.1]
    rw [ih]
theorem run_partA {t : TypeId} {i : TypeInfo} {cs : List Value} {off : Nat} {w : World} (hag : (isAgg t).run P w = .ok true w) (hi : P.info? t = some i) : (part t cs.toArray off).run P w = .ok (.agg ((cs.drop off).take (P.cellsOf t)).toArray) w := by
  have e : cs.toArray.extract off (off + P.cellsOf t) = ((cs.drop off).take (P.cellsOf t)).toArray := by
    rw [List.extract_toArray, List.extract_eq_take_drop]
    simp
  simp [part, hag, run_sizeOf w hi, e]
theorem run_eqF (d : Nat) {xs ys : List Value} {w : World} : ∀ (fs : List Field) (kss : List (List (Nat × Option (Option IntKind)))),
    fs.mapM (flatF P) = some kss → fitsK kss.flatten xs = true → fitsK kss.flatten ys = true → (Op.eqFields (d + 2) xs.toArray ys.toArray fs).run P w = .ok (eqL kss.flatten xs ys) w
  | [], kss, h, _, _ => by simp at h; subst h; rfl
  | f :: fs, kss, h, hx, hy => by
    simp only [List.mapM_cons, bind, Option.bind_eq_some_iff, pure] at h
    obtain ⟨q, hq, l, hl, h⟩ := h
    simp at h; subst h
    rw [List.flatten_cons, fitsK_append, Bool.and_eq_true] at hx hy
    have ih := run_eqF d (xs := xs) (ys := ys) (w := w) fs l hl hx.2 hy.2
    rw [List.flatten_cons, eqL_append]
    obtain ⟨hx1, -⟩ := hx
    obtain ⟨hy1, -⟩ := hy
    unfold flatF at hq
    split at hq
    · cases hq
    · rename_i hn
      have hbasic : ∀ k : Option (Option IntKind), (match k with | some (some k) => P.underlying f.type = some (.int k) | some none => P.underlying f.type = some .string | none => P.underlying f.type = some .bool) → q = [(f.offset, k)] →
          (Op.eqFields (d + 2) xs.toArray ys.toArray (f :: fs)).run P w = .ok (eqL q xs ys && eqL l.flatten xs ys) w := by
        intro k hk e
        subst e
        simp only [fitsK, List.all_cons, List.all_nil, Bool.and_true] at hx1 hy1
        cases ha : xs[f.offset]? with
        | none => rw [ha] at hx1; cases hx1
        | some a =>
          cases hb : ys[f.offset]? with
          | none => rw [hb] at hy1; cases hy1
          | some b =>
            rw [ha] at hx1; rw [hb] at hy1
            obtain ⟨e1, e2⟩ := run_eqC (P := P) (t := f.type) (d := d + 1) (w := w) hk hx1 hy1
            have p1 := run_part1 (P := P) (cs := xs.toArray) e2 (by simpa using ha)
            have p2 := run_part1 (P := P) (cs := ys.toArray) e2 (by simpa using hb)
            have e3 : eqL [(f.offset, k)] xs ys = eqC a b := by simp [eqL, ha, hb]
            rw [e3]
            simp only [Op.eqFields]
            cases hc : eqC a b
            · simp [hn, p1, p2, e1, hc]
            · simp [hn, p1, p2, e1, hc, ih]
      split at hq
      · rename_i k hu; simp at hq; exact hbasic (some (some k)) hu hq.symm
      · rename_i hu; simp at hq; exact hbasic (some none) hu hq.symm
      · rename_i hu; simp at hq; exact hbasic none hu hq.symm
      · rename_i fs2 hu
        split at hq
        · rename_i ks hks
          split at hq
          · rename_i hc
            simp only [Bool.and_eq_true] at hc
            simp at hq; subst hq
            obtain ⟨i, hi⟩ := Option.isSome_iff_exists.1 hc.1
            have hag : (isAgg f.type).run P w = .ok true w := by simp [isAgg, run_under hu]
            have p1 := run_partA (P := P) (cs := xs) (off := f.offset) (w := w) hag hi
            have p2 := run_partA (P := P) (cs := ys) (off := f.offset) (w := w) hag hi
            rw [fitsK_part _ _ _ hc.2] at hx1 hy1
            rw [eqL_part _ _ _ _ hc.2]
            have e1 : (Op.equalIn (d + 2) f.type (.agg ((xs.drop f.offset).take (P.cellsOf f.type)).toArray) (.agg ((ys.drop f.offset).take (P.cellsOf f.type)).toArray)).run P w = .ok (eqL ks ((xs.drop f.offset).take (P.cellsOf f.type)) ((ys.drop f.offset).take (P.cellsOf f.type))) w := by
              unfold flatT at hks
              rw [hu] at hks
              simp only at hks
              split at hks
              · cases hks
              · rename_i hst
                have hf : P.fieldsOf f.type = fs2 := by simp [Program.fieldsOf, hu]
                have := run_equalIn_struct (P := P) (w := w) (d + 1) f.type ((xs.drop f.offset).take (P.cellsOf f.type)).toArray ((ys.drop f.offset).take (P.cellsOf f.type)).toArray (by rw [hf]; exact hu) (by simpa using hst)
                rw [this, hf]
                exact run_eqFlat d fs2.toList ks hks hx1 hy1
            simp only [Op.eqFields]
            cases hc : eqL ks ((xs.drop f.offset).take (P.cellsOf f.type)) ((ys.drop f.offset).take (P.cellsOf f.type))
            · rw [hc] at e1; simp [hn, p1, p2, e1]
            · rw [hc] at e1; simp [hn, p1, p2, e1, ih]
          · cases hq
        · cases hq
      · cases hq

theorem run_eqStruct2 {t : TypeId} {kss : List (List (Nat × Option (Option IntKind)))} {xs ys : List Value} {w : World} (h : flat2 P t = some kss) (hx : fitsK kss.flatten xs = true) (hy : fitsK kss.flatten ys = true) :
    (Op.equal t (.agg xs.toArray) (.agg ys.toArray)).run P w = .ok (eqL kss.flatten xs ys) w := by
  unfold flat2 at h
  split at h
  · rename_i fs hfs
    split at h
    · cases h
    · rename_i hst
      have hf : P.fieldsOf t = fs := by simp [Program.fieldsOf, hfs]
      have := run_equalIn_struct (P := P) (w := w) 9999 t xs.toArray ys.toArray (by rw [hf]; exact hfs) (by simpa using hst)
      show (Op.equalIn (9999 + 1) t _ _).run P w = _
      rw [this, hf]
      exact run_eqF 9997 fs.toList kss h hx hy
  · cases h

variable {n : Nat} {ops : Array Oper} {N : K} {f : Nat → Value} {A : World → Prop} {rest : List Oper} {d : Nat} {ty : TypeId} {p : String} {af : Array Edge} {x y : Operand} {t t' : TypeId}
theorem v_st2p {kss : List (List (Nat × Option (Option IntKind)))} {xs ys : List Value} {q : Prop} [Decidable q] (hq : eqL kss.flatten xs ys = decide q) (h : flat2 P t = some kss) (hg : P.eqGuardType P.depth t = false) (hx : ev f x = .agg xs.toArray) (hy : ev f y = .agg ys.toArray) (hfx : fitsK kss.flatten xs = true) (hfy : fitsK kss.flatten ys = true) :
    RV P f ⟨some d, .binOp .eql t x y t', ty, p, af, none⟩ A (.bool (decide q)) := fun w _ => by
  rw [← hq]
  have h1 := run_eqStruct2 (w := w) h hfx hfy
  have hp : (Go.program).run P w = .ok P w := rfl
  have e : binOp .eql t (.agg xs.toArray) (.agg ys.toArray) = (do pure (.bool (← Op.equal t (.agg xs.toArray) (.agg ys.toArray)))) := rfl
  simp only [execOp, hx, hy, eqGuard, e]
  simp [hp, hg, h1]
end
end Go.Sc
