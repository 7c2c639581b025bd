import Derived.Test.YtkkeknmkipkbmaaGreatRlog
import Derived.Test.YtkkeknmkipkbmaaGreatFwT
import Derived.Laws.OwnMore
import Derived.Test.YtkkeknmkipkbmaaGreatFwU
import Derived.Maps.RangeRun
set_option linter.unusedSectionVars false
set_option linter.unusedSimpArgs false
set_option linter.unusedVariables false
set_option maxRecDepth 10000
namespace Go.Proofs.YtkkeknmkipkbmaaGreat
open Go Go.Sc Go.Proofs
structure EsOk (es : List EntD) : Prop where
  good : (LG 0 0 es).good
  all : ∀ e ∈ es, e.kind ≠ 3 ∧ e.term = 1
theorem EsOk.start : EsOk [] := ⟨⟨Nat.zero_le _, Nat.zero_le _, trivial⟩, by simp⟩
theorem EsOk.end_le {es : List EntD} (h : EsOk es) : (LG 0 0 es).end_ ≤ 1 := by
  by_cases q : es.length = 0
  · unfold LogA.end_; rw [List.eq_nil_of_length_eq_zero q]; exact Nat.zero_le _
  · have e : (LG 0 0 es).end_ = (zU es (es.length - 1)).term := by
      show xK 0 (es.map EntD.toEntA) = _
      rw [x2 (by simpa using (by omega : 0 < es.length)), List.length_map, zAM (by omega)]
    rw [e, (h.all _ (zt (by omega))).2]; exact Nat.le_refl _
theorem EsOk.fits {es : List EntD} (h : EsOk es) (h0 : 0 < es.length) : (LG 0 0 es).fits es.length 1 := by
  unfold LogA.fits
  rw [LG.term_in (j := es.length - 1) h0 (by omega) (by omega)]
  exact ⟨rfl, (h.all _ (zt (by omega))).2⟩
theorem EsOk.fits_self {es : List EntD} : (LG 0 0 es).fits es.length (LG 0 0 es).end_ := by
  refine LogA.fits_of ⟨Nat.zero_le _, by rw [LG.last_eq]; omega⟩ ?_
  show xK 0 ((es.map EntD.toEntA).take (es.length - 0)) = _
  rw [List.take_of_length_le (by simp)]; rfl
theorem EsOk.app {es es' : List EntD} {x : EntD} (h : EsOk es) (hx : x.toEntA.ok) (hi : x.index = es.length + 1) (ht : x.term = 1) (hk : x.kind ≠ 3) (he : LG 0 0 es' = (LG 0 0 es).append es.length (LG 0 0 es).end_ ([x].map EntD.toEntA)) :
    EsOk es' ∧ es'.length = es.length + 1 := by
  have hfol : folA es.length (LG 0 0 es).end_ [x.toEntA] := ⟨⟨hx, hi, by have := h.end_le; rw [ht]; exact this⟩, trivial⟩
  have hg : (LG 0 0 es').good := by rw [he]; exact LogA.append_good h.good
  have hkn : (LG 0 0 es).kn [x.toEntA] = 0 := (LG 0 0 es).kn_of (Nat.zero_le _) (by simp) fun _ q => by
    have := (LogA.fits_end q).1.2
    rw [LG.last_eq] at this
    have e : (zU [x.toEntA] 0).index = es.length + 1 := hi
    omega
  have e2 : LG 0 0 es' = ⟨0, 0, es.map EntD.toEntA ++ [x.toEntA]⟩ := by
    rw [he]
    unfold LogA.append LogA.put
    rw [if_pos ⟨hfol, EsOk.fits_self⟩, List.map_cons, List.map_nil, hkn, if_pos (by simp)]
    show (⟨0, 0, (es.map EntD.toEntA).take (x.index - 0 - 1) ++ [x.toEntA].drop 0⟩ : LogA) = _
    rw [hi, List.take_of_length_le (by simp)]; rfl
  have e3 : es'.map EntD.toEntA = es.map EntD.toEntA ++ [x.toEntA] := congrArg LogA.l e2
  refine ⟨⟨hg, fun e hm => ?_⟩, by have := congrArg List.length e3; simpa using this⟩
  have hm2 : e.toEntA ∈ es'.map EntD.toEntA := List.mem_map_of_mem hm
  rw [e3] at hm2
  rcases List.mem_append.1 hm2 with q | q
  · obtain ⟨y, hy, e4⟩ := List.mem_map.1 q
    have := h.all y hy
    rw [show e.kind = y.kind from congrArg EntA.kind e4.symm, show e.term = y.term from congrArg EntA.term e4.symm]; exact this
  · have e4 : e.toEntA = x.toEntA := by simpa using q
    rw [show e.kind = x.kind from congrArg EntA.kind e4, show e.term = x.term from congrArg EntA.term e4]; exact ⟨hk, ht⟩
theorem EsOk.from_ {es rs : List EntD} {e : Int} (h : EsOk es) (hl : es.length ≤ 1073741824) (hf : (LG 0 0 es).fromE 1 1073741824 = (rs.map EntD.toEntA, e)) : (∀ x ∈ rs, x.kind ≠ 3) ∧ rs.length = es.length := by
  rw [LG.fromE_eq, if_neg (by omega), if_neg (by omega), if_neg (by omega)] at hf
  have e1 := congrArg Prod.fst hf
  have e1 : ((es.map EntD.toEntA).drop (1 - 0 - 1)).take (1073741824 : Int).toNat = rs.map EntD.toEntA := e1
  rw [List.drop_zero, List.take_of_length_le (by simp; omega)] at e1
  refine ⟨fun x hx => ?_, by have := congrArg List.length e1; simpa using this.symm⟩
  have hm : x.toEntA ∈ rs.map EntD.toEntA := List.mem_map_of_mem hx
  rw [← e1] at hm
  obtain ⟨y, hy, e4⟩ := List.mem_map.1 hm
  rw [show x.kind = y.kind from congrArg EntA.kind e4.symm]; exact (h.all y hy).1
end Go.Proofs.YtkkeknmkipkbmaaGreat
set_option linter.unusedVariables false
namespace Go.Sc
section
variable {P : Program} {w : World} {t e ty : TypeId} {sz by' : Nat}
end
section
variable {P : Program} {n : Nat} {ops : Array Oper} {N : K} {f : Nat → Value} {rest : List Oper}
variable {d : Nat} {ty : TypeId} {p : String} {af : Array Edge} {x y : Operand} {t e : TypeId} {sz by' : Nat}
variable {w0 : World} {S : List Nat} {L : List Res}
end
open Go.ChangeMaps (setBlock)
section
variable {κ : Type} [DecidableEq κ] {P : Program} {kt vt t : TypeId} {ke : κ → Value}
def Res.rng (ke : κ → Value) (b r : Nat) (kv todo : List (κ × Value)) : Res where
  fp := [b, r]
  φ w := ∃ es clock since seen c0, w.heap[b]? = some (.map es clock) ∧ w.heap[r]? = some (.mapIter (some b) since seen c0) ∧ es.toList.map (fun e => (e.key, e.val)) = kv.map (fun p => (ke p.1, p.2)) ∧ j3 es clock ∧
    (∀ e ∈ es.toList, e.born < since) ∧ (since ≤ c0 ∧ since ≤ clock) ∧ (leftOf es seen).toList.map (fun e => (e.key, e.val)) = todo.map (fun p => (ke p.1, p.2))
  st w w' h hb := by
    obtain ⟨es, clock, since, seen, c0, h1, h2, h3⟩ := h
    exact ⟨es, clock, since, seen, c0, by rw [hb b (by simp)]; exact h1, by rw [hb r (by simp)]; exact h2, h3⟩
  lt w h b' hb' := by
    obtain ⟨es, clock, since, seen, c0, h1, h2, h3⟩ := h
    simp at hb'
    rcases hb' with rfl | rfl
    · exact (Array.getElem?_eq_some_iff.1 h1).1
    · exact (Array.getElem?_eq_some_iff.1 h2).1
def Res.rnl (ke : κ → Value) (b r : Nat) (kv todo : List (κ × Value)) (k : κ) (v : Value) : Res where
  fp := [b, r]
  φ w := ∃ (es : Array MapEntry) (clock since : Nat) (seen : Array Nat) (e : MapEntry), w.heap[b]? = some (.map es clock) ∧ w.heap[r]? = some (.mapIter (some b) since (seen.push e.born) clock) ∧ es.toList.map (fun e => (e.key, e.val)) = kv.map (fun p => (ke p.1, p.2)) ∧ j3 es clock ∧
    (∀ e ∈ es.toList, e.born < since) ∧ since ≤ clock ∧ (leftOf es (seen.push e.born)).toList.map (fun e => (e.key, e.val)) = todo.map (fun p => (ke p.1, p.2)) ∧ e ∈ es.toList ∧ e.key = ke k ∧ e.val = v
  st w w' h hb := by
    obtain ⟨es, clock, since, seen, e, h1, h2, h3⟩ := h
    exact ⟨es, clock, since, seen, e, by rw [hb b (by simp)]; exact h1, by rw [hb r (by simp)]; exact h2, h3⟩
  lt w h b' hb' := by
    obtain ⟨es, clock, since, seen, e, h1, h2, h3⟩ := h
    simp at hb'
    rcases hb' with rfl | rfl
    · exact (Array.getElem?_eq_some_iff.1 h1).1
    · exact (Array.getElem?_eq_some_iff.1 h2).1
variable {n : Nat} {ops : Array Oper} {N : K} {f : Nat → Value} {rest : List Oper} {d : Nat} {ty : TypeId} {p : String} {af : Array Edge} {x y z : Operand} {w0 : World} {S : List Nat} {L : List Res} {A : World → Prop}
theorem KeyL.inj (K : KeyL P kt ke) {a b : κ} (h : ke a = ke b) : a = b := by
  obtain ⟨d, _, hs, _⟩ := K.desc
  have h1 := hs a b
  have h2 := hs b b
  rw [h, h2] at h1
  simpa using h1.symm
end
section
variable {κ α : Type} [DecidableEq κ]
def zFT (k : κ) : List (κ × α) → Option α
  | [] => none
  | (x, v) :: r => if k = x then some v else zFT k r
def zFV (k : κ) (v : α) : List (κ × α) → List (κ × α)
  | [] => [(k, v)]
  | (x, u) :: r => if k = x then (k, v) :: r else (x, u) :: zFV k v r
def zFU (k : κ) : List (κ × α) → List (κ × α)
  | [] => []
  | (x, u) :: r => if k = x then r else (x, u) :: zFU k r
def vA (ve : α → Value) (kv : List (κ × α)) : List (κ × Value) := kv.map fun p => (p.1, ve p.2)
def Res.mp (ke : κ → Value) (ve : α → Value) (b : Nat) (kv : List (κ × α)) : Res := Res.map ke b (vA ve kv)
def Res.rg (ke : κ → Value) (ve : α → Value) (b r : Nat) (kv todo : List (κ × α)) : Res := Res.rng ke b r (vA ve kv) (vA ve todo)
def Res.rl (ke : κ → Value) (ve : α → Value) (b r : Nat) (kv todo : List (κ × α)) (k : κ) (a : α) : Res := Res.rnl ke b r (vA ve kv) (vA ve todo) k (ve a)
variable {P : Program} {kt vt t : TypeId} {ke : κ → Value} {ve : α → Value}
variable {n : Nat} {ops : Array Oper} {N : K} {f : Nat → Value} {rest : List Oper} {d : Nat} {ty : TypeId} {p : String} {af : Array Edge} {x y z : Operand} {w0 : World} {S : List Nat} {L : List Res} {A : World → Prop}
end
end Go.Sc
