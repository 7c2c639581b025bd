import Derived.Test.YtkkeknmkipkbmaaGreatFwT
import Derived.Laws.OwnMore
import Derived.Test.YtkkeknmkipkbmaaGreatFwU
import Derived.Maps.RangeRun
set_option linter.unusedSectionVars false
set_option linter.unusedSimpArgs false
set_option linter.unusedVariables false
namespace Go.Sc
section
variable {P : Program} {w : World} {t e ty : TypeId} {sz by' : Nat}
theorem zBn (ht : slT P t = some (e, sz, by')) {v u : Value} {n m : Nat} {xs news : List Value} (hown : w.ownsRow 0 e sz v n xs) (hsrc : Sl w u m news) (hl : news.length = m * sz) (h1 : ∀ v ∈ news, cell1 v = true)
    (h63 : n + m ≤ maxLen) (hb : (n + m) * by' ≤ 140737488355328) (hm : 0 < m) :
    ∃ v' w', (Builtin.append_ #[t, t] ty #[v, u]).run P w = .ok v' w' ∧
      ((Own w (yp v) [Res.vec e sz v' (n + m) (xs ++ news)] w' ∧ (∀ b ∈ yp v, b ∈ yp v') ∧ ∀ w2 : World, w2.ownsRow 0 e sz v' (n + m) (xs ++ news) → w2.ownsRow 0 e sz v n xs) ∨ Own w [] [Res.vec e sz v' (n + m) (xs ++ news)] w') := by
  obtain ⟨hu, i, z, hi, hz, rfl, rfl, hzs, hsz⟩ := jO ht
  have hsmall : n + m ≤ 9223372036854775807 := by rw [yz] at h63; exact h63
  have h1' : ∀ u ∈ news, u.oneCell' = true := fun u hu => zCG (h1 u hu)
  rcases hsrc.cells with ⟨a, rfl, rfl, rfl⟩ | ⟨b, off, cap, rfl, hnews⟩
  · omega
  · rcases hown.2 with ⟨rfl, rfl⟩ | ⟨g, cap', cur, rfl, h0, hg, hnc, hcm, hcs, htake⟩
    · have hx : xs = [] := List.eq_nil_of_length_eq_zero (by simpa using hown.1)
      subst hx
      have hr := run_append_nil (P := P) w t ty e i z hu hi hz ⟨b, off, none⟩ m cap news hl hnews (by omega) (by omega) (by have hb := hb; simp only [Nat.zero_add] at hb; omega)
      have hgr := kq (e := e) (sz := i.size) w [] news z 0 m 0 hzs (by simp) hl h63
      simp only [Nat.zero_add, List.nil_append, Array.empty_append] at hgr ⊢
      refine ⟨_, _, hr, .inr (Own.mk1 hgr.2 hgr.1 ?_)⟩
      intro b hb; simp [Res.vec, yp] at hb; right; omega
    · by_cases hroom : n + m ≤ cap'
      · have hfit : n * i.size + news.length ≤ cur.size := by rw [hl, hcs, ← Nat.add_mul]; exact Nat.mul_le_mul_right _ hroom
        have hr := run_append_room (P := P) w t ty e i hu hi g n cap' cur hg ⟨b, off, none⟩ m cap news hl hnews h1' hroom hfit
        have hlen : (xs ++ news).length = (n + m) * i.size := by rw [List.length_append, hown.1, hl, Nat.add_mul]
        refine ⟨_, _, hr, .inl ⟨Own.mk1 ⟨rfl, rfl, rfl, by simp, fun k _ hk => setRow_other w g k _ (fun e => hk (by simp [yp, e]))⟩ ⟨hlen, .inr ⟨g, cap', _, rfl, Nat.zero_le _, setRow_heap w g cur _ e _ hg, hroom, hcm, ?_, ?_⟩⟩ (fun b hb => .inl hb), fun b hb => hb, ?_⟩⟩
        · simp only [List.size_toArray, List.length_append, List.length_take, List.length_drop, Array.length_toList]
          omega
        · rw [htake, ← hlen]
          exact List.take_left
        · rintro w2 ⟨_, h2⟩
          refine ⟨hown.1, .inr ?_⟩
          rcases h2 with ⟨h2, _⟩ | ⟨g2, cap2, cur2, h2, _, hg2, hn2, hc2, hs2, ht2⟩
          · cases h2
          · cases h2
            refine ⟨g, cap', cur2, rfl, Nat.zero_le _, hg2, by omega, hcm, hs2, ?_⟩
            have := congrArg (List.take (n * i.size)) ht2
            rw [List.take_take, Nat.min_eq_left (Nat.mul_le_mul_right _ (Nat.le_add_right _ _)), ← hown.1, List.take_left] at this
            rw [← hown.1]; exact this
      · have holds : ∀ j u, xs[j]? = some u → w.cell? ((⟨g, 0, none⟩ : Addr).add j) = some u := hown.cells (g := g) rfl
        have hr := run_append_grow (P := P) w t ty e i z hu hi hz ⟨g, 0, none⟩ n cap' xs hown.1 holds ⟨b, off, none⟩ m cap news hl hnews (by omega) (by omega) (growslice_fits (by omega) hb)
        have hgr := kq (e := e) (sz := i.size) w xs news z n m cap' hzs hown.1 hl h63
        refine ⟨_, _, hr, .inr (Own.mk1 hgr.2 hgr.1 ?_)⟩
        intro b hb; simp [Res.vec, yp] at hb; right; omega
end
section
variable {P : Program} {n : Nat} {ops : Array Oper} {N : K} {f : Nat → Value} {rest : List Oper}
variable {d : Nat} {ty : TypeId} {p : String} {af : Array Edge} {x y : Operand} {t e : TypeId} {sz by' : Nat}
variable {w0 : World} {S : List Nat} {L : List Res}
theorem jW {α : Type} {g : α → List Value} (hg : ∀ x, (g x).length = sz) {l l' : List α} (hc : ∀ x ∈ l', ∀ v ∈ g x, cell1 v = true) (i : Nat) {v u : Value} (ht : slT P t = some (e, sz, by')) (hx : ev f x = v) (hL : L[i]? = some (Res.vec e sz v l.length (l.flatMap g))) (hy : ev f y = u)
    (hs : ∀ w, Own w0 S L w → Sl w u l'.length (l'.flatMap g)) (hb : (l.length + l'.length) * by' ≤ 140737488355328) (hp : 0 < by') (hm : 0 < l'.length) (hd : Nat.blt d n = true)
    (kA : ∀ v', (∀ b ∈ yp v, b ∈ yp v') → (∀ w2 : World, w2.ownsRow 0 e sz v' (l ++ l').length ((l ++ l').flatMap g) → w2.ownsRow 0 e sz v l.length (l.flatMap g)) → CL P n ops rest N (upd f d v') (Own w0 S (L.set i (Res.vec e sz v' (l ++ l').length ((l ++ l').flatMap g)))))
    (kB : ∀ v', CL P n ops rest N (upd f d v') (Own w0 S (L ++ [Res.vec e sz v' (l ++ l').length ((l ++ l').flatMap g)]))) :
    CL P n ops (⟨some d, .call ⟨.builtin .append, #[x, y], #[t, t]⟩, ty, p, af, none⟩ :: rest) N f (Own w0 S L) := by
  intro w hw
  have h63 : l.length + l'.length ≤ maxLen := by
    rw [yz]
    have : l.length + l'.length ≤ (l.length + l'.length) * by' := Nat.le_mul_of_pos_right _ hp
    omega
  obtain ⟨v', w', hr, hO⟩ := zBn (P := P) (ty := ty) ht (hw.holds i _ hL) (hs w hw) (kr hg l') (fun v hv => by
    obtain ⟨x, hx, hv⟩ := List.mem_flatMap.1 hv
    exact hc x hx v hv) h63 hb hm
  have e1 : l.length + l'.length = (l ++ l').length := by simp
  have e2 : l.flatMap g ++ l'.flatMap g = (l ++ l').flatMap g := by simp
  rw [e1, e2] at hO
  rcases hO with ⟨hO, h1, h2⟩ | hO
  · have hO' := hw.frame1 (E := []) hL hO
    rw [List.append_nil] at hO'
    refine kJ (w' := w') ?_ hd (kA v' h1 h2 _ hO')
    simp [execOp, resolve, invoke, builtin, hx, hy, hr]
  · refine kJ (w' := w') ?_ hd (kB v' _ (hw.frame0 hO))
    simp [execOp, resolve, invoke, builtin, hx, hy, hr]
theorem Own.vecBack {w : World} {v v' : Value} {n m : Nat} {xs ys : List Value} (i : Nat) (hb : ∀ b ∈ yp v, b ∈ yp v') (hk : ∀ w2 : World, w2.ownsRow 0 e sz v' m ys → w2.ownsRow 0 e sz v n xs) (hL : L[i]? = some (Res.vec e sz v' m ys)) (h : Own w0 S L w) : Own w0 S (L.set i (Res.vec e sz v n xs)) w :=
  h.turn hL (hk w) hb
end
open Go.ChangeMaps (setBlock)
section
variable {κ : Type} [DecidableEq κ] {P : Program} {kt vt t : TypeId} {ke : κ → Value}
def Res.rng (ke : κ → Value) (b r : Nat) (kv todo : List (κ × Value)) : Res where
  fp := [b, r]
  φ w := ∃ es clock since seen c0, w.heap[b]? = some (.map es clock) ∧ w.heap[r]? = some (.mapIter (some b) since seen c0) ∧ es.toList.map (fun e => (e.key, e.val)) = kv.map (fun p => (ke p.1, p.2)) ∧ zCS es clock ∧
    (∀ e ∈ es.toList, e.born < since) ∧ (since ≤ c0 ∧ since ≤ clock) ∧ (leftOf es seen).toList.map (fun e => (e.key, e.val)) = todo.map (fun p => (ke p.1, p.2))
  st w w' h hb := by
    obtain ⟨es, clock, since, seen, c0, h1, h2, h3⟩ := h
    exact ⟨es, clock, since, seen, c0, by rw [hb b (by simp)]; exact h1, by rw [hb r (by simp)]; exact h2, h3⟩
  lt w h b' hb' := by
    obtain ⟨es, clock, since, seen, c0, h1, h2, h3⟩ := h
    simp at hb'
    rcases hb' with rfl | rfl
    · exact (Array.getElem?_eq_some_iff.1 h1).1
    · exact (Array.getElem?_eq_some_iff.1 h2).1
def Res.rnl (ke : κ → Value) (b r : Nat) (kv todo : List (κ × Value)) (k : κ) (v : Value) : Res where
  fp := [b, r]
  φ w := ∃ (es : Array MapEntry) (clock since : Nat) (seen : Array Nat) (e : MapEntry), w.heap[b]? = some (.map es clock) ∧ w.heap[r]? = some (.mapIter (some b) since (seen.push e.born) clock) ∧ es.toList.map (fun e => (e.key, e.val)) = kv.map (fun p => (ke p.1, p.2)) ∧ zCS es clock ∧
    (∀ e ∈ es.toList, e.born < since) ∧ since ≤ clock ∧ (leftOf es (seen.push e.born)).toList.map (fun e => (e.key, e.val)) = todo.map (fun p => (ke p.1, p.2)) ∧ e ∈ es.toList ∧ e.key = ke k ∧ e.val = v
  st w w' h hb := by
    obtain ⟨es, clock, since, seen, e, h1, h2, h3⟩ := h
    exact ⟨es, clock, since, seen, e, by rw [hb b (by simp)]; exact h1, by rw [hb r (by simp)]; exact h2, h3⟩
  lt w h b' hb' := by
    obtain ⟨es, clock, since, seen, e, h1, h2, h3⟩ := h
    simp at hb'
    rcases hb' with rfl | rfl
    · exact (Array.getElem?_eq_some_iff.1 h1).1
    · exact (Array.getElem?_eq_some_iff.1 h2).1
variable {n : Nat} {ops : Array Oper} {N : K} {f : Nat → Value} {rest : List Oper} {d : Nat} {ty : TypeId} {p : String} {af : Array Edge} {x y z : Operand} {w0 : World} {S : List Nat} {L : List Res} {A : World → Prop}
theorem KeyL.inj (K : KeyL P kt ke) {a b : κ} (h : ke a = ke b) : a = b := by
  obtain ⟨d, _, hs, _⟩ := K.desc
  have h1 := hs a b
  have h2 := hs b b
  rw [h, h2] at h1
  simpa using h1.symm
end
section
variable {κ α : Type} [DecidableEq κ]
def zK7 (k : κ) : List (κ × α) → Option α
  | [] => none
  | (x, v) :: r => if k = x then some v else zK7 k r
def zK8 (k : κ) (v : α) : List (κ × α) → List (κ × α)
  | [] => [(k, v)]
  | (x, u) :: r => if k = x then (k, v) :: r else (x, u) :: zK8 k v r
def zLE (k : κ) : List (κ × α) → List (κ × α)
  | [] => []
  | (x, u) :: r => if k = x then r else (x, u) :: zLE k r
def vA (ve : α → Value) (kv : List (κ × α)) : List (κ × Value) := kv.map fun p => (p.1, ve p.2)
def Res.mp (ke : κ → Value) (ve : α → Value) (b : Nat) (kv : List (κ × α)) : Res := Res.map ke b (vA ve kv)
def Res.rg (ke : κ → Value) (ve : α → Value) (b r : Nat) (kv todo : List (κ × α)) : Res := Res.rng ke b r (vA ve kv) (vA ve todo)
def Res.rl (ke : κ → Value) (ve : α → Value) (b r : Nat) (kv todo : List (κ × α)) (k : κ) (a : α) : Res := Res.rnl ke b r (vA ve kv) (vA ve todo) k (ve a)
variable {P : Program} {kt vt t : TypeId} {ke : κ → Value} {ve : α → Value}
variable {n : Nat} {ops : Array Oper} {N : K} {f : Nat → Value} {rest : List Oper} {d : Nat} {ty : TypeId} {p : String} {af : Array Edge} {x y z : Operand} {w0 : World} {S : List Nat} {L : List Res} {A : World → Prop}
end
end Go.Sc
