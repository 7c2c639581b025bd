import Derived.Test.YtkkeknmkipkbmaaGreatFw9
import Derived.MapKept
import Derived.Laws.StructEq
set_option linter.unusedSectionVars false
set_option linter.unusedSimpArgs false
set_option linter.unusedVariables false
namespace Go.Sc
theorem zAx {L L' : List Res} : ∀ {m : List Nat}, m.mapM (fun i => L[i]?) = some L' → ∀ (i : Nat) (r : Res), L'[i]? = some r → ∃ k, m[i]? = some k ∧ L[k]? = some r := by
  intro m
  induction m generalizing L' with
  | nil => intro h i r hr; simp at h; subst h; simp at hr
  | cons k m ih =>
    intro h i r hr
    simp only [List.mapM_cons, bind, Option.bind_eq_some_iff, pure] at h
    obtain ⟨a, ha, l, hl, h⟩ := h
    simp at h; subst h
    cases i with
    | zero => simp at hr; subst hr; exact ⟨k, rfl, ha⟩
    | succ i => simp at hr; exact ih hl i r hr
theorem zHM {L L' : List Res} : ∀ {m : List Nat}, m.mapM (fun i => L[i]?) = some L' → L'.length = m.length := by
  intro m
  induction m generalizing L' with
  | nil => intro h; simp at h; subst h; rfl
  | cons k m ih =>
    intro h
    simp only [List.mapM_cons, bind, Option.bind_eq_some_iff, pure] at h
    obtain ⟨a, ha, l, hl, h⟩ := h
    simp at h; subst h
    simp [ih hl]
section
variable {w0 w : World} {S : List Nat} {L : List Res}
theorem Own.sel {L' : List Res} (m : List Nat) (hm : m.mapM (fun i => L[i]?) = some L') (hn : m.Nodup) (h : Own w0 S L w) : Own w0 S L' w := by
  refine h.pick (fun i => m[i]?.getD 0) ?_ ?_
  · intro i r hr
    obtain ⟨k, h1, h2⟩ := zAx hm i r hr
    simp only [h1, Option.getD_some]
    exact h2
  · intro i j hi hj hij
    rw [zHM hm] at hi hj
    simp only [List.getElem?_eq_getElem hi, List.getElem?_eq_getElem hj, Option.getD_some] at hij
    exact (List.getElem_inj hn).1 hij
def Res.buf (o : Nat) (T : TypeId) (v : Value) (bs : List UInt8) : Res where
  fp := o :: jn v
  φ w := Row w o T [v] ∧ Sl w v bs.length (bs.map vb) ∧ o ∉ jn v
  st w w' h hb := by
    obtain ⟨⟨lo, hi, h1, h2⟩, h3, h4⟩ := h
    exact ⟨⟨lo, hi, by rw [hb o (by simp)]; exact h1, h2⟩, h3.st fun b hb' => hb b (by simp [hb']), h4⟩
  lt w h b hb := by
    obtain ⟨⟨lo, hi, h1, h2⟩, h3, h4⟩ := h
    simp only [List.mem_cons] at hb
    rcases hb with rfl | hb
    · exact (Array.getElem?_eq_some_iff.1 h1).1
    · exact (Res.sl v bs.length (bs.map vb)).lt w h3 b hb
theorem Own.split {i : Nat} {r r1 r2 : Res} (hL : L[i]? = some r) (h1 : r.φ w → r1.φ w) (h2 : r.φ w → r2.φ w) (hf1 : ∀ b ∈ r1.fp, b ∈ r.fp) (hf2 : ∀ b ∈ r2.fp, b ∈ r.fp) (hd : r.φ w → ∀ b ∈ r1.fp, b ∉ r2.fp) (h : Own w0 S L w) : Own w0 S (L.set i r1 ++ [r2]) w := by
  have hr := h.holds i r hL
  refine h.frame1 hL (E := [r2]) ⟨Keep.refl _ _, ?_, ?_, ?_⟩
  · intro a b s t hab hs ht
    match a, b with
    | 0, 0 => omega
    | 1, 1 => omega
    | 0, 1 => simp at hs ht; subst hs; subst ht; exact hd hr
    | 1, 0 => simp at hs ht; subst hs; subst ht; exact fun b hb hb' => hd hr b hb' hb
    | a + 2, _ => simp at hs
    | _, b + 2 => simp at ht
  · intro a s hs
    match a with
    | 0 => simp at hs; subst hs; exact h1 hr
    | 1 => simp at hs; subst hs; exact h2 hr
    | a + 2 => simp at hs
  · intro a s hs b hb
    match a with
    | 0 => simp at hs; subst hs; exact .inl (hf1 b hb)
    | 1 => simp at hs; subst hs; exact .inl (hf2 b hb)
    | a + 2 => simp at hs
theorem Own.join {i j : Nat} {r r1 r2 : Res} (hij : i ≠ j) (h1 : L[i]? = some r1) (h2 : L[j]? = some r2) (hφ : r1.φ w → r2.φ w → (∀ b ∈ r1.fp, b ∉ r2.fp) → r.φ w) (hf : ∀ b ∈ r.fp, b ∈ r1.fp ∨ b ∈ r2.fp) (h : Own w0 S L w) : Own w0 S ((L.set i r).eraseIdx j) w := by
  have hr : r.φ w := hφ (h.holds i r1 h1) (h.holds j r2 h2) (h.apart i j r1 r2 hij h1 h2)
  have hi : i < L.length := (List.getElem?_eq_some_iff.1 h1).1
  -- where an entry of the new list stood
  have hat : ∀ (a : Nat) (s : Res), ((L.set i r).eraseIdx j)[a]? = some s → ∃ k, k ≠ j ∧ (k = if a < j then a else a + 1) ∧ (L.set i r)[k]? = some s := by
    intro a s hs
    rw [List.getElem?_eraseIdx] at hs
    split at hs
    · rename_i hlt; exact ⟨a, by omega, by rw [if_pos hlt], hs⟩
    · rename_i hlt; exact ⟨a + 1, by omega, by rw [if_neg hlt], hs⟩
  have hset : ∀ (k : Nat) (s : Res), (L.set i r)[k]? = some s → (k = i ∧ s = r) ∨ (k ≠ i ∧ L[k]? = some s) := by
    intro k s hs
    by_cases hk : k = i
    · subst hk; rw [List.getElem?_set_self hi] at hs; exact .inl ⟨rfl, (Option.some.inj hs).symm⟩
    · rw [List.getElem?_set_ne (Ne.symm hk)] at hs; exact .inr ⟨hk, hs⟩
  have far : ∀ (k : Nat) (s : Res), k ≠ i → k ≠ j → L[k]? = some s → ∀ b ∈ s.fp, b ∉ r.fp := by
    intro k s hki hkj hs b hb hb'
    rcases hf b hb' with h' | h'
    · exact h.apart k i s r1 hki hs h1 b hb h'
    · exact h.apart k j s r2 hkj hs h2 b hb h'
  refine ⟨h.keep, ?_, ?_, ?_⟩
  · intro a b s t hab hs ht
    obtain ⟨k, hk1, hk2, hk3⟩ := hat a s hs
    obtain ⟨l, hl1, hl2, hl3⟩ := hat b t ht
    have hkl : k ≠ l := by
      rw [hk2, hl2]; split <;> split <;> omega
    rcases hset k s hk3 with ⟨e1, e2⟩ | ⟨e1, e2⟩ <;> rcases hset l t hl3 with ⟨d1, d2⟩ | ⟨d1, d2⟩
    · omega
    · rw [e2]; exact fun b hb hb' => far l t d1 hl1 d2 b hb' hb
    · rw [d2]; exact far k s e1 hk1 e2
    · exact h.apart k l s t hkl e2 d2
  · intro a s hs
    obtain ⟨k, hk1, hk2, hk3⟩ := hat a s hs
    rcases hset k s hk3 with ⟨e1, e2⟩ | ⟨e1, e2⟩
    · rw [e2]; exact hr
    · exact h.holds k s e2
  · intro a s hs b hb
    obtain ⟨k, hk1, hk2, hk3⟩ := hat a s hs
    rcases hset k s hk3 with ⟨e1, e2⟩ | ⟨e1, e2⟩
    · rw [e2] at hb
      rcases hf b hb with h' | h'
      · exact h.fresh i r1 h1 b h'
      · exact h.fresh j r2 h2 b h'
    · exact h.fresh k s e2 b hb
def Res.both (r s : Res) : Res where
  fp := r.fp ++ s.fp
  φ w := r.φ w ∧ s.φ w ∧ ∀ b ∈ r.fp, b ∉ s.fp
  st w w' h hb := ⟨r.st w w' h.1 fun b hb' => hb b (by simp [hb']), s.st w w' h.2.1 fun b hb' => hb b (by simp [hb']), h.2.2⟩
  lt w h b hb := by
    rcases List.mem_append.1 hb with hb | hb
    · exact r.lt w h.1 b hb
    · exact s.lt w h.2.1 b hb
theorem Own.splitBoth {i : Nat} {r s : Res} (hL : L[i]? = some (r.both s)) (h : Own w0 S L w) : Own w0 S (L.set i r ++ [s]) w :=
  h.split hL (fun h => h.1) (fun h => h.2.1) (fun b hb => List.mem_append.2 (.inl hb)) (fun b hb => List.mem_append.2 (.inr hb)) (fun h => h.2.2)
theorem Own.joinBoth {i j : Nat} {r s : Res} (hij : i ≠ j) (h1 : L[i]? = some r) (h2 : L[j]? = some s) (h : Own w0 S L w) : Own w0 S ((L.set i (r.both s)).eraseIdx j) w :=
  h.join (r := r.both s) hij h1 h2 (fun a b c => ⟨a, b, c⟩) (fun b hb => List.mem_append.1 hb)
theorem Own.cell1Vec {i sz n : Nat} {e : TypeId} {v : Value} {cs : List Value} (hL : L[i]? = some (Res.vec e sz v n cs)) (h : Own w0 S L w) : cell1 v = true := by
  rcases (h.holds i _ hL).2 with ⟨rfl, _⟩ | ⟨g, cap, cur, rfl, _⟩ <;> rfl
theorem Sl.cell1 {v : Value} {n : Nat} {cs : List Value} (h : Sl w v n cs) : cell1 v = true := by
  rcases h with ⟨a, rfl, _⟩ | ⟨b, off, cap, rfl, _⟩ <;> rfl
end
theorem zBC {α : Type} {g : α → List Value} {sz : Nat} (h : ∀ x, (g x).length = sz) : ∀ (l : List α) (j i : Nat) (x : α), l[j]? = some x → i < sz → (l.flatMap g)[j * sz + i]? = (g x)[i]?
  | [], j, i, x, hj, hi => by simp at hj
  | y :: l, 0, i, x, hj, hi => by
    simp at hj; subst hj
    rw [List.flatMap_cons, Nat.zero_mul, Nat.zero_add, List.getElem?_append_left (by rw [h]; exact hi)]
  | y :: l, j + 1, i, x, hj, hi => by
    simp at hj
    rw [List.flatMap_cons, List.getElem?_append_right (by rw [h, Nat.add_mul]; omega), h]
    rw [show (j + 1) * sz + i - sz = j * sz + i by rw [Nat.add_mul]; omega]
    exact zBC h l j i x hj hi
theorem kr {α : Type} {g : α → List Value} {sz : Nat} (h : ∀ x, (g x).length = sz) : ∀ (l : List α), (l.flatMap g).length = l.length * sz
  | [] => by simp
  | y :: l => by rw [List.flatMap_cons, List.length_append, h, kr h l, List.length_cons, Nat.add_mul]; omega
theorem Sl.shape {w : World} {v : Value} {n : Nat} {cs : List Value} (h : Sl w v n cs) : ∃ a cap, v = .slice a n cap ∧ n ≤ cap ∧ cap ≤ 9223372036854775807 ∧ (0 < n → ∃ b off, a = some ⟨b, off, none⟩) := by
  rcases h with ⟨a, rfl, rfl, _⟩ | ⟨b, off, cap, rfl, h1, h2, _⟩
  · exact ⟨a, 0, rfl, Nat.le_refl _, by omega, fun h => by omega⟩
  · exact ⟨_, cap, rfl, h1.1, h2, fun _ => ⟨b, off, rfl⟩⟩
structure KeyL {κ : Type} [DecidableEq κ] (P : Program) (kt : TypeId) (ke : κ → Value) : Prop where
  desc : ∃ d, P.underlying kt = some d ∧ (∀ a b, Instr.sameNow d (ke a) (ke b) = some (decide (a = b))) ∧ ((∃ q, d = .int q) ∨ d = .string)
  bits : ∀ a, Instr.sameBits 10000 (ke a) (ke a) = true
def zCS (es : Array MapEntry) (clock : Nat) : Prop := (∀ e ∈ es.toList, e.born < clock) ∧ (es.toList.map (·.born)).Nodup
section
variable {κ : Type} [DecidableEq κ] {P : Program} {kt vt t : TypeId} {ke : κ → Value}
def Res.map (ke : κ → Value) (b : Nat) (kv : List (κ × Value)) : Res where
  fp := [b]
  φ w := ∃ es clock, w.heap[b]? = some (.map es clock) ∧ es.toList.map (fun e => (e.key, e.val)) = kv.map (fun p => (ke p.1, p.2)) ∧ zCS es clock
  st w w' h hb := by
    obtain ⟨es, clock, h1, h2⟩ := h
    exact ⟨es, clock, by rw [hb b (by simp)]; exact h1, h2⟩
  lt w h b' hb' := by
    obtain ⟨es, clock, h1, h2⟩ := h
    simp at hb'; subst hb'
    exact (Array.getElem?_eq_some_iff.1 h1).1
def zIH (k : κ) : List (κ × Value) → Nat → Option (Nat × Value)
  | [], _ => none
  | (x, v) :: r, i => if k = x then some (i, v) else zIH k r (i + 1)
def getK (k : κ) (kv : List (κ × Value)) : Option Value := (zIH k kv 0).map (·.2)
def putK (k : κ) (v : Value) (kv : List (κ × Value)) : List (κ × Value) :=
  match zIH k kv 0 with
  | some (j, _) => kv.set j (k, v)
  | none => kv ++ [(k, v)]
def delK (k : κ) (kv : List (κ × Value)) : List (κ × Value) :=
  match zIH k kv 0 with
  | some (j, _) => kv.eraseIdx j
  | none => kv
variable {n : Nat} {ops : Array Oper} {N : K} {f : Nat → Value} {rest : List Oper} {d : Nat} {ty : TypeId} {p : String} {af : Array Edge} {x y z : Operand} {w0 : World} {S : List Nat} {L : List Res} {A : World → Prop}
def mapT (P : Program) (t : TypeId) : Option (TypeId × TypeId) := match P.underlying t with | some (.map k v) => some (k, v) | _ => none
end
section
variable {P : Program} {n : Nat} {ops : Array Oper} {N R : K} {X : List (Nat × K)} {f : Nat → Value} {A : World → Prop} {rest : List Oper}
variable {d : Nat} {ty : TypeId} {p : String} {af : Array Edge}
def QL (P : Program) (n : Nat) (ops : Array Oper) (l : List Oper) (N : K) (f : Nat → Value) (A : World → Prop) : Prop := ∀ w, A w → SL P n ops w (fun g => N g w) l f
theorem zIL {w0 : World} {S : List Nat} {L : List Res} {id : Nat} {l : List Oper} (hm : P.follows .mixedOrders = true) (hB : Region.lexB .any l.toArray = true) (h : QL P n l.toArray l N f (Own w0 S L)) : C P n (.region id l.toArray true) N R X f (Own w0 S L) :=
  fun w hw => zBT hm hB (h _ hw.drawn)
theorem yV {w0 : World} {S : List Nat} {L : List Res} {id : Nat} {l : List Oper} {y : Code} (hm : P.follows .mixedOrders = true) (hB : Region.lexB .any l.toArray = true) (h : QL P n l.toArray l (fun f w => W P n y N R X f w) f (Own w0 S L)) : C P n (.seq (.region id l.toArray true) y) N R X f (Own w0 S L) :=
  zQ (zIL hm hB h)
theorem zKL (h : ∀ w, A w → N f w) : QL P n ops [] N f A := fun w hw => zHC (h w hw)
theorem xN {c : Code} {M : K} (h : C P n c M R X f A) : QL P n ops [] (fun f w => W P n c M R X f w) f A := fun w hw => zHC (h w hw)
theorem zL {op : Op} {v : Value} (hd : Nat.blt d n = true) (hv : RV P f ⟨some d, op, ty, p, af, none⟩ A v) (k : QL P n ops rest N (upd f d v) A) : QL P n ops (⟨some d, op, ty, p, af, none⟩ :: rest) N f A :=
  fun w hw => zEL (hv w hw) hd (k w hw)
theorem ym {j e : Nat} {b : Bool} {dst : Option Tmp} {op : Op} (hj : ye ops j = some e) (hb : f e = .bool b) (k : QL P n ops (⟨dst, op, ty, p, af, none⟩ :: rest) N f A) : QL P n ops (⟨dst, op, ty, p, af, some (j, b)⟩ :: rest) N f A :=
  fun w hw => zGs hj hb (k w hw)
theorem zBR {M : (Nat → Value) → Prop} {j e : Nat} {b b' : Bool} (hj : ye ops j = some e) (hne : (b' == b) = false) {w : World} : ∀ (l1 : List Oper) (U T : List Nat) (f : Nat → Value),
    kN ops j e b U l1 = some T → f e = .bool b' → (∀ s, jd U s = true → f s = undef) → zAU n l1 = true →
    (∀ g, Out T f g → SL P n ops w M rest g) → SL P n ops w M (l1 ++ rest) f
  | [], U, T, f, hs, hf, hU, hn, k => k f (Out.refl _ _)
  | o :: l1, U, T, f, hs, hf, hU, hn, k => by
    intro a ha
    unfold kN at hs
    cases hg : o.guard with
    | none => rw [hg] at hs; cases hs
    | some q =>
      obtain ⟨i, w0⟩ := q
      cases hd : o.dst with
      | none => rw [hg, hd] at hs; cases hs
      | some d =>
        rw [hg, hd] at hs
        dsimp only at hs
        obtain ⟨hc, hs⟩ := zAK hs
        simp only [Bool.and_eq_true, Bool.or_eq_true, Bool.not_eq_true'] at hc
        obtain ⟨hc, hde⟩ := hc
        have hne' : e ≠ d := by intro h; subst h; simp at hde
        simp only [zAU, List.all_cons, Bool.and_eq_true, hd] at hn
        have hdn : d < n := by simpa [Nat.blt_eq] using hn.1
        have hw : Region.wanted o (yielded ops a.tmps) = false := by
          unfold Region.wanted
          rw [hg]
          rcases hc with ⟨h1, h2⟩ | h1
          · have : i = j := Nat.eq_of_beq_eq_true h1
            subst this
            have : w0 = b := by simpa using h2
            subst this
            simp only [xc ha hj hf]
            simpa using hne
          · cases hsl : ye ops i with
            | none => rw [hsl] at h1; cases h1
            | some s =>
              rw [hsl] at h1
              simp only [kb ha hsl (hU s h1)]
              rfl
        show wpStill P ops w _ (o :: (l1 ++ rest)) a
        unfold wpStill
        rw [if_neg (by rw [hw]; simp), hd]
        refine zBR hj hne l1 (d :: U) T (upd f d undef) hs (by rw [jF _ _ hne']; exact hf) ?_ hn.2 ?_ _ (ha.put hdn undef)
        · intro s hs'
          by_cases h : s = d
          · subst h; rw [j9]
          · rw [jF _ _ h]
            refine hU s ?_
            unfold jd at hs' ⊢
            simp only [List.any_cons, Bool.or_eq_true] at hs'
            rcases hs' with h1 | h1
            · exact absurd (Nat.eq_of_beq_eq_true h1) h
            · exact h1
        · intro g hg'
          refine k g (fun i hi => ?_)
          rw [hg' i hi]
          refine jF _ _ ?_
          intro h; subst h
          have mem : ∀ (l : List Oper) (U T : List Nat), kN ops j e b U l = some T → ∀ x, jd U x = true → jd T x = true := by
            intro l
            induction l with
            | nil => intro U T h x hx; simp [kN] at h; subst h; exact hx
            | cons o l ih =>
              intro U T h x hx
              unfold kN at h
              split at h
              · exact ih _ _ (zAK h).2 x (by unfold jd at hx ⊢; simp [hx])
              · cases h
          have := mem l1 _ _ hs i (by unfold jd; simp)
          rw [this] at hi; cases hi
theorem zB3 {M M' : (Nat → Value) → Prop} {w : World} {l2 : List Oper} : ∀ (l1 : List Oper) {f : Nat → Value}, SL P n ops w M' l1 f → (∀ f, M' f → SL P n ops w M l2 f) → SL P n ops w M (l1 ++ l2) f := by
  intro l1 f h hk a ha
  have := h a ha
  clear h ha
  revert this a
  suffices ∀ (l : List Oper) (a : Act), wpStill P ops w (fun a => ∃ f, Rep n f a ∧ M' f) l a → wpStill P ops w (fun a => ∃ f, Rep n f a ∧ M f) (l ++ l2) a from fun a h => this l1 a h
  intro l
  induction l with
  | nil =>
    intro a h
    obtain ⟨f, hr, hm⟩ := h
    exact hk f hm a hr
  | cons o l ih =>
    intro a h
    show wpStill P ops w _ (o :: (l ++ l2)) a
    unfold wpStill at h ⊢
    split
    · rename_i hw; rw [if_pos hw] at h; exact Oper.still_mono ih h
    · rename_i hw; rw [if_neg hw] at h; exact ih _ h
variable {e t : Nat} {l : List Oper}
theorem zBL (m j : Nat) (T : List Nat) {q : Prop} (r : Prop) [Decidable q] [Decidable r] {gd : Option (Nat × Bool)} (hm : l.drop m = ⟨some d, .pick (.tmp e) (.tmp t) (.const (.bool false)), ty, p, af, gd⟩ :: rest)
    (hj : ye ops j = some e) (hq : f e = .bool (decide q)) (hT : kN ops j e true [] (l.take m) = some T) (hn : zAU n (l.take m) = true) (he : jd T e = false)
    (hgd : match gd with | none => True | some (i, b) => ∃ s, ye ops i = some s ∧ jd T s = false ∧ f s = .bool b) (hd : Nat.blt d n = true)
    (hy : q → QL P n ops (l.take m) (zB5 T f t (.bool (decide r)) A) f A)
    (k : ∀ g, QL P n ops rest N (upd (msk f g T) d (.bool (decide (q ∧ r)))) A) : QL P n ops l N f A := by
  intro w hw
  rw [← List.take_append_drop m l, hm]
  have fin : ∀ (g : Nat → Value) (v : Value), Out T f g → (bif decide q then g t else .bool false) = v → v = .bool (decide (q ∧ r)) →
      SL P n ops w (fun g => N g w) (⟨some d, .pick (.tmp e) (.tmp t) (.const (.bool false)), ty, p, af, gd⟩ :: rest) g := by
    intro g v ho hv hv'
    have hge : g e = .bool (decide q) := (ho e he).trans hq
    have core : SL P n ops w (fun g => N g w) (⟨some d, .pick (.tmp e) (.tmp t) (.const (.bool false)), ty, p, af, none⟩ :: rest) g := by
      refine zEL (v := v) ?_ hd ?_
      · subst hv
        by_cases hq' : q <;> simp [execOp, ev, hge, hq', asBool]
      · rw [hv']
        have := k g w hw
        rw [zCm ho] at this
        exact this
    cases gd with
    | none => exact core
    | some ib =>
      obtain ⟨i, b⟩ := ib
      obtain ⟨s, h1, h2, h3⟩ := hgd
      exact zGs h1 ((ho s h2).trans h3) core
  by_cases hc : q
  · refine zB3 _ (hy hc w hw) ?_
    rintro g ⟨ho, ht, -⟩
    refine fin g _ ho rfl ?_
    simp [hc, ht]
  · refine zBR (b' := false) hj rfl _ [] T f hT (by rw [hq]; simp [hc]) (by simp [jd]) hn ?_
    intro g ho
    refine fin g _ ho rfl ?_
    simp [hc]
theorem zEj (m j : Nat) (T : List Nat) {q : Prop} (r : Prop) [Decidable q] [Decidable r] {gd : Option (Nat × Bool)} (hm : l.drop m = ⟨some d, .pick (.tmp e) (.const (.bool true)) (.tmp t), ty, p, af, gd⟩ :: rest)
    (hj : ye ops j = some e) (hq : f e = .bool (decide q)) (hT : kN ops j e false [] (l.take m) = some T) (hn : zAU n (l.take m) = true) (he : jd T e = false)
    (hgd : match gd with | none => True | some (i, b) => ∃ s, ye ops i = some s ∧ jd T s = false ∧ f s = .bool b) (hd : Nat.blt d n = true)
    (hy : ¬ q → QL P n ops (l.take m) (zB5 T f t (.bool (decide r)) A) f A)
    (k : ∀ g, QL P n ops rest N (upd (msk f g T) d (.bool (decide (q ∨ r)))) A) : QL P n ops l N f A := by
  intro w hw
  rw [← List.take_append_drop m l, hm]
  have fin : ∀ (g : Nat → Value) (v : Value), Out T f g → (bif decide q then .bool true else g t) = v → v = .bool (decide (q ∨ r)) →
      SL P n ops w (fun g => N g w) (⟨some d, .pick (.tmp e) (.const (.bool true)) (.tmp t), ty, p, af, gd⟩ :: rest) g := by
    intro g v ho hv hv'
    have hge : g e = .bool (decide q) := (ho e he).trans hq
    have core : SL P n ops w (fun g => N g w) (⟨some d, .pick (.tmp e) (.const (.bool true)) (.tmp t), ty, p, af, none⟩ :: rest) g := by
      refine zEL (v := v) ?_ hd ?_
      · subst hv
        by_cases hq' : q <;> simp [execOp, ev, hge, hq', asBool]
      · rw [hv']
        have := k g w hw
        rw [zCm ho] at this
        exact this
    cases gd with
    | none => exact core
    | some ib =>
      obtain ⟨i, b⟩ := ib
      obtain ⟨s, h1, h2, h3⟩ := hgd
      exact zGs h1 ((ho s h2).trans h3) core
  by_cases hc : q
  · refine zBR (b' := true) hj rfl _ [] T f hT (by rw [hq]; simp [hc]) (by simp [jd]) hn ?_
    intro g ho
    refine fin g _ ho rfl ?_
    simp [hc]
  · refine zB3 _ (hy hc w hw) ?_
    rintro g ⟨ho, ht, -⟩
    refine fin g _ ho rfl ?_
    simp [hc, ht]
end
def flatT (P : Program) (t : TypeId) : Option (List (Nat × Option (Option IntKind))) :=
  match P.underlying t with
  | some (.struct fs) => if P.stoodInHeld t then none else fs.toList.mapM fun (f : Field) => if f.name = "_" then none else
    match P.underlying f.type with
    | some (.int k) => some (f.offset, some (some k))
    | some .string => some (f.offset, some none)
    | some .bool => some (f.offset, none)
    | _ => none
  | _ => none
def eqC : Value → Value → Bool
  | .int _ a, .int _ b => decide (a = b)
  | .bool a, .bool b => decide (a = b)
  | .string a, .string b => decide (a = b)
  | _, _ => false
def zI3 : Option (Option IntKind) → Value → Bool
  | some (some k), .int k' _ => k = k'
  | some none, .string _ => true
  | none, .bool _ => true
  | _, _ => false
def fitsK (ks : List (Nat × Option (Option IntKind))) (xs : List Value) : Bool := ks.all fun q => match xs[q.1]? with | some v => zI3 q.2 v | none => false
def eqL (ks : List (Nat × Option (Option IntKind))) (xs ys : List Value) : Bool := ks.all fun q => match xs[q.1]?, ys[q.1]? with | some a, some b => eqC a b | _, _ => false
section
variable {P : Program}
variable {n : Nat} {ops : Array Oper} {N : K} {f : Nat → Value} {A : World → Prop} {rest : List Oper} {d : Nat} {ty : TypeId} {p : String} {af : Array Edge} {x y : Operand} {t t' : TypeId}
end
def isI (a : Int) : Prop := -9223372036854775808 ≤ a ∧ a ≤ 9223372036854775807
def isU (n : Nat) : Prop := n < 18446744073709551616
def u64 (a : Int) : Nat := (a % 18446744073709551616).toNat
theorem y2 (a : Int) : u64 a < 18446744073709551616 := by unfold u64; omega
theorem kM (a : Int) : IntKind.u64.wrap a = (u64 a : Int) := by
  unfold IntKind.wrap u64
  simp [IntKind.bits, IntKind.signed]
  omega
section
variable {w0 w : World} {S S' : List Nat} {L : List Res}
end
section
variable {P : Program} {n : Nat} {ops : Array Oper} {N R : K} {X : List (Nat × K)} {f : Nat → Value} {W : World → Prop} {w w0 : World} {S : List Nat} {L : List Res}
variable {d : Nat} {ty t : TypeId} {p : String} {af : Array Edge} {fuel : Nat} {listed : Array Bool} {x y : Operand}
end
end Go.Sc
