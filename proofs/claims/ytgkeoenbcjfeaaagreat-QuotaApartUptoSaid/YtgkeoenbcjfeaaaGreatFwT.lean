/-
  MORE RULES FOR SYMBOLIC WALKS: what is told again in short; guards that are not met; append of elements.
-/
import Derived.Test.YtgkeoenbcjfeaaaGreatFwS
set_option linter.unusedVariables false
set_option linter.unusedSectionVars false
namespace Go.Sc

theorem bT {b : Bool} (h : b = true) : Value.bool b = .bool true := by rw [h]
theorem bF {b : Bool} (h : ¬ b = true) : Value.bool b = .bool false := by cases b <;> simp_all
theorem Sl.nil {w : World} : Sl w (.slice none 0 0) 0 [] := .inl ⟨none, rfl, rfl, rfl⟩
def isNilS : Value → Bool
  | .slice a _ _ => a.isNone
  | _ => false
theorem Rd.nil {w : World} {S : List Nat} : Rd w S (Res.sl (.slice none 0 0) 0 []) := ⟨Sl.nil, by simp [Res.sl, blkS]⟩
def I1 (a : Int) : List Value := [Value.int .i64 a]
def U1 (a : Nat) : List Value := [Value.int .u64 a]
def B1 (a : Bool) : List Value := [Value.bool a]
/-- No slice has more. -/
abbrev LenOk (n : Nat) : Prop := n ≤ 1000000000000
def errOf (p : Prop) [Decidable p] : Int := if p then 0 else 2
theorem allc_nil : ∀ v ∈ ([] : List Value), cell1 v = true := by simp
theorem allc_cons {v : Value} {l : List Value} (h : cell1 v = true) (hl : ∀ v ∈ l, cell1 v = true) : ∀ u ∈ v :: l, cell1 u = true := by
  intro u hu
  rcases List.mem_cons.1 hu with rfl | hu
  · exact h
  · exact hl u hu
theorem all_cons {α : Type} {p : α → Prop} {a : α} {l : List α} (h : p a) (hl : ∀ x ∈ l, p x) : ∀ x ∈ a :: l, p x := by
  intro x hx
  rcases List.mem_cons.1 hx with rfl | hx
  · exact h
  · exact hl x hx
/-- The j-th of a list. -/
def nth {α : Type} [Inhabited α] (l : List α) (j : Nat) : α := l[j]?.getD default
theorem nth_some {α : Type} [Inhabited α] {l : List α} {j : Nat} (h : j < l.length) : l[j]? = some (nth l j) := by simp [nth, h]
theorem nth_mem {α : Type} [Inhabited α] {l : List α} {j : Nat} (h : j < l.length) : nth l j ∈ l := List.mem_of_getElem? (nth_some h)
theorem nth_eq {α : Type} [Inhabited α] {l : List α} {j : Nat} {x : α} (h : l[j]? = some x) : nth l j = x := by simp [nth, h]
theorem nth_drop {α : Type} [Inhabited α] (l : List α) (i j : Nat) : nth (l.drop i) j = nth l (i + j) := by simp [nth, List.getElem?_drop]
theorem nth_take {α : Type} [Inhabited α] {l : List α} {i j : Nat} (h : j < i) : nth (l.take i) j = nth l j := by simp [nth, List.getElem?_take, h]
theorem take_nth {α : Type} [Inhabited α] {l : List α} {k : Nat} (h : k < l.length) : l.take (k + 1) = l.take k ++ [nth l k] := by
  rw [List.take_add_one, nth_some h]; rfl

/-! ### many resources as one -/
def Res.star (rs : List Res) : Res where
  fp := fps rs
  φ w := (∀ r ∈ rs, r.φ w) ∧ ∀ (i j : Nat) (r s : Res), i ≠ j → rs[i]? = some r → rs[j]? = some s → ∀ b ∈ r.fp, b ∉ s.fp
  st w w' h hb := ⟨fun r hr => r.st w w' (h.1 r hr) fun b hb' => hb b (by obtain ⟨i, hi, rfl⟩ := List.mem_iff_getElem.1 hr; exact mem_fps.2 ⟨i, _, List.getElem?_eq_getElem hi, hb'⟩), h.2⟩
  lt w h b hb := by
    obtain ⟨i, r, hr, hb⟩ := mem_fps.1 hb
    exact r.lt w (h.1 r (List.mem_of_getElem? hr)) b hb

section
variable {w0 w w' : World} {S : List Nat} {L Lin Lout : List Res}
theorem Own.star {rs : List Res} (j : Nat) (hL : L[j]? = some (Res.star rs)) (m : List Nat) (hm : m.mapM (fun i => L[i]?) = some Lin) (hj : m.any (Nat.beq j) = false) (h : Own w0 S L w) : ∀ r ∈ rs, Rd w (fps Lin) r := by
  intro r hr
  have h1 := h.rdRes j hL m hm hj
  obtain ⟨i, hi, rfl⟩ := List.mem_iff_getElem.1 hr
  exact h1.sub (fun h2 => h2.1 _ hr) fun b hb => mem_fps.2 ⟨i, _, List.getElem?_eq_getElem hi, hb⟩
end

section
variable {w0 w w' : World} {S : List Nat} {L Lin Lout : List Res}
theorem Own.rdVec0 {e : TypeId} {sz n : Nat} {v : Value} {cs : List Value} (j : Nat) (hL : L[j]? = some (Res.vec e sz v n cs)) (h : Own w0 S L w) : Rd w [] (Res.sl v n cs) := ⟨Vec.sl (h.holds j _ hL), by simp⟩

theorem Sl.subL_f {α : Type} {g : α → List Value} {sz : Nat} (hg : ∀ x, (g x).length = sz) {w : World} {v : Value} {xs : List α} (hs : Sl w v xs.length (xs.flatMap g)) {l h : Nat} (h1 : l ≤ h) (h2 : h ≤ xs.length) :
    Sl w (cutV v l h sz) ((xs.take h).drop l).length (((xs.take h).drop l).flatMap g) := by
  have := hs.subV h1 h2 (flat_len hg xs)
  have e : ((xs.flatMap g).drop (l * sz)).take ((h - l) * sz) = ((xs.take h).drop l).flatMap g := by
    have a1 : ∀ (xs : List α) (k : Nat), (xs.flatMap g).drop (k * sz) = (xs.drop k).flatMap g := by
      intro xs
      induction xs with
      | nil => simp
      | cons y ys ih =>
        intro k
        cases k with
        | zero => simp
        | succ k => rw [List.flatMap_cons, Nat.add_mul, Nat.one_mul, Nat.add_comm, ← List.drop_drop, show (g y ++ ys.flatMap g).drop sz = ys.flatMap g by rw [← hg y, List.drop_left]]; simpa using ih k
    have a2 : ∀ (xs : List α) (k : Nat), (xs.flatMap g).take (k * sz) = (xs.take k).flatMap g := by
      intro xs
      induction xs with
      | nil => simp
      | cons y ys ih =>
        intro k
        cases k with
        | zero => simp
        | succ k => rw [List.flatMap_cons, Nat.add_mul, Nat.one_mul, List.take_append, hg y, show k * sz + sz - sz = k * sz by omega, List.take_of_length_le (by rw [hg y]; omega), ih k]; simp
    rw [a1, a2, List.take_drop, show l + (h - l) = h by omega]
  rw [e] at this
  rw [show ((xs.take h).drop l).length = h - l by simp; omega]
  exact this
theorem Sl.dropL_f {α : Type} {g : α → List Value} {sz : Nat} (hg : ∀ x, (g x).length = sz) {w : World} {v : Value} {xs : List α} (hs : Sl w v xs.length (xs.flatMap g)) {l : Nat} (h1 : l ≤ xs.length) :
    Sl w (cutV v l xs.length sz) (xs.drop l).length ((xs.drop l).flatMap g) := by
  have := Sl.subL_f hg hs h1 (Nat.le_refl _)
  rwa [List.take_length] at this
theorem Rd.dropL_f {α : Type} {g : α → List Value} {sz : Nat} (hg : ∀ x, (g x).length = sz) {v : Value} {xs : List α} (hs : Rd w S (Res.sl v xs.length (xs.flatMap g))) {l : Nat} (h1 : l ≤ xs.length) :
    Rd w S (Res.sl (cutV v l xs.length sz) (xs.drop l).length ((xs.drop l).flatMap g)) := hs.sub (fun h' => Sl.dropL_f hg h' h1) (blkS_cutV hs.φ l _ sz)
theorem Rd.subL_f {α : Type} {g : α → List Value} {sz : Nat} (hg : ∀ x, (g x).length = sz) {v : Value} {xs : List α} (hs : Rd w S (Res.sl v xs.length (xs.flatMap g))) {l h : Nat} (h1 : l ≤ h) (h2 : h ≤ xs.length) :
    Rd w S (Res.sl (cutV v l h sz) ((xs.take h).drop l).length (((xs.take h).drop l).flatMap g)) := hs.sub (fun h' => Sl.subL_f hg h' h1 h2) (blkS_cutV hs.φ l h sz)
end

section
variable {P : Program} {n : Nat} {ops : Array Oper} {N R : K} {X : List (Nat × K)} {f : Nat → Value} {A : World → Prop} {rest : List Oper}
variable {d : Nat} {ty : TypeId} {p : String} {af : Array Edge} {x y : Operand} {t e : TypeId} {sz by' : Nat}
variable {w0 : World} {S : List Nat} {L L2 : List Res}

theorem l_own (L2 : List Res) (h : ∀ w, Own w0 S L w → Own w0 S L2 w) (k : CL P n ops rest N f (Own w0 S L2)) : CL P n ops rest N f (Own w0 S L) := l_mono k h
theorem l_haveO {q : Prop} (h : ∀ w, Own w0 S L w → q) (k : q → CL P n ops rest N f (Own w0 S L)) : CL P n ops rest N f (Own w0 S L) := fun w hw => k (h w hw) w hw
/-! bools that are compared -/
/-! a literal of cells -/
/-! max, min -/
theorem maxi (a b : Int) : (if b > a then b else a) = max a b := by split <;> omega
theorem v_max {k k' : IntKind} {a b c : Int} {ats : Array TypeId} (hx : ev f x = .int k a) (hy : ev f y = .int k' b) (hc : (if b > a then b else a) = c) : RV P f ⟨some d, .call ⟨.builtin .max, #[x, y], ats⟩, ty, p, af, none⟩ A (.int k c) := by
  intro w _
  subst hc
  simp [execOp, resolve, invoke, builtin, hx, hy, Builtin.max_, Builtin.max2]
/-! nil -/
/-! parts that are known to be one cell -/
def fillC (pl : Nat → Option (Nat × Nat)) (cells : List Value) : List (Nat × Value) → Option (List Value)
  | [] => some cells
  | (i, v) :: rest =>
    match pl i with
    | none => none
    | some (off, 1) => if off + 1 ≤ cells.length then fillC pl (splice cells off [v]) rest else none
    | some (off, size) => if v.cells.toList.length = size ∧ off + v.cells.toList.length ≤ cells.length then fillC pl (splice cells off v.cells.toList) rest else none
def All1 (pl : Nat → Option (Nat × Nat)) : List (Nat × Value) → Prop
  | [] => True
  | (i, v) :: rest => (match pl i with | some (_, 1) => cell1 v = true | _ => True) ∧ All1 pl rest
/-! guards that are not met -/
/-! held -/
variable {W : World → Prop} {w : World} {fuel : Nat} {listed : Array Bool}
/-- Number i comes up, and acts: by the rules of a row of operations. -/
theorem pk_of (i : Nat) {A : World → Prop} {o : Oper} (hi : ops[i]? = some o) (hA : A w) (h : CL P n ops [o] (fun f' w' => W w' ∧ HL P n ops W N fuel (listed.setIfInBounds i true) f' w') f A) : PK P n ops W N fuel listed i f w := by
  intro a ha
  have h1 := h w hA a ha
  unfold wpOp
  simp only [hi]
  unfold wpList at h1
  split
  · rename_i hw
    rw [if_pos hw] at h1
    rcases h1 with h1 | ⟨_, a1, w1, h1⟩
    · left
      unfold Oper.wp at h1 ⊢
      generalize (execOp a.eval o).run P w = r at *
      have key : ∀ (a' : Act) (w' : World), wpList P ops (postN n fun f' w' => W w' ∧ HL P n ops W N fuel (listed.setIfInBounds i true) f' w') [] a' w' → W w' ∧ wpAnyH P .any ops (postN n N) W fuel (listed.setIfInBounds i true) a' w' := by
        rintro a' w' ⟨f', hr, h2, h3⟩
        exact ⟨h2, h3 a' hr⟩
      cases r with
      | ok nx w' =>
        cases nx <;> simp only [Oper.upon] at h1 ⊢ <;>
          first
            | exact key _ _ h1
            | exact Calls.mono h1 (fun e w'' he => by
                cases e with
                | returned v => exact key _ _ he
                | panicked c => exact he.elim
                | outgrown => obtain ⟨a2, w2, h2⟩ := he; exact h2.elim)
            | exact Rows.mono h1 (fun _ _ he => key _ _ he)
      | halt x w' => cases x <;> simp only [Oper.upon] at h1 ⊢ <;> exact h1.elim
    · exact h1.elim
  · rename_i hw
    rw [if_neg hw] at h1
    obtain ⟨f', hr, h2, h3⟩ := h1
    exact ⟨h2, h3 _ hr⟩
theorem h_one (i : Nat) {A : World → Prop} {o : Oper} (hr : Region.ready .any ops listed = [i]) (hi : ops[i]? = some o) (hA : A w) (h : CL P n ops [o] (fun f' w' => W w' ∧ HL P n ops W N fuel (listed.setIfInBounds i true) f' w') f A) : HL P n ops W N (fuel + 1) listed f w := by
  intro a ha
  refine wpAnyH_all hr (by simp) fun k hk => ?_
  simp at hk; subst hk
  exact pk_of k hi hA h a ha
/-! append -/
theorem l_appF {α : Type} {g : α → List Value} (hg : ∀ x, (g x).length = sz) {l l' : List α} (hc : ∀ x ∈ l', ∀ v ∈ g x, cell1 v = true) (i : Nat) {v u : Value} (ht : slT P t = some (e, sz, by')) (hx : ev f x = v) (hL : L[i]? = some (Res.vec e sz v l.length (l.flatMap g))) (hy : ev f y = u)
    (hs : ∀ w, Own w0 S L w → Sl w u l'.length (l'.flatMap g)) (hb : (l.length + l'.length) * by' ≤ 140737488355328) (hp : 0 < by') (hd : Nat.blt d n = true)
    (k : ∀ v', CL P n ops rest N (upd f d v') (Own w0 S (L.set i (Res.vec e sz v' (l ++ l').length ((l ++ l').flatMap g))))) :
    CL P n ops (⟨some d, .call ⟨.builtin .append, #[x, y], #[t, t]⟩, ty, p, af, none⟩ :: rest) N f (Own w0 S L) := by
  refine l_app i ht hx hL hy hs (flat_len hg l') ?_ hb ?_ hd ?_
  · intro v hv
    obtain ⟨x, hx, hv⟩ := List.mem_flatMap.1 hv
    exact hc x hx v hv
  · rw [maxLen_eq]
    have : l.length + l'.length ≤ (l.length + l'.length) * by' := Nat.le_mul_of_pos_right _ hp
    omega
  · intro v'
    have := k v'
    rwa [List.length_append, List.flatMap_append] at this
end
end Go.Sc
