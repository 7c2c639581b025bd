import Derived.Test.YtkkeknmkipkbmaaGreatFwT
set_option linter.unusedVariables false
set_option linter.unusedSimpArgs false
set_option linter.unusedSectionVars false
namespace Go.Sc
class SO (α : Type) where
  lt : α → α → Prop
  dec : ∀ a b, Decidable (lt a b)
  asymm : ∀ {a b : α}, lt a b → ¬ lt b a
  tr : ∀ {a b c : α}, ¬ lt b a → ¬ lt c b → ¬ lt c a
abbrev olt {α : Type} [SO α] (a b : α) : Prop := SO.lt a b
abbrev kH {α : Type} [SO α] (a b : α) : Prop := ¬ SO.lt b a
instance {α : Type} [SO α] (a b : α) : Decidable (SO.lt a b) := SO.dec a b
theorem zAP {α : Type} [SO α] (a : α) : kH a a := fun h => SO.asymm h h
theorem zBh {α : Type} [SO α] {a b c : α} (h : kH a b) (k : kH b c) : kH a c := SO.tr h k
instance : SO Nat := ⟨fun a b => a < b, fun a b => inferInstance, fun h k => by omega, fun h k => by omega⟩
variable {α : Type} [Inhabited α]
theorem zAZ {l m : List α} (hl : l.length = m.length) (h : ∀ k, k < l.length → zU l k = zU m k) : l = m := by
  apply List.ext_getElem?
  intro k
  by_cases hk : k < l.length
  · rw [yw hk, yw (hl ▸ hk), h k hk]
  · rw [List.getElem?_eq_none (by omega), List.getElem?_eq_none (by omega)]
def swp (l : List α) (i j : Nat) : List α := (l.set i (zU l j)).set j (zU l i)
variable [DecidableEq α] [SO α]
structure Same (a b : Nat) (l l' : List α) : Prop where
  len : l'.length = l.length
  out : ∀ k, k < a ∨ b ≤ k → zU l' k = zU l k
  perm : l'.Perm l
theorem Same.refl (a b : Nat) (l : List α) : Same a b l l := ⟨rfl, fun _ _ => rfl, .refl _⟩
theorem Same.trans {a b : Nat} {l m n : List α} (h : Same a b l m) (h' : Same a b m n) : Same a b l n :=
  ⟨h'.len.trans h.len, fun k hk => (h'.out k hk).trans (h.out k hk), h'.perm.trans h.perm⟩
theorem Same.wide {a b c d : Nat} {l m : List α} (h : Same a b l m) (h1 : c ≤ a) (h2 : b ≤ d) : Same c d l m :=
  ⟨h.len, fun k hk => h.out k (by omega), h.perm⟩
def All (a b : Nat) (P : α → Prop) (l : List α) : Prop := ∀ k, a ≤ k → k < b → P (zU l k)
theorem zCM {a b : Nat} {l : List α} (h1 : a ≤ b) : l = l.take a ++ ((l.take b).drop a ++ l.drop b) := by
  rw [← List.append_assoc]
  have : l.take a ++ (l.take b).drop a = l.take b := by
    have e : l.take a = (l.take b).take a := by rw [List.take_take, Nat.min_eq_left h1]
    rw [e, List.take_append_drop]
  rw [this, List.take_append_drop]
theorem Same.mid {a b : Nat} {l m : List α} (h : Same a b l m) (h1 : a ≤ b) : ((m.take b).drop a).Perm ((l.take b).drop a) := by
  have e1 : m.take a = l.take a := by
    apply zAZ (by simp [h.len])
    intro k hk
    simp only [List.length_take] at hk
    rw [y8 (by omega), y8 (by omega), h.out k (by omega)]
  have e2 : m.drop b = l.drop b := by
    apply zAZ (by simp [h.len])
    intro k hk
    rw [xP, xP, h.out _ (by omega)]
  have hp := h.perm
  rw [zCM (l := m) h1, zCM (l := l) h1, e1, e2] at hp
  exact (List.perm_append_right_iff _).1 ((List.perm_append_left_iff _).1 hp)
theorem Same.at {a b k : Nat} {l m : List α} (h : Same a b l m) (hk : a ≤ k) (hkb : k < b) (hb : b ≤ l.length) : ∃ j, a ≤ j ∧ j < b ∧ zU m k = zU l j := by
  have hm : zU m k ∈ (m.take b).drop a := by
    have e : zU ((m.take b).drop a) (k - a) = zU m k := by rw [xP, y8 (by omega), show a + (k - a) = k by omega]
    rw [← e]
    exact zt (by simp [h.len]; omega)
  have := (h.mid (by omega)).mem_iff.1 hm
  obtain ⟨j, hj⟩ := List.mem_iff_getElem?.1 this
  have hlt : j < ((l.take b).drop a).length := by
    by_cases q : j < ((l.take b).drop a).length
    · exact q
    · rw [List.getElem?_eq_none (by omega)] at hj; cases hj
  have hlt' : j < b - a := by simp at hlt; omega
  refine ⟨a + j, by omega, by omega, ?_⟩
  have e := jq hj
  rw [xP, y8 (by omega)] at e
  exact e.symm
theorem Same.all {a b : Nat} {P : α → Prop} {l m : List α} (h : Same a b l m) (hb : b ≤ l.length) (ha : All a b P l) : All a b P m := fun k h1 h2 => by
  obtain ⟨j, q1, q2, e⟩ := h.at h1 h2 hb
  rw [e]; exact ha j q1 q2
def Up (a b : Nat) (l : List α) : Prop := ∀ k, a ≤ k → k + 1 < b → kH (zU l k) (zU l (k + 1))
theorem Up.le {a b : Nat} {l : List α} (h : Up a b l) {i : Nat} : ∀ {j : Nat}, a ≤ i → i ≤ j → j < b → kH (zU l i) (zU l j) := by
  intro j h1 h2 h3
  induction j with
  | zero => rw [show i = 0 by omega]; exact zAP _
  | succ j ih =>
    by_cases hj : i = j + 1
    · rw [hj]; exact zAP _
    · exact zBh (ih (by omega) (by omega)) (h j (by omega) h3)
theorem Up.one {a b : Nat} {l : List α} (h : b ≤ a + 1) : Up a b l := fun k h1 h2 => by omega
theorem Up.keep {a b c d : Nat} {l m : List α} (h : Up a b l) (hs : Same c d l m) (hd : b ≤ c ∨ d ≤ a) : Up a b m := fun k h1 h2 => by
  rw [hs.out k (by omega), hs.out (k + 1) (by omega)]; exact h k h1 h2
def Ins (a i j : Nat) (l : List α) : Prop := (∀ k, a ≤ k → k + 1 ≤ i → k + 1 ≠ j → kH (zU l k) (zU l (k + 1))) ∧ (a < j → j < i → kH (zU l (j - 1)) (zU l (j + 1)))
theorem Ins.start {a i : Nat} {l : List α} (h : Up a i l) : Ins a i i l := ⟨fun k h1 h2 h3 => h k h1 (by omega), fun _ h => by omega⟩
theorem Ins.done {a i j : Nat} {l : List α} (h : Ins a i j l) (hj : a < j → ¬ olt (zU l j) (zU l (j - 1))) : Up a (i + 1) l := fun k h1 h2 => by
  by_cases q : k + 1 = j
  · have := hj (by omega)
    rw [← q, Nat.add_sub_cancel] at this
    exact this
  · exact h.1 k h1 (by omega) q
def Hp (lo hi f : Nat) (l : List α) : Prop := ∀ i, lo ≤ i → ∀ c, c = 2 * i + 1 ∨ c = 2 * i + 2 → c < hi → kH (zU l (f + c)) (zU l (f + i))
structure HpX (lo hi f r : Nat) (l : List α) : Prop where
  rest : ∀ i, lo ≤ i → i ≠ r → ∀ c, c = 2 * i + 1 ∨ c = 2 * i + 2 → c < hi → kH (zU l (f + c)) (zU l (f + i))
  over : ∀ p, lo ≤ p → r = 2 * p + 1 ∨ r = 2 * p + 2 → ∀ c, c = 2 * r + 1 ∨ c = 2 * r + 2 → c < hi → kH (zU l (f + c)) (zU l (f + p))
theorem HpX.start {lo hi f : Nat} {l : List α} (h : Hp (lo + 1) hi f l) : HpX lo hi f lo l :=
  ⟨fun i h1 h2 => h i (by omega), fun p h1 h2 => by omega⟩
theorem HpX.done {lo hi f r : Nat} {l : List α} (h : HpX lo hi f r l) (hr : ∀ c, c = 2 * r + 1 ∨ c = 2 * r + 2 → c < hi → kH (zU l (f + c)) (zU l (f + r))) : Hp lo hi f l := fun i h1 c h2 h3 => by
  by_cases q : i = r
  · subst q; exact hr c h2 h3
  · exact h.rest i h1 q c h2 h3
structure HpUp (i n f : Nat) (l : List α) : Prop where
  hp : Hp 0 i f l
  up : Up (f + i) (f + n) l
  over : ∀ k j, k < i → i ≤ j → j < n → kH (zU l (f + k)) (zU l (f + j))
theorem HpUp.start {n f : Nat} {l : List α} (h : Hp 0 n f l) : HpUp n n f l := ⟨h, Up.one (by omega), fun k j h1 h2 h3 => by omega⟩
structure Part (a b m : Nat) (l : List α) : Prop where
  lo : ∀ k, a ≤ k → k < m → kH (zU l k) (zU l m)
  hi : ∀ k, m < k → k < b → kH (zU l m) (zU l k)
def Pred (a b : Nat) (l : List α) : Prop := a = 0 ∨ ∀ k, a ≤ k → k < b → kH (zU l (a - 1)) (zU l k)
theorem Pred.keep {a b : Nat} {l m : List α} (h : Pred a b l) (hs : Same a b l m) (hb : b ≤ l.length) : Pred a b m := by
  rcases h with h | h
  · exact .inl h
  · by_cases h0 : a = 0
    · exact .inl h0
    · refine .inr fun k h1 h2 => ?_
      rw [hs.out (a - 1) (by omega)]
      exact hs.all (P := fun x => kH (zU l (a - 1)) x) hb h k h1 h2
theorem Pred.sub {a b c : Nat} {l : List α} (h : Pred a b l) (hc : c ≤ b) : Pred a c l := h.imp id fun h k h1 h2 => h k h1 (by omega)
theorem Part.join {a b m : Nat} {l l1 l2 : List α} (h : Part a b m l) (hm : a ≤ m ∧ m < b) (hb : b ≤ l.length) (h1 : Same a m l l1) (u1 : Up a m l1) (h2 : Same (m + 1) b l1 l2) (u2 : Up (m + 1) b l2) : Up a b l2 := by
  have em : zU l2 m = zU l m := by rw [h2.out m (by omega), h1.out m (by omega)]
  have hlo : ∀ k, a ≤ k → k < m → kH (zU l2 k) (zU l m) := fun k q1 q2 => by
    rw [h2.out k (by omega)]; exact h1.all (P := fun x => kH x (zU l m)) (by omega) h.lo k q1 q2
  have hhi : ∀ k, m + 1 ≤ k → k < b → kH (zU l m) (zU l2 k) := by
    have : All (m + 1) b (fun x => kH (zU l m) x) l1 := fun k q1 q2 => by rw [h1.out k (by omega)]; exact h.hi k (by omega) q2
    exact h2.all (by rw [h1.len]; exact hb) this
  intro k q1 q2
  by_cases c1 : k + 1 < m
  · rw [h2.out k (by omega), h2.out (k + 1) (by omega)]; exact u1 k q1 c1
  · by_cases c2 : k + 1 = m
    · rw [c2, em]; exact hlo k q1 (by omega)
    · by_cases c3 : k = m
      · rw [c3, em]; exact hhi (m + 1) (by omega) (by omega)
      · exact u2 k (by omega) q2
theorem Up.glue {a m b : Nat} {l : List α} (h1 : Up a m l) (h2 : Up m b l) (h : a < m → m < b → kH (zU l (m - 1)) (zU l m)) : Up a b l := fun k q1 q2 => by
  by_cases c1 : k + 1 < m
  · exact h1 k q1 c1
  · by_cases c2 : k + 1 = m
    · have := h (by omega) (by omega)
      rw [← c2, Nat.add_sub_cancel] at this
      rw [← c2] at *
      exact this
    · exact h2 k (by omega) q2
def Lo (a i : Nat) (q : List α) : Prop := ∀ k, a + 1 ≤ k → k < i → olt (zU q k) (zU q a)
def Hi (a j b : Nat) (q : List α) : Prop := ∀ k, j < k → k < b → kH (zU q a) (zU q k)
def Le (a i : Nat) (q : List α) : Prop := ∀ k, a + 1 ≤ k → k < i → kH (zU q k) (zU q a)
def Gt (a j b : Nat) (q : List α) : Prop := ∀ k, j < k → k < b → olt (zU q a) (zU q k)
structure Eqs (a i b : Nat) (x : α) (l : List α) : Prop where
  lo : ∀ k, a ≤ k → k < i → kH (zU l k) x
  hi : ∀ k, i ≤ k → k < b → olt x (zU l k)
structure Fr (a c d b : Nat) (q : List α) : Prop where
  lo : Up a c q
  loe : ∀ k j, a ≤ k → k < c → c ≤ j → j < b → kH (zU q k) (zU q j)
  hi : Up d b q
  hie : ∀ k j, a ≤ k → k < d → d ≤ j → j < b → kH (zU q k) (zU q j)
theorem Fr.start {a b : Nat} {q : List α} : Fr a a b b q := ⟨Up.one (by omega), fun k j h1 h2 => by omega, Up.one (by omega), fun k j h1 h2 h3 h4 => by omega⟩
theorem Fr.keep {a c d b : Nat} {q r : List α} (h : Fr a c d b q) (hs : Same c d q r) (hc : a ≤ c ∧ c ≤ d) (hd : d ≤ b) (hb : b ≤ q.length) : Fr a c d b r := by
  have at' : ∀ k, c ≤ k → k < d → ∃ k', c ≤ k' ∧ k' < d ∧ zU r k = zU q k' := fun k h1 h2 => hs.at h1 h2 (by omega)
  refine ⟨h.lo.keep hs (.inl (by omega)), fun k j h1 h2 h3 h4 => ?_, h.hi.keep hs (.inr (by omega)), fun k j h1 h2 h3 h4 => ?_⟩
  · rw [hs.out k (by omega)]
    by_cases q1 : j < d
    · obtain ⟨j', q2, q3, e⟩ := at' j h3 q1; rw [e]; exact h.loe k j' h1 h2 q2 (by omega)
    · rw [hs.out j (by omega)]; exact h.loe k j h1 h2 h3 h4
  · rw [hs.out j (by omega)]
    by_cases q1 : c ≤ k
    · obtain ⟨k', q2, q3, e⟩ := at' k q1 h2; rw [e]; exact h.hie k' j (by omega) q3 h3 h4
    · rw [hs.out k (by omega)]; exact h.hie k j h1 h2 h3 h4
theorem Fr.done {a c d b : Nat} {q : List α} (h : Fr a c d b q) (hu : Up c d q) (hc : a ≤ c ∧ c ≤ d) (hd : d ≤ b) : Up a b q := by
  have h1 : Up a d q := h.lo.glue hu fun q1 q2 => h.loe (c - 1) c (by omega) (by omega) (Nat.le_refl _) (by omega)
  exact h1.glue h.hi fun q1 q2 => h.hie (d - 1) d (by omega) (by omega) (Nat.le_refl _) (by omega)
theorem Pred.far {a b c d : Nat} {l m : List α} (h : Pred a b l) (hs : Same c d l m) (hd : d + 1 ≤ a ∨ b ≤ c) : Pred a b m := h.imp id fun h k h1 h2 => by
  by_cases ha : a = 0
  · subst ha; rw [hs.out 0 (by omega), hs.out k (by omega)]; exact h k h1 h2
  · rw [hs.out (a - 1) (by omega), hs.out k (by omega)]; exact h k h1 h2
end Go.Sc
