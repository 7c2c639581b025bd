import Derived.Test.YtkkeknmkipkbmaaGreatFwT
import Derived.Test.YtkkeknmkipkbmaaGreatFwR
set_option linter.unusedVariables false
set_option linter.unusedSimpArgs false
set_option linter.unusedSectionVars false
namespace Go.Sc
class SO (α : Type) where
  lt : α → α → Prop
  dec : ∀ a b, Decidable (lt a b)
  asymm : ∀ {a b : α}, lt a b → ¬ lt b a
  tr : ∀ {a b c : α}, ¬ lt b a → ¬ lt c b → ¬ lt c a
abbrev olt {α : Type} [SO α] (a b : α) : Prop := SO.lt a b
abbrev kS {α : Type} [SO α] (a b : α) : Prop := ¬ SO.lt b a
instance {α : Type} [SO α] (a b : α) : Decidable (SO.lt a b) := SO.dec a b
theorem zCx {α : Type} [SO α] (a : α) : kS a a := fun h => SO.asymm h h
theorem zFb {α : Type} [SO α] {a b c : α} (h : kS a b) (k : kS b c) : kS a c := SO.tr h k
theorem zBI {α : Type} [SO α] {a b : α} (h : olt a b) : kS a b := SO.asymm h
instance : SO Nat := ⟨fun a b => a < b, fun a b => inferInstance, fun h k => by omega, fun h k => by omega⟩
theorem ole_nat {a b : Nat} : kS a b ↔ a ≤ b := Nat.not_lt
variable {α : Type} [Inhabited α]
theorem jm {l : List α} {i k : Nat} {x : α} : zG (l.set i x) k = if k = i ∧ i < l.length then x else zG l k := by
  simp only [zG, List.getElem?_set]
  by_cases h : i = k
  · subst h
    by_cases h2 : i < l.length
    · simp [h2]
    · simp [h2]
  · rw [if_neg h, if_neg (fun q => h q.1.symm)]
theorem zDL {l m : List α} (hl : l.length = m.length) (h : ∀ k, k < l.length → zG l k = zG m k) : l = m := by
  apply List.ext_getElem?
  intro k
  by_cases hk : k < l.length
  · rw [xB hk, xB (hl ▸ hk), h k hk]
  · rw [List.getElem?_eq_none (by omega), List.getElem?_eq_none (by omega)]
def swp (l : List α) (i j : Nat) : List α := (l.set i (zG l j)).set j (zG l i)
theorem zIk (l : List α) (i j : Nat) : (swp l i j).length = l.length := by simp [swp]
theorem zCl {l : List α} {i j k : Nat} (hi : i < l.length) (hj : j < l.length) : zG (swp l i j) k = if k = j then zG l i else if k = i then zG l j else zG l k := by
  unfold swp
  rw [jm, jm, List.length_set]
  by_cases h1 : k = j <;> by_cases h2 : k = i <;> simp [h1, h2, hi, hj]
variable [DecidableEq α] [SO α]
theorem jo {x y : α} : ∀ {l : List α} {i : Nat}, i < l.length → (l.set i x).count y + (if zG l i = y then 1 else 0) = l.count y + (if x = y then 1 else 0)
  | [], _, h => by simp at h
  | a :: l, 0, h => by
    have e : zG (a :: l) 0 = a := rfl
    rw [e, List.set_cons_zero, List.count_cons, List.count_cons]
    by_cases h1 : a = y <;> by_cases h2 : x = y <;> simp [h1, h2]
  | a :: l, i + 1, h => by
    have ih := jo (x := x) (y := y) (l := l) (i := i) (by simpa using h)
    have e : zG (a :: l) (i + 1) = zG l i := by simp [zG]
    simp only [List.set_cons_succ, List.count_cons, e]
    omega
theorem zGw {l : List α} {i j : Nat} (hi : i < l.length) (hj : j < l.length) : (swp l i j).Perm l := by
  rw [List.perm_iff_count]
  intro y
  have h1 := jo (x := zG l j) (y := y) hi
  have h2 := jo (x := zG l i) (y := y) (l := l.set i (zG l j)) (i := j) (by simpa using hj)
  have e : zG (l.set i (zG l j)) j = zG l j := by
    rw [jm]; split <;> rfl
  rw [e] at h2
  unfold swp
  omega
structure Same (a b : Nat) (l l' : List α) : Prop where
  len : l'.length = l.length
  out : ∀ k, k < a ∨ b ≤ k → zG l' k = zG l k
  perm : l'.Perm l
theorem Same.refl (a b : Nat) (l : List α) : Same a b l l := ⟨rfl, fun _ _ => rfl, .refl _⟩
theorem Same.trans {a b : Nat} {l m n : List α} (h : Same a b l m) (h' : Same a b m n) : Same a b l n :=
  ⟨h'.len.trans h.len, fun k hk => (h'.out k hk).trans (h.out k hk), h'.perm.trans h.perm⟩
theorem Same.wide {a b c d : Nat} {l m : List α} (h : Same a b l m) (h1 : c ≤ a) (h2 : b ≤ d) : Same c d l m :=
  ⟨h.len, fun k hk => h.out k (by omega), h.perm⟩
theorem Same.ex {a b i j : Nat} {l : List α} (hi : a ≤ i ∧ i < b) (hj : a ≤ j ∧ j < b) (hb : b ≤ l.length) : Same a b l (swp l i j) :=
  ⟨zIk l i j, fun k hk => by rw [zCl (by omega) (by omega), if_neg (by omega), if_neg (by omega)], zGw (by omega) (by omega)⟩
theorem Same.then_swp {a b i j : Nat} {l m : List α} (h : Same a b l m) (hi : a ≤ i ∧ i < b) (hj : a ≤ j ∧ j < b) (hb : b ≤ l.length) : Same a b l (swp m i j) :=
  h.trans (Same.ex hi hj (by rw [h.len]; exact hb))
def All (a b : Nat) (P : α → Prop) (l : List α) : Prop := ∀ k, a ≤ k → k < b → P (zG l k)
theorem zHh {a b : Nat} {l : List α} (h1 : a ≤ b) : l = l.take a ++ ((l.take b).drop a ++ l.drop b) := by
  rw [← List.append_assoc]
  have : l.take a ++ (l.take b).drop a = l.take b := by
    have e : l.take a = (l.take b).take a := by rw [List.take_take, Nat.min_eq_left h1]
    rw [e, List.take_append_drop]
  rw [this, List.take_append_drop]
theorem Same.mid {a b : Nat} {l m : List α} (h : Same a b l m) (h1 : a ≤ b) : ((m.take b).drop a).Perm ((l.take b).drop a) := by
  have e1 : m.take a = l.take a := by
    apply zDL (by simp [h.len])
    intro k hk
    simp only [List.length_take] at hk
    rw [x6 (by omega), x6 (by omega), h.out k (by omega)]
  have e2 : m.drop b = l.drop b := by
    apply zDL (by simp [h.len])
    intro k hk
    rw [kw, kw, h.out _ (by omega)]
  have hp := h.perm
  rw [zHh (l := m) h1, zHh (l := l) h1, e1, e2] at hp
  exact (List.perm_append_right_iff _).1 ((List.perm_append_left_iff _).1 hp)
theorem Same.at {a b k : Nat} {l m : List α} (h : Same a b l m) (hk : a ≤ k) (hkb : k < b) (hb : b ≤ l.length) : ∃ j, a ≤ j ∧ j < b ∧ zG m k = zG l j := by
  have hm : zG m k ∈ (m.take b).drop a := by
    have e : zG ((m.take b).drop a) (k - a) = zG m k := by rw [kw, x6 (by omega), show a + (k - a) = k by omega]
    rw [← e]
    exact zl (by simp [h.len]; omega)
  have := (h.mid (by omega)).mem_iff.1 hm
  obtain ⟨j, hj⟩ := List.mem_iff_getElem?.1 this
  have hlt : j < ((l.take b).drop a).length := by
    by_cases q : j < ((l.take b).drop a).length
    · exact q
    · rw [List.getElem?_eq_none (by omega)] at hj; cases hj
  have hlt' : j < b - a := by simp at hlt; omega
  refine ⟨a + j, by omega, by omega, ?_⟩
  have e := xR hj
  rw [kw, x6 (by omega)] at e
  exact e.symm
theorem Same.all {a b : Nat} {P : α → Prop} {l m : List α} (h : Same a b l m) (hb : b ≤ l.length) (ha : All a b P l) : All a b P m := fun k h1 h2 => by
  obtain ⟨j, q1, q2, e⟩ := h.at h1 h2 hb
  rw [e]; exact ha j q1 q2
def Up (a b : Nat) (l : List α) : Prop := ∀ k, a ≤ k → k + 1 < b → kS (zG l k) (zG l (k + 1))
theorem Up.le {a b : Nat} {l : List α} (h : Up a b l) {i : Nat} : ∀ {j : Nat}, a ≤ i → i ≤ j → j < b → kS (zG l i) (zG l j) := by
  intro j h1 h2 h3
  induction j with
  | zero => rw [show i = 0 by omega]; exact zCx _
  | succ j ih =>
    by_cases hj : i = j + 1
    · rw [hj]; exact zCx _
    · exact zFb (ih (by omega) (by omega)) (h j (by omega) h3)
theorem Up.one {a b : Nat} {l : List α} (h : b ≤ a + 1) : Up a b l := fun k h1 h2 => by omega
theorem Up.keep {a b c d : Nat} {l m : List α} (h : Up a b l) (hs : Same c d l m) (hd : b ≤ c ∨ d ≤ a) : Up a b m := fun k h1 h2 => by
  rw [hs.out k (by omega), hs.out (k + 1) (by omega)]; exact h k h1 h2
theorem Up.pair {a b : Nat} {l : List α} (h : Up a b l) (hb : b ≤ l.length) : ((l.take b).drop a).Pairwise (fun x y => kS x y) := by
  rw [List.pairwise_iff_getElem]
  intro i j hi hj hij
  simp only [List.length_drop, List.length_take] at hi hj
  have e : ∀ k (hk : k < ((l.take b).drop a).length), ((l.take b).drop a)[k] = zG l (a + k) := fun k hk => by
    have hk' : k < b - a := by simp at hk; omega
    have := xR (List.getElem?_eq_getElem hk)
    rw [kw, x6 (by omega)] at this
    exact this.symm
  rw [e, e]
  exact h.le (by omega) (by omega) (by omega)
theorem Up.step {a i : Nat} {l : List α} (h : Up a i l) (hn : ¬ olt (zG l i) (zG l (i - 1))) : Up a (i + 1) l := fun k h1 h2 => by
  by_cases e : k + 1 = i
  · rw [← e, Nat.add_sub_cancel] at hn; exact hn
  · exact h k h1 (by omega)
theorem zAm {l m : List α} (hs : Same 0 l.length l m) (hu : Up 0 l.length m) : m.Pairwise (fun x y => kS x y) := by
  have h1 := hu.pair (by rw [hs.len]; exact Nat.le_refl _)
  rwa [List.drop_zero, List.take_of_length_le (by rw [hs.len]; exact Nat.le_refl _)] at h1
def Ins (a i j : Nat) (l : List α) : Prop := (∀ k, a ≤ k → k + 1 ≤ i → k + 1 ≠ j → kS (zG l k) (zG l (k + 1))) ∧ (a < j → j < i → kS (zG l (j - 1)) (zG l (j + 1)))
theorem Ins.start {a i : Nat} {l : List α} (h : Up a i l) : Ins a i i l := ⟨fun k h1 h2 h3 => h k h1 (by omega), fun _ h => by omega⟩
theorem Ins.step {a i j : Nat} {l : List α} (h : Ins a i j l) (hj : a < j) (hji : j ≤ i) (hi : i < l.length) (hlt : olt (zG l j) (zG l (j - 1))) : Ins a i (j - 1) (swp l j (j - 1)) := by
  have e := fun k => zCl (l := l) (i := j) (j := j - 1) (k := k) (by omega) (by omega)
  refine ⟨fun k h1 h2 h3 => ?_, fun h1 h2 => ?_⟩
  · rw [e, e]
    by_cases q1 : k = j - 1
    · rw [if_pos q1, if_neg (by omega), if_pos (by omega)]; rw [show k + 1 = j by omega] at *; subst q1; exact zBI hlt
    · rw [if_neg q1]
      by_cases q2 : k = j
      · subst q2; rw [if_pos rfl, if_neg (by omega), if_neg (by omega)]; exact h.2 hj (by omega)
      · rw [if_neg q2, if_neg (by omega), if_neg (by omega)]; exact h.1 k h1 h2 (by omega)
  · rw [e, e, if_neg (by omega), if_neg (by omega), if_neg (by omega), if_pos (by omega)]
    have := h.1 (j - 1 - 1) (by omega) (by omega) (by omega)
    rwa [show j - 1 - 1 + 1 = j - 1 by omega] at this
theorem Ins.done {a i j : Nat} {l : List α} (h : Ins a i j l) (hj : a < j → ¬ olt (zG l j) (zG l (j - 1))) : Up a (i + 1) l := fun k h1 h2 => by
  by_cases q : k + 1 = j
  · have := hj (by omega)
    rw [← q, Nat.add_sub_cancel] at this
    exact this
  · exact h.1 k h1 (by omega) q
def Hp (lo hi f : Nat) (l : List α) : Prop := ∀ i, lo ≤ i → ∀ c, c = 2 * i + 1 ∨ c = 2 * i + 2 → c < hi → kS (zG l (f + c)) (zG l (f + i))
structure HpX (lo hi f r : Nat) (l : List α) : Prop where
  rest : ∀ i, lo ≤ i → i ≠ r → ∀ c, c = 2 * i + 1 ∨ c = 2 * i + 2 → c < hi → kS (zG l (f + c)) (zG l (f + i))
  over : ∀ p, lo ≤ p → r = 2 * p + 1 ∨ r = 2 * p + 2 → ∀ c, c = 2 * r + 1 ∨ c = 2 * r + 2 → c < hi → kS (zG l (f + c)) (zG l (f + p))
theorem HpX.start {lo hi f : Nat} {l : List α} (h : Hp (lo + 1) hi f l) : HpX lo hi f lo l :=
  ⟨fun i h1 h2 => h i (by omega), fun p h1 h2 => by omega⟩
theorem HpX.step {lo hi f r c : Nat} {l : List α} (h : HpX lo hi f r l) (hr : lo ≤ r) (hc : c = 2 * r + 1 ∨ c = 2 * r + 2) (hch : c < hi) (hl : f + hi ≤ l.length)
    (hmax : ∀ c', c' = 2 * r + 1 ∨ c' = 2 * r + 2 → c' < hi → kS (zG l (f + c')) (zG l (f + c))) (hlt : olt (zG l (f + r)) (zG l (f + c))) : HpX lo hi f c (swp l (f + r) (f + c)) := by
  have e := fun k => zCl (l := l) (i := f + r) (j := f + c) (k := k) (by omega) (by omega)
  refine ⟨fun i h1 h2 c' h3 h4 => ?_, fun p h1 h2 c' h3 h4 => ?_⟩
  · rw [e, e, if_neg (show f + i ≠ f + c by omega)]
    by_cases q : i = r
    · subst q
      rw [if_pos (show f + i = f + i from rfl)]
      by_cases q2 : c' = c
      · rw [if_pos (by omega)]; exact zBI hlt
      · rw [if_neg (by omega), if_neg (by omega)]; exact hmax c' h3 h4
    · rw [if_neg (show f + i ≠ f + r by omega), if_neg (show f + c' ≠ f + c by omega)]
      by_cases q2 : c' = r
      · subst q2; rw [if_pos rfl]; exact h.over i h1 h3 c hc hch
      · rw [if_neg (by omega)]; exact h.rest i h1 q c' h3 h4
  · have hp : p = r := by omega
    subst hp
    rw [e, e, if_neg (show f + c' ≠ f + c by omega), if_neg (show f + c' ≠ f + p by omega), if_neg (show f + p ≠ f + c by omega), if_pos rfl]
    exact h.rest c (by omega) (by omega) c' h3 h4
theorem HpX.done {lo hi f r : Nat} {l : List α} (h : HpX lo hi f r l) (hr : ∀ c, c = 2 * r + 1 ∨ c = 2 * r + 2 → c < hi → kS (zG l (f + c)) (zG l (f + r))) : Hp lo hi f l := fun i h1 c h2 h3 => by
  by_cases q : i = r
  · subst q; exact hr c h2 h3
  · exact h.rest i h1 q c h2 h3
theorem Hp.none {hi f m : Nat} {l : List α} (h : hi ≤ 2 * m + 1) : Hp m hi f l := fun i h1 c h2 h3 => by omega
structure HpUp (i n f : Nat) (l : List α) : Prop where
  hp : Hp 0 i f l
  up : Up (f + i) (f + n) l
  over : ∀ k j, k < i → i ≤ j → j < n → kS (zG l (f + k)) (zG l (f + j))
theorem HpUp.start {n f : Nat} {l : List α} (h : Hp 0 n f l) : HpUp n n f l := ⟨h, Up.one (by omega), fun k j h1 h2 h3 => by omega⟩
structure Part (a b m : Nat) (l : List α) : Prop where
  lo : ∀ k, a ≤ k → k < m → kS (zG l k) (zG l m)
  hi : ∀ k, m < k → k < b → kS (zG l m) (zG l k)
def Pred (a b : Nat) (l : List α) : Prop := a = 0 ∨ ∀ k, a ≤ k → k < b → kS (zG l (a - 1)) (zG l k)
theorem Pred.keep {a b : Nat} {l m : List α} (h : Pred a b l) (hs : Same a b l m) (hb : b ≤ l.length) : Pred a b m := by
  rcases h with h | h
  · exact .inl h
  · by_cases h0 : a = 0
    · exact .inl h0
    · refine .inr fun k h1 h2 => ?_
      rw [hs.out (a - 1) (by omega)]
      exact hs.all (P := fun x => kS (zG l (a - 1)) x) hb h k h1 h2
theorem Pred.sub {a b c : Nat} {l : List α} (h : Pred a b l) (hc : c ≤ b) : Pred a c l := h.imp id fun h k h1 h2 => h k h1 (by omega)
theorem Part.join {a b m : Nat} {l l1 l2 : List α} (h : Part a b m l) (hm : a ≤ m ∧ m < b) (hb : b ≤ l.length) (h1 : Same a m l l1) (u1 : Up a m l1) (h2 : Same (m + 1) b l1 l2) (u2 : Up (m + 1) b l2) : Up a b l2 := by
  have em : zG l2 m = zG l m := by rw [h2.out m (by omega), h1.out m (by omega)]
  have hlo : ∀ k, a ≤ k → k < m → kS (zG l2 k) (zG l m) := fun k q1 q2 => by
    rw [h2.out k (by omega)]; exact h1.all (P := fun x => kS x (zG l m)) (by omega) h.lo k q1 q2
  have hhi : ∀ k, m + 1 ≤ k → k < b → kS (zG l m) (zG l2 k) := by
    have : All (m + 1) b (fun x => kS (zG l m) x) l1 := fun k q1 q2 => by rw [h1.out k (by omega)]; exact h.hi k (by omega) q2
    exact h2.all (by rw [h1.len]; exact hb) this
  intro k q1 q2
  by_cases c1 : k + 1 < m
  · rw [h2.out k (by omega), h2.out (k + 1) (by omega)]; exact u1 k q1 c1
  · by_cases c2 : k + 1 = m
    · rw [c2, em]; exact hlo k q1 (by omega)
    · by_cases c3 : k = m
      · rw [c3, em]; exact hhi (m + 1) (by omega) (by omega)
      · exact u2 k (by omega) q2
theorem Up.glue {a m b : Nat} {l : List α} (h1 : Up a m l) (h2 : Up m b l) (h : a < m → m < b → kS (zG l (m - 1)) (zG l m)) : Up a b l := fun k q1 q2 => by
  by_cases c1 : k + 1 < m
  · exact h1 k q1 c1
  · by_cases c2 : k + 1 = m
    · have := h (by omega) (by omega)
      rw [← c2, Nat.add_sub_cancel] at this
      rw [← c2] at *
      exact this
    · exact h2 k (by omega) q2
def Lo (a i : Nat) (q : List α) : Prop := ∀ k, a + 1 ≤ k → k < i → olt (zG q k) (zG q a)
def Hi (a j b : Nat) (q : List α) : Prop := ∀ k, j < k → k < b → kS (zG q a) (zG q k)
theorem Lo.step {a i : Nat} {q : List α} (h : Lo a i q) (hn : olt (zG q i) (zG q a)) : Lo a (i + 1) q := fun k h1 h2 => by
  by_cases e : k = i
  · rw [e]; exact hn
  · exact h k h1 (by omega)
theorem Hi.step {a j b : Nat} {q : List α} (h : Hi a j b q) (hn : ¬ olt (zG q j) (zG q a)) : Hi a (j - 1) b q := fun k h1 h2 => by
  by_cases e : k = j
  · rw [e]; exact hn
  · exact h k (by omega) h2
def Le (a i : Nat) (q : List α) : Prop := ∀ k, a + 1 ≤ k → k < i → kS (zG q k) (zG q a)
def Gt (a j b : Nat) (q : List α) : Prop := ∀ k, j < k → k < b → olt (zG q a) (zG q k)
theorem Le.step {a i : Nat} {q : List α} (h : Le a i q) (hn : ¬ olt (zG q a) (zG q i)) : Le a (i + 1) q := fun k h1 h2 => by
  by_cases e : k = i
  · rw [e]; exact hn
  · exact h k h1 (by omega)
theorem Gt.step {a j b : Nat} {q : List α} (h : Gt a j b q) (hn : olt (zG q a) (zG q j)) : Gt a (j - 1) b q := fun k h1 h2 => by
  by_cases e : k = j
  · rw [e]; exact hn
  · exact h k (by omega) h2
structure Eqs (a i b : Nat) (x : α) (l : List α) : Prop where
  lo : ∀ k, a ≤ k → k < i → kS (zG l k) x
  hi : ∀ k, i ≤ k → k < b → olt x (zG l k)
structure Fr (a c d b : Nat) (q : List α) : Prop where
  lo : Up a c q
  loe : ∀ k j, a ≤ k → k < c → c ≤ j → j < b → kS (zG q k) (zG q j)
  hi : Up d b q
  hie : ∀ k j, a ≤ k → k < d → d ≤ j → j < b → kS (zG q k) (zG q j)
theorem Fr.start {a b : Nat} {q : List α} : Fr a a b b q := ⟨Up.one (by omega), fun k j h1 h2 => by omega, Up.one (by omega), fun k j h1 h2 h3 h4 => by omega⟩
theorem Fr.keep {a c d b : Nat} {q r : List α} (h : Fr a c d b q) (hs : Same c d q r) (hc : a ≤ c ∧ c ≤ d) (hd : d ≤ b) (hb : b ≤ q.length) : Fr a c d b r := by
  have at' : ∀ k, c ≤ k → k < d → ∃ k', c ≤ k' ∧ k' < d ∧ zG r k = zG q k' := fun k h1 h2 => hs.at h1 h2 (by omega)
  refine ⟨h.lo.keep hs (.inl (by omega)), fun k j h1 h2 h3 h4 => ?_, h.hi.keep hs (.inr (by omega)), fun k j h1 h2 h3 h4 => ?_⟩
  · rw [hs.out k (by omega)]
    by_cases q1 : j < d
    · obtain ⟨j', q2, q3, e⟩ := at' j h3 q1; rw [e]; exact h.loe k j' h1 h2 q2 (by omega)
    · rw [hs.out j (by omega)]; exact h.loe k j h1 h2 h3 h4
  · rw [hs.out j (by omega)]
    by_cases q1 : c ≤ k
    · obtain ⟨k', q2, q3, e⟩ := at' k q1 h2; rw [e]; exact h.hie k' j (by omega) q3 h3 h4
    · rw [hs.out k (by omega)]; exact h.hie k j h1 h2 h3 h4
theorem Fr.done {a c d b : Nat} {q : List α} (h : Fr a c d b q) (hu : Up c d q) (hc : a ≤ c ∧ c ≤ d) (hd : d ≤ b) : Up a b q := by
  have h1 : Up a d q := h.lo.glue hu fun q1 q2 => h.loe (c - 1) c (by omega) (by omega) (Nat.le_refl _) (by omega)
  exact h1.glue h.hi fun q1 q2 => h.hie (d - 1) d (by omega) (by omega) (Nat.le_refl _) (by omega)
theorem Pred.far {a b c d : Nat} {l m : List α} (h : Pred a b l) (hs : Same c d l m) (hd : d + 1 ≤ a ∨ b ≤ c) : Pred a b m := h.imp id fun h k h1 h2 => by
  by_cases ha : a = 0
  · subst ha; rw [hs.out 0 (by omega), hs.out k (by omega)]; exact h k h1 h2
  · rw [hs.out (a - 1) (by omega), hs.out k (by omega)]; exact h k h1 h2
def S1 (s : ByteArray) : List Value := [.string s]
def sLt (a b : ByteArray) : Prop := a.toList < b.toList
def sLe (a b : ByteArray) : Prop := ¬ sLt b a
instance (a b : ByteArray) : Decidable (sLt a b) := inferInstanceAs (Decidable (_ < _))
instance (a b : ByteArray) : Decidable (sLe a b) := inferInstanceAs (Decidable (¬ _))
theorem zEM (a : ByteArray) : ¬ sLt a a := List.lt_irrefl _
theorem zB8 {a b c : ByteArray} (h : sLt a b) (k : sLt b c) : sLt a c := List.lt_trans h k
theorem zFr {a b : ByteArray} (h : sLt a b) : ¬ sLt b a := fun k => zEM _ (zB8 h k)
theorem zJF {a b : ByteArray} (h : a.toList = b.toList) : a = b := of_decide_eq_true (zCt a b ▸ (by rw [h]; simp))
theorem zHy {a b : ByteArray} (h : ¬ sLt a b) (k : ¬ sLt b a) : a = b := zJF (List.le_antisymm (List.not_lt.1 k) (List.not_lt.1 h))
theorem zJw {a b c : ByteArray} (h : ¬ sLt b a) (k : ¬ sLt c b) : ¬ sLt c a := fun q => by
  by_cases e : sLt a b
  · exact k (zB8 q e)
  · exact k (by rw [← zHy e h]; exact q)
instance : SO ByteArray := ⟨sLt, fun a b => inferInstance, zFr, zJw⟩
section
variable {P : Program} {n : Nat} {ops : Array Oper} {N : K} {f : Nat → Value} {rest : List Oper} {d : Nat} {t ty : TypeId} {p : String} {af : Array Edge} {x y : Operand} {A : World → Prop}
variable {s u : ByteArray} {t' : TypeId}
end
section
variable {P : Program} {n : Nat} {ops : Array Oper} {N : K} {f : Nat → Value} {rest : List Oper} {d : Nat} {t ty e : TypeId} {p : String} {af : Array Edge} {x y : Operand} {w0 : World} {S : List Nat} {L : List Res}
end
open Go
section
variable {P : Program} {n : Nat} {ops : Array Oper} {N R : K} {X : List (Nat × K)} {f : Nat → Value} {A : World → Prop} {rest : List Oper} {w0 : World} {S : List Nat} {L : List Res}
variable {d : Nat} {ty : TypeId} {p : String} {af : Array Edge} {x y : Operand} {t e : TypeId}
def zKt (P : Program) (t : TypeId) : Option (List Value × Nat) :=
  match P.underlying t, (P.info? t).bind (·.zero) with
  | some (.array _ e), some z => (P.info? e).map fun i => (z.cells.toList, i.size)
  | _, _ => none
theorem v_bldA {z : List Value} {sz : Nat} {parts : List (Nat × Operand)} {cs : List Value} (hs : zKt P t = some (z, sz)) (hf : jH (fun i => some (i * sz, sz)) z (parts.map fun q => (q.1, ev f q.2)) = some cs) : RV P f ⟨some d, .build t parts.toArray, ty, p, af, none⟩ A (.agg cs.toArray) :=
  fun w _ => by
    unfold zKt at hs
    split at hs
    · rename_i m e z0 hu hz
      simp only [Option.map_eq_some_iff, Prod.mk.injEq] at hs
      obtain ⟨i, hi, rfl, rfl⟩ := hs
      simp only [Option.bind_eq_some_iff] at hz
      obtain ⟨i0, hi0, hz0⟩ := hz
      have h2 := zAF _ _ _ _ hf
      simp only [Array.toArray_toList] at h2
      simp [execOp, Instr.build, zeroValue, typeInfo, sizeOf, hi0, hz0, hi, yF hu, h2]
    · cases hs
def zJq (P : Program) (t : TypeId) (i : Nat) : Option Nat :=
  match P.underlying t with
  | some (.struct fs) => (fs[i]?).bind fun f => if one P f.type then some f.offset else none
  | _ => none
theorem zJo {o i : Nat} {cs : Array Value} {v : Value} (hx : ev f x = .agg cs) (ho : zJq P t i = some o) (hv : cs[o]? = some v) : RV P f ⟨some d, .field t x i, ty, p, af, none⟩ A v :=
  fun w _ => by
    unfold zJq at ho
    split at ho
    · rename_i fs hfs
      simp only [Option.bind_eq_some_iff] at ho
      obtain ⟨fl, hfl, ho⟩ := ho
      split at ho
      · rename_i h1
        cases ho
        obtain ⟨h2, i0, hi0, hs0⟩ := zDY h1
        simp [execOp, hx, Instr.field, yF hfs, hfl, asAgg, part, h2, sizeOf, typeInfo, hi0, hs0, hv]
      · cases ho
    · cases ho
theorem zEV {o i : Nat} {cs : Array Value} {v : Value} (hx : ev f x = .agg cs) (ho : zJq P t i = some o) (hv : cs[o]? = some v) (hd : Nat.blt d n = true) (k : CL P n ops rest N (upd f d v) A) : CL P n ops (⟨some d, .field t x i, ty, p, af, none⟩ :: rest) N f A := yN hd (zJo hx ho hv) k
theorem zKS {fn : Func} {R : Value → World → Prop} {t u u2 u3 : Tmp} {T : TypeId} {b : Nat} {cs : List Value} {v v2 v3 : Value} (hr : fn.results = #[.cell t T, .tmp u, .tmp u2, .tmp u3]) (hv : f t = .pointer (some ⟨b, 0, none⟩)) (hv' : f u = v) (hv2 : f u2 = v2) (hv3 : f u3 = v3) (ht : kx P T = some cs.length) (hc : ∀ w, A w → ∀ i u, cs[i]? = some u → w.cell? ⟨b, 0 + i, none⟩ = some u)
    (h : ∀ w, A w → R (.tuple #[.agg cs.toArray, v, v2, v3]) w) : ∀ w, A w → zA8 P fn n R f w :=
  fun w hw => ⟨_, fun a ha => by
    have := xG (P := P) ht (hc w hw)
    simp [results, hr, ha.get, hv, hv', hv2, hv3, asAddr, this], h w hw⟩
end
end Go.Sc
