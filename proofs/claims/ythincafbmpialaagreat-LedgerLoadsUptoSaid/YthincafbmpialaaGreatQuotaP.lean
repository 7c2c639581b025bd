import Derived.Test.YthincafbmpialaaGreatFwO
set_option linter.unusedVariables false
set_option linter.unusedSectionVars false
set_option linter.unusedSimpArgs false
namespace Go.Sc
section
variable {κ α : Type} [DecidableEq κ]
def KNd (l : List (κ × α)) : Prop := (l.map (·.1)).Nodup
theorem KNd.cons {p : κ × α} {l : List (κ × α)} : KNd (p :: l) ↔ (∀ q ∈ l, q.1 ≠ p.1) ∧ KNd l := by
  unfold KNd
  rw [List.map_cons, List.nodup_cons]
  refine and_congr ⟨fun h q hq e => h (e ▸ List.mem_map_of_mem hq), fun h e => ?_⟩ Iff.rfl
  obtain ⟨q, hq, e⟩ := List.mem_map.1 e
  exact h q hq e
theorem KNd.perm {l m : List (κ × α)} (h : KNd l) (hp : l.Perm m) : KNd m := (hp.map _).nodup_iff.1 h
theorem KNd.sub {l m : List (κ × α)} (h : KNd l) (hs : m.Sublist l) : KNd m := h.sublist (hs.map _)
theorem kG {k : κ} : ∀ {l : List (κ × α)}, zu k l = none ↔ ∀ p ∈ l, p.1 ≠ k
  | [] => by simp [zu]
  | (x, u) :: r => by
    have ih := kG (k := k) (l := r)
    unfold zu
    by_cases h : k = x
    · simp only [h, if_true, List.mem_cons]
      refine ⟨fun q => (by simp at q), fun q => absurd rfl (q (x, u) (.inl rfl))⟩
    · rw [if_neg h, ih]
      refine ⟨fun q p hp => ?_, fun q p hp => q p (List.mem_cons_of_mem _ hp)⟩
      rcases List.mem_cons.1 hp with rfl | hp
      · exact fun e => h e.symm
      · exact q p hp
theorem zAF {k : κ} {v : α} : ∀ {l : List (κ × α)}, zu k l = some v → (k, v) ∈ l
  | [], h => by simp [zu] at h
  | (x, u) :: r, h => by
    unfold zu at h
    split at h
    · rename_i e; simp at h; subst h e; exact List.mem_cons_self ..
    · exact List.mem_cons_of_mem _ (zAF h)
theorem js {k : κ} {v : α} : ∀ {l : List (κ × α)}, KNd l → (k, v) ∈ l → zu k l = some v
  | [], _, h => by simp at h
  | (x, u) :: r, hn, h => by
    have hn := KNd.cons.1 hn
    unfold zu
    rcases List.mem_cons.1 h with e | h
    · simp only [Prod.mk.injEq] at e; rw [if_pos e.1, e.2]
    · rw [if_neg (fun e => hn.1 _ h e)]; exact js hn.2 h
theorem kU {k : κ} {l m : List (κ × α)} (hn : KNd l) (hp : l.Perm m) : zu k l = zu k m := by
  cases h : zu k l with
  | none =>
    symm; rw [kG] at h ⊢
    exact fun p q => h p (hp.mem_iff.2 q)
  | some v => exact (js (hn.perm hp) (hp.mem_iff.1 (zAF h))).symm
theorem kZ {k : κ} : ∀ {l : List (κ × α)}, KNd l → kp k l = l.filter fun p => decide (p.1 ≠ k)
  | [], _ => rfl
  | (x, u) :: r, hn => by
    have hn := KNd.cons.1 hn
    unfold kp
    by_cases h : k = x
    · subst h
      rw [if_pos rfl, List.filter_cons_of_neg (by simp)]
      exact (List.filter_eq_self.2 fun p hp => by simpa using hn.1 p hp).symm
    · rw [if_neg h, List.filter_cons_of_pos (by simpa using fun e : x = k => h e.symm), kZ hn.2]
theorem kq {k : κ} {v : α} : ∀ {l : List (κ × α)}, KNd l → (xJ k v l).Perm ((k, v) :: l.filter fun p => decide (p.1 ≠ k))
  | [], _ => .refl _
  | (x, u) :: r, hn => by
    have hn := KNd.cons.1 hn
    unfold xJ
    by_cases h : k = x
    · subst h
      rw [if_pos rfl, List.filter_cons_of_neg (by simp), List.filter_eq_self.2 fun p hp => by simpa using hn.1 p hp]
    · rw [if_neg h, List.filter_cons_of_pos (by simpa using fun e : x = k => h e.symm)]
      exact ((kq hn.2).cons _).trans (.swap ..)
theorem zAO {k : κ} {v : α} : ∀ {l : List (κ × α)}, zu k l = none → xJ k v l = l ++ [(k, v)]
  | [], _ => rfl
  | (x, u) :: r, h => by
    unfold zu at h
    split at h
    · simp at h
    · rename_i e; unfold xJ; rw [if_neg e, zAO h]; rfl
theorem KNd.put {k : κ} {v : α} {l : List (κ × α)} (hn : KNd l) : KNd (xJ k v l) := by
  refine KNd.perm ?_ (kq hn).symm
  rw [KNd.cons]
  exact ⟨fun q hq => by have := (List.mem_filter.1 hq).2; simpa using this, hn.sub List.filter_sublist⟩
end
structure LeaD where
  id : Nat
  session : Nat
  key : ByteArray
  amount : Int
  until_ : Int
  deriving DecidableEq
structure BudD where
  key : ByteArray
  amount : Int
  deriving DecidableEq
def LeaD.cells (x : LeaD) : List Value := [.int .u64 x.id, .int .u64 x.session, .string x.key, .int .i64 x.amount, .int .i64 x.until_]
def BudD.cells (x : BudD) : List Value := [.string x.key, .int .i64 x.amount]
def LeaD.zero : LeaD := ⟨0, 0, ⟨#[]⟩, 0, 0⟩
instance : Inhabited LeaD := ⟨LeaD.zero⟩
instance : Inhabited BudD := ⟨⟨⟨#[]⟩, 0⟩⟩
def KB (bs : List BudD) : List (ByteArray × Int) := bs.map fun b => (b.key, b.amount)
def KL (ls : List LeaD) : List (Nat × LeaD) := ls.map fun l => (l.id, l)
theorem zLJ (ls : List LeaD) : (KL ls).length = ls.length := by simp [KL]
theorem zLO (bs : List BudD) : (KB bs).length = bs.length := by simp [KB]
theorem zGi (p : LeaD → Bool) (ls : List LeaD) : KL (ls.filter p) = (KL ls).filter fun q => p q.2 := by
  unfold KL; rw [List.filter_map]; rfl
theorem zH6 (ls : List LeaD) : (KL ls).map (·.2) = ls := by
  unfold KL; rw [List.map_map]; exact List.map_id ls
theorem zNC {k : ByteArray} : k ≠ (⟨#[]⟩ : ByteArray) ↔ 1 ≤ k.size := by
  obtain ⟨d⟩ := k
  show _ ↔ 1 ≤ d.size
  constructor
  · intro h
    rcases Nat.eq_zero_or_pos d.size with q | q
    · exact absurd (by rw [Array.eq_empty_of_size_eq_zero q]) h
    · exact q
  · intro h e
    have : d = #[] := congrArg ByteArray.data e
    rw [this] at h; simp at h
def ym (k : ByteArray) : List LeaD → Int
  | [] => 0
  | l :: r => (if l.key = k then l.amount else 0) + ym k r
theorem ku (k : ByteArray) (l m : List LeaD) : ym k (l ++ m) = ym k l + ym k m := by
  induction l with
  | nil => simp [ym]
  | cons a l ih => simp only [List.cons_append, ym, ih]; omega
theorem zF7 {k : ByteArray} {l m : List LeaD} (h : l.Perm m) : ym k l = ym k m := by
  induction h with
  | nil => rfl
  | cons a _ ih => simp only [ym, ih]
  | swap a b l => simp only [ym]; omega
  | trans _ _ h1 h2 => rw [h1, h2]
def Pos (l : List LeaD) : Prop := ∀ x ∈ l, 1 ≤ x.amount
theorem zBN {k : ByteArray} : ∀ {l : List LeaD}, Pos l → 0 ≤ ym k l
  | [], _ => Int.le_refl _
  | a :: l, h => by
    have h1 := zBN (k := k) (l := l) fun x hx => h x (List.mem_cons_of_mem _ hx)
    have h2 := h a (List.mem_cons_self ..)
    simp only [ym]; split <;> omega
theorem jg {k : ByteArray} {l m : List LeaD} (h : m.Sublist l) (hp : Pos l) : ym k m ≤ ym k l := by
  induction h with
  | slnil => exact Int.le_refl _
  | cons a _ ih =>
    have := ih fun x hx => hp x (List.mem_cons_of_mem _ hx)
    have h2 := hp a (List.mem_cons_self ..)
    simp only [ym]; split <;> omega
  | cons_cons a _ ih =>
    have := ih fun x hx => hp x (List.mem_cons_of_mem _ hx)
    simp only [ym]; omega
def yh (k : ByteArray) (l : List LeaD) : Int := IntKind.i64.wrap (ym k l)
def ye (k : ByteArray) (kl : List (Nat × LeaD)) : Int := yh k (kl.map (·.2))
theorem zCB {k : ByteArray} {kl : List (Nat × LeaD)} {ls : List LeaD} (h : kl.Perm (KL ls)) : ye k kl = yh k ls := by
  unfold ye yh
  rw [zF7 (h.map _), zH6]
theorem zEu (a b : Int) : IntKind.i64.wrap (IntKind.i64.wrap a + b) = IntKind.i64.wrap (a + b) := by
  unfold IntKind.wrap
  simp [IntKind.bits, IntKind.signed]
  repeat' split
  all_goals omega
theorem zL0 {α : Type} {p q : Prop} [Decidable p] [Decidable q] {a b : α} (h : p ↔ q) : (if p then a else b) = if q then a else b := by
  by_cases c : p
  · rw [if_pos c, if_pos (h.1 c)]
  · rw [if_neg c, if_neg fun q => c (h.2 q)]
def yr (k : ByteArray) (bs : List BudD) : Int := (zu k (KB bs)).getD 0
theorem zBn (k : ByteArray) (l1 l2 : List (Nat × LeaD)) (i : Nat) (v : LeaD) : ym k ((l1 ++ (i, v) :: l2).map (·.2)) = ym k ((l1 ++ l2).map (·.2)) + (if v.key = k then v.amount else 0) := by
  simp only [List.map_append, List.map_cons, ku, ym]; omega
def yZ (k : ByteArray) : Prop := 1 ≤ k.size ∧ k.size ≤ 64
instance (k : ByteArray) : Decidable (yZ k) := inferInstanceAs (Decidable (_ ∧ _))
def y3 (n : Int) : Prop := 1 ≤ n ∧ n ≤ 1099511627776
instance (n : Int) : Decidable (y3 n) := inferInstanceAs (Decidable (_ ∧ _))
def xz (now n : Int) : Int := if n < 0 ∨ 1099511627776 < n then 1 else if 2305843009213693952 < now + n then 3 else 0
def kW (now n : Int) : Int := if xz now n = 0 then now + n else now
def kj (t : Int) (l : LeaD) : Bool := decide (l.until_ ≤ t)
def zIF (now n : Int) (ls : List LeaD) : List Nat := if xz now n = 0 then (ls.filter (kj (now + n))).map (·.id) else []
def jX (now n : Int) (ls : List LeaD) : List LeaD := if xz now n = 0 then ls.filter (fun l => !kj (now + n) l) else ls
def zCK (now n : Int) (kl : List (Nat × LeaD)) : List Nat := if xz now n = 0 then (kl.filter fun p => kj (now + n) p.2).map (·.1) else []
def kA (now n : Int) (kl : List (Nat × LeaD)) : List (Nat × LeaD) := if xz now n = 0 then kl.filter (fun p => !kj (now + n) p.2) else kl
def kh (k : ByteArray) (a : Int) (kb : List (ByteArray × Int)) : Int :=
  if ¬ yZ k ∨ a < 0 then 1 else if a ≠ 0 ∧ zu k kb = none ∧ 64 ≤ kb.length then 7 else 0
def zC3 (k : ByteArray) (a : Int) (kb : List (ByteArray × Int)) : List (ByteArray × Int) :=
  if kh k a kb = 0 then (if a = 0 then kp k kb else xJ k a kb) else kb
def zBI (k : ByteArray) (a : Int) (bs : List BudD) : Int :=
  if ¬ yZ k ∨ a < 0 then 1 else if yr k bs = 0 ∧ 0 < a ∧ 64 ≤ bs.length then 7 else 0
def xW (k : ByteArray) (a : Int) (q : Bool × List BudD) (b : BudD) : Bool × List BudD :=
  (q.1 || decide (sLe k b.key), (q.2 ++ if q.1 = false ∧ sLe k b.key then [⟨k, a⟩] else []) ++ if b.key ≠ k then [b] else [])
def zEN (k : ByteArray) (a : Int) (bs : List BudD) : List BudD :=
  let q := bs.foldl (xW k a) (decide (a = 0), [])
  q.2 ++ if q.1 = false then [⟨k, a⟩] else []
def zBv (k : ByteArray) (a : Int) (bs : List BudD) : List BudD := if zBI k a bs = 0 then zEN k a bs else bs
def y9 (s : Nat) (k : ByteArray) (a sp : Int) : Prop := s = 0 ∨ ¬ yZ k ∨ a < 1 ∨ ¬ y3 sp
instance (s : Nat) (k : ByteArray) (a sp : Int) : Decidable (y9 s k a sp) := inferInstanceAs (Decidable (_ ∨ _))
def kB (s : Nat) (k : ByteArray) (a sp : Int) (kb : List (ByteArray × Int)) (kl : List (Nat × LeaD)) : Int :=
  if y9 s k a sp then 1 else if zu k kb = none then 8 else if 9223372036854775807 < ye k kl + a then 3 else if (zu k kb).getD 0 < ye k kl + a then 16 else if 128 ≤ kl.length then 7 else 0
def kP (s : Nat) (k : ByteArray) (a sp : Int) (bs : List BudD) (ls : List LeaD) : Int :=
  if y9 s k a sp then 1 else if yr k bs = 0 then 8 else if 9223372036854775807 < yh k ls + a then 3 else if yr k bs < yh k ls + a then 16 else if 128 ≤ ls.length then 7 else 0
def jV (e : Int) (cnt s : Nat) (k : ByteArray) (a t : Int) : LeaD := if e = 0 then ⟨cnt + 1, s, k, a, t⟩ else LeaD.zero
def xa (l : LeaD) (t : Int) : LeaD := ⟨l.id, l.session, l.key, l.amount, max l.until_ t⟩
def zBY (now : Int) (kb : List (ByteArray × Int)) (kl : List (Nat × LeaD)) (s i : Nat) (sp : Int) (x : LeaD) (e : Int) (kl' : List (Nat × LeaD)) : Prop :=
  (¬ y3 sp ∧ e = 1 ∧ x = LeaD.zero ∧ kl' = kl) ∨
  (y3 sp ∧ (∀ l, zu i kl = some l → l.session ≠ s) ∧ e = 17 ∧ x = LeaD.zero ∧ kl' = kl) ∨
  (y3 sp ∧ ∃ l, zu i kl = some l ∧ l.session = s ∧ (((zu l.key kb).getD 0 < ye l.key kl ∧ e = 16 ∧ x = LeaD.zero ∧ kl' = kl) ∨ (ye l.key kl ≤ (zu l.key kb).getD 0 ∧ e = 0 ∧ x = xa l (now + sp) ∧ kl' = xJ i x kl)))
def zEH (now : Int) (bs : List BudD) (ls : List LeaD) (s i : Nat) (sp : Int) (x : LeaD) (e : Int) (ls' : List LeaD) : Prop :=
  (¬ y3 sp ∧ e = 1 ∧ x = LeaD.zero ∧ ls' = ls) ∨
  (y3 sp ∧ (∀ l ∈ ls, ¬ (l.id = i ∧ l.session = s)) ∧ e = 17 ∧ x = LeaD.zero ∧ ls' = ls) ∨
  (y3 sp ∧ ∃ k, k < ls.length ∧ (zI ls k).id = i ∧ (zI ls k).session = s ∧ ((yr (zI ls k).key bs < yh (zI ls k).key ls ∧ e = 16 ∧ x = LeaD.zero ∧ ls' = ls) ∨ (yh (zI ls k).key ls ≤ yr (zI ls k).key bs ∧ e = 0 ∧ x = xa (zI ls k) (now + sp) ∧ ls' = ls.set k x)))
def zE1 (kl : List (Nat × LeaD)) (s i : Nat) (x : LeaD) (e : Int) (kl' : List (Nat × LeaD)) : Prop :=
  ((∀ l, zu i kl = some l → l.session ≠ s) ∧ e = 17 ∧ x = LeaD.zero ∧ kl' = kl) ∨
  (∃ l, zu i kl = some l ∧ l.session = s ∧ e = 0 ∧ x = l ∧ kl' = kp i kl)
def zGI (ls : List LeaD) (s i : Nat) (x : LeaD) (e : Int) (ls' : List LeaD) : Prop :=
  ((∀ l ∈ ls, ¬ (l.id = i ∧ l.session = s)) ∧ e = 17 ∧ x = LeaD.zero ∧ ls' = ls) ∨
  (∃ k, k < ls.length ∧ (zI ls k).id = i ∧ (zI ls k).session = s ∧ e = 0 ∧ x = zI ls k ∧ ls' = ls.take k ++ ls.drop (k + 1))
theorem zDV {k : ByteArray} {a : Int} {kb : List (ByteArray × Int)} (h : ¬ yZ k ∨ a < 0) : kh k a kb = 1 := if_pos h
theorem zCg {k : ByteArray} {a : Int} {kb : List (ByteArray × Int)} (h : ¬ (¬ yZ k ∨ a < 0)) (h2 : ¬ a = 0) (h3 : (!(zu k kb).isSome) = true ∧ 64 ≤ ((kb.length : Nat) : Int)) : kh k a kb = 7 := by
  unfold kh
  rw [if_neg h, if_pos ⟨h2, by simpa using h3.1, by omega⟩]
theorem zDG {k : ByteArray} {a : Int} {kb : List (ByteArray × Int)} (h : ¬ (¬ yZ k ∨ a < 0)) (h2 : a = 0) : kh k a kb = 0 := by
  unfold kh
  rw [if_neg h, if_neg fun q => q.1 h2]
theorem zDa {k : ByteArray} {a : Int} {kb : List (ByteArray × Int)} (h : ¬ (¬ yZ k ∨ a < 0)) (h3 : ¬ ((!(zu k kb).isSome) = true ∧ 64 ≤ ((kb.length : Nat) : Int))) : kh k a kb = 0 := by
  unfold kh
  rw [if_neg h, if_neg fun q => h3 ⟨by simp [q.2.1], by omega⟩]
theorem zEv {k : ByteArray} {a e : Int} {kb : List (ByteArray × Int)} (h : kh k a kb = e) (he : e ≠ 0) : kb = zC3 k a kb := by
  unfold zC3; rw [if_neg (by rw [h]; exact he)]
theorem zIn {k : ByteArray} {a : Int} {kb : List (ByteArray × Int)} (h : kh k a kb = 0) (h2 : a = 0) : kp k kb = zC3 k a kb := by
  unfold zC3; rw [if_pos h, if_pos h2]
theorem zIG {k : ByteArray} {a : Int} {kb : List (ByteArray × Int)} (h : kh k a kb = 0) (h2 : ¬ a = 0) : xJ k a kb = zC3 k a kb := by
  unfold zC3; rw [if_pos h, if_neg h2]
def zGJ (e : Int) (x : LeaD) (kl : List (Nat × LeaD)) : List (Nat × LeaD) := if e = 0 then xJ x.id x kl else kl
def zCw (e : Int) (x : LeaD) (ls : List LeaD) : List LeaD := if e = 0 then ls ++ [x] else ls
def zCb (e : Int) (cnt : Nat) : Nat := if e = 0 then cnt + 1 else cnt
theorem larg {s : Nat} {k : ByteArray} {a sp : Int} : (((((s : Nat) : Int) = ((0 : Nat) : Int)) ∨ ¬ yZ k) ∨ a < 1) ∨ ¬ y3 sp ↔ y9 s k a sp := by
  unfold y9
  rw [or_assoc, or_assoc]
  refine or_congr ?_ Iff.rfl
  omega
section
variable {s : Nat} {k : ByteArray} {a sp : Int} {kb : List (ByteArray × Int)} {kl : List (Nat × LeaD)}
theorem zK7 (h : y9 s k a sp) : kB s k a sp kb kl = 1 := if_pos h
theorem zNL (h : ¬ y9 s k a sp) (h2 : (!(zu k kb).isSome) = true) : kB s k a sp kb kl = 8 := by
  unfold kB; rw [if_neg h, if_pos (by simpa using h2)]
theorem zB8 {α : Type} {o : Option α} (h : ¬ (!o.isSome) = true) : ¬ o = none := by cases o <;> simp_all
theorem zND (h : ¬ y9 s k a sp) (h2 : ¬ (!(zu k kb).isSome) = true) (h3 : 9223372036854775807 < ye k kl + a) : kB s k a sp kb kl = 3 := by
  unfold kB; rw [if_neg h, if_neg (zB8 h2), if_pos h3]
theorem zMJ (h : ¬ y9 s k a sp) (h2 : ¬ (!(zu k kb).isSome) = true) (h3 : ¬ 9223372036854775807 < ye k kl + a) (h4 : (zu k kb).getD 0 < ye k kl + a) : kB s k a sp kb kl = 16 := by
  unfold kB; rw [if_neg h, if_neg (zB8 h2), if_neg h3, if_pos h4]
theorem zMZ (h : ¬ y9 s k a sp) (h2 : ¬ (!(zu k kb).isSome) = true) (h3 : ¬ 9223372036854775807 < ye k kl + a) (h4 : ¬ (zu k kb).getD 0 < ye k kl + a) (h5 : 128 ≤ ((kl.length : Nat) : Int)) : kB s k a sp kb kl = 7 := by
  unfold kB; rw [if_neg h, if_neg (zB8 h2), if_neg h3, if_neg h4, if_pos (by omega)]
theorem zNB (h : ¬ y9 s k a sp) (h2 : ¬ (!(zu k kb).isSome) = true) (h3 : ¬ 9223372036854775807 < ye k kl + a) (h4 : ¬ (zu k kb).getD 0 < ye k kl + a) (h5 : ¬ 128 ≤ ((kl.length : Nat) : Int)) : kB s k a sp kb kl = 0 := by
  unfold kB; rw [if_neg h, if_neg (zB8 h2), if_neg h3, if_neg h4, if_neg (by omega)]
theorem zId {n m e : Int} (h : (9223372036854775807 < zI [n, a] 0 + zI [n, a] 1 ∧ e = 3 ∧ m = 0) ∨ (zI [n, a] 0 + zI [n, a] 1 ≤ 9223372036854775807 ∧ e = 0 ∧ m = zI [n, a] 0 + zI [n, a] 1)) (hn : n = ye k kl) :
    (9223372036854775807 < ye k kl + a ∧ e = 3) ∨ (¬ 9223372036854775807 < ye k kl + a ∧ e = 0 ∧ m = ye k kl + a) := by
  rw [show zI [n, a] 0 = n from rfl, show zI [n, a] 1 = a from rfl, hn] at h
  omega
theorem zAE {m e : Int} (h : (9223372036854775807 < ye k kl + a ∧ e = 3) ∨ (¬ 9223372036854775807 < ye k kl + a ∧ e = 0 ∧ m = ye k kl + a)) (he : e ≠ 0) : 9223372036854775807 < ye k kl + a ∧ e = 3 := by
  rcases h with h | h
  · exact h
  · exact absurd h.2.1 he
theorem jb {m e : Int} (h : (9223372036854775807 < ye k kl + a ∧ e = 3) ∨ (¬ 9223372036854775807 < ye k kl + a ∧ e = 0 ∧ m = ye k kl + a)) (he : ¬ e ≠ 0) : ¬ 9223372036854775807 < ye k kl + a ∧ m = ye k kl + a := by
  rcases h with h | h
  · omega
  · exact ⟨h.1, h.2.2⟩
end
theorem zCk {a b n x n' e : Int} {k : Nat} (hk : k < 2) (hI : (k = 0 → n = 0) ∧ (k = 1 → n = a) ∧ (k = 2 → n = a + b)) (hx : (k = 0 → x = a) ∧ (k = 1 → x = b))
    (h : (9223372036854775807 < n + x ∧ e = 3 ∧ n' = 0) ∨ (n + x ≤ 9223372036854775807 ∧ e = 0 ∧ n' = n + x)) (ha : 0 ≤ a ∧ a ≤ 9223372036854775807) (hb : -9223372036854775808 ≤ b ∧ b ≤ 9223372036854775807) :
    (e ≠ 0 → 9223372036854775807 < a + b ∧ e = 3) ∧ (¬ e ≠ 0 → ((k + 1 = 0 → n' = 0) ∧ (k + 1 = 1 → n' = a) ∧ (k + 1 = 2 → n' = a + b)) ∧ ((k + 1 < 2 → 0 ≤ n') ∧ n' ≤ 9223372036854775807)) := by
  rcases (show k = 0 ∨ k = 1 by omega) with rfl | rfl <;> omega
def jj (t : Int) (kl : List (Nat × LeaD)) : List Nat := (kl.filter fun p => kj t p.2).map (·.1)
def PassI (t : Int) (kl todo kv : List (Nat × LeaD)) (g : List Nat) : Prop :=
  todo.Sublist kl ∧ kv = kl.filter (fun p => decide (p.1 ∉ g)) ∧ (g ++ jj t todo).Perm (jj t kl)
theorem PassI.start (t : Int) (kl : List (Nat × LeaD)) : PassI t kl kl kl [] :=
  ⟨List.Sublist.refl _, (List.filter_eq_self.2 fun _ _ => by simp).symm, .refl _⟩
theorem zA7 (t : Int) (l m : List (Nat × LeaD)) : jj t (l ++ m) = jj t l ++ jj t m := by unfold jj; rw [List.filter_append, List.map_append]
theorem zGc {α : Type} {l m : List α} {a : α} : (l ++ m).Sublist (l ++ a :: m) := List.Sublist.append_left (List.sublist_cons_self ..) _
theorem PassI.out {t : Int} {kl todo kv q1 q2 : List (Nat × LeaD)} {g : List Nat} {k : Nat} {v : LeaD} (h : PassI t kl todo kv g) (hn : KNd kl) (hq : todo = q1 ++ (k, v) :: q2) : ∀ q ∈ q1 ++ q2, q.1 ≠ k := by
  have hs := hn.sub h.1
  rw [hq] at hs
  have : KNd ((k, v) :: (q1 ++ q2)) := hs.perm List.perm_middle
  exact (KNd.cons.1 this).1
theorem PassI.yes {t : Int} {kl todo kv q1 q2 : List (Nat × LeaD)} {g : List Nat} {k : Nat} {v : LeaD} (h : PassI t kl todo kv g) (hn : KNd kl) (hq : todo = q1 ++ (k, v) :: q2) (hd : v.until_ ≤ t) : PassI t kl (q1 ++ q2) (kp k kv) (g ++ [k]) := by
  refine ⟨(hq ▸ zGc : (q1 ++ q2).Sublist todo).trans h.1, ?_, ?_⟩
  · have hkv : KNd kv := by rw [h.2.1]; exact hn.sub List.filter_sublist
    rw [kZ hkv, h.2.1, List.filter_filter]
    congr 1
    funext p
    simp only [List.mem_append, List.mem_singleton, not_or, Bool.decide_and, ne_eq]
    rw [Bool.and_comm]
  · refine List.Perm.trans ?_ h.2.2
    rw [hq, zA7, zA7, List.append_assoc]
    refine List.Perm.append_left _ ?_
    have : jj t ((k, v) :: q2) = k :: jj t q2 := by unfold jj; rw [List.filter_cons_of_pos (by simpa [kj] using hd)]; rfl
    rw [this]
    exact (List.perm_middle (l₁ := jj t q1) (l₂ := jj t q2) (a := k)).symm
theorem PassI.no {t : Int} {kl todo kv q1 q2 : List (Nat × LeaD)} {g : List Nat} {k : Nat} {v : LeaD} (h : PassI t kl todo kv g) (hq : todo = q1 ++ (k, v) :: q2) (hd : ¬ v.until_ ≤ t) : PassI t kl (q1 ++ q2) kv g := by
  refine ⟨(hq ▸ zGc : (q1 ++ q2).Sublist todo).trans h.1, h.2.1, ?_⟩
  refine List.Perm.trans (.of_eq ?_) h.2.2
  rw [hq, zA7, zA7]
  have : jj t ((k, v) :: q2) = jj t q2 := by unfold jj; rw [List.filter_cons_of_neg (by simpa [kj] using hd)]
  rw [this]
theorem PassI.len {t : Int} {kl todo kv : List (Nat × LeaD)} {g : List Nat} (h : PassI t kl todo kv g) : g.length ≤ kl.length := by
  have := h.2.2.length_eq
  have h2 : (jj t kl).length ≤ kl.length := by unfold jj; rw [List.length_map]; exact List.length_filter_le _ _
  rw [List.length_append] at this; omega
theorem zAH {now n : Int} (h : ¬ (n < 0 ∨ 1099511627776 < n)) (h2 : ¬ 2305843009213693952 - n < now) : xz now n = 0 := by unfold xz; rw [if_neg h, if_neg (by omega)]
theorem zAC {now n : Int} (h : ¬ (n < 0 ∨ 1099511627776 < n)) (h2 : 2305843009213693952 - n < now) : xz now n = 3 := by unfold xz; rw [if_neg h, if_pos (by omega)]
theorem zAB {now n : Int} (h : n < 0 ∨ 1099511627776 < n) : xz now n = 1 := if_pos h
theorem kX {now n e : Int} {kl : List (Nat × LeaD)} (h : xz now n = e) (he : e ≠ 0) : e = xz now n ∧ now = kW now n ∧ kl = kA now n kl ∧ List.Perm [] (zCK now n kl) := by
  have h0 : ¬ xz now n = 0 := by rw [h]; exact he
  exact ⟨h.symm, (if_neg h0).symm, (if_neg h0).symm, by unfold zCK; rw [if_neg h0]⟩
theorem PassI.done {now n : Int} {kl todo kv : List (Nat × LeaD)} {g : List Nat} (h : PassI (now + n) kl todo kv g) (h0 : todo = []) (hn : KNd kl) (he : xz now n = 0) :
    0 = xz now n ∧ now + n = kW now n ∧ kv = kA now n kl ∧ g.Perm (zCK now n kl) := by
  have hg : g.Perm (jj (now + n) kl) := by have := h.2.2; rw [h0] at this; simpa [jj] using this
  refine ⟨he.symm, (if_pos he).symm, ?_, by unfold zCK; rw [if_pos he]; exact hg⟩
  unfold kA
  rw [if_pos he, h.2.1]
  refine List.filter_congr fun p hp => ?_
  have : p.1 ∈ g ↔ kj (now + n) p.2 = true := by
    rw [hg.mem_iff]; unfold jj
    constructor
    · intro q
      obtain ⟨q, hq, e⟩ := List.mem_map.1 q
      obtain ⟨h1, h2⟩ := List.mem_filter.1 hq
      have e1 := js hn (show (p.1, q.2) ∈ kl by rw [← e]; exact h1)
      have e2 := js hn (show (p.1, p.2) ∈ kl from hp)
      rw [e1] at e2
      rw [← Option.some.inj e2]; exact h2
    · exact fun q => List.mem_map.2 ⟨p, List.mem_filter.2 ⟨hp, q⟩, rfl⟩
  cases hd : kj (now + n) p.2 with
  | true => simp [this.2 hd]
  | false => simp; exact fun q => by have := this.1 q; rw [hd] at this; cases this
structure QOk (now : Int) (cnt : Nat) (bs : List BudD) (ls : List LeaD) : Prop where
  time : 0 ≤ now ∧ now ≤ 2305843009213693952
  bnd : (bs.map (·.key)).Nodup
  bpos : ∀ b ∈ bs, 1 ≤ b.amount ∧ b.amount ≤ 9223372036854775807 ∧ yZ b.key
  blen : bs.length ≤ 64
  lup : (ls.map (·.id)).Pairwise (· < ·)
  lok : ∀ l ∈ ls, 1 ≤ l.id ∧ l.id ≤ cnt ∧ 1 ≤ l.session ∧ 1 ≤ l.amount ∧ now < l.until_ ∧ l.until_ ≤ 4611686018427387904 ∧ yZ l.key
  llen : ls.length ≤ 128
  sums : ∀ k, ym k ls ≤ 9223372036854775807
structure QRel (kb : List (ByteArray × Int)) (kl : List (Nat × LeaD)) (bs : List BudD) (ls : List LeaD) : Prop where
  b : kb.Perm (KB bs)
  l : kl.Perm (KL ls)
section
variable {now : Int} {cnt : Nat} {bs : List BudD} {ls : List LeaD} {kb : List (ByteArray × Int)} {kl : List (Nat × LeaD)}
theorem QOk.pos (h : QOk now cnt bs ls) : Pos ls := fun x hx => (h.lok x hx).2.2.2.1
theorem QOk.lent (h : QOk now cnt bs ls) (k : ByteArray) : yh k ls = ym k ls := zr ⟨by have := zBN (k := k) h.pos; omega, h.sums k⟩
theorem QOk.lent0 (h : QOk now cnt bs ls) (k : ByteArray) : 0 ≤ yh k ls ∧ yh k ls ≤ 9223372036854775807 := by rw [h.lent]; exact ⟨zBN h.pos, h.sums k⟩
theorem zHY (h : (bs.map (·.key)).Nodup) : KNd (KB bs) := by unfold KNd KB; rw [List.map_map]; exact h
theorem zDc (h : (ls.map (·.id)).Pairwise (· < ·)) : KNd (KL ls) := by
  unfold KNd KL; rw [List.map_map]
  exact h.imp fun q => by omega
theorem QOk.knb (h : QOk now cnt bs ls) (r : QRel kb kl bs ls) : KNd kb := (zHY h.bnd).perm r.b.symm
theorem QOk.knl (h : QOk now cnt bs ls) (r : QRel kb kl bs ls) : KNd kl := (zDc h.lup).perm r.l.symm
theorem QRel.lent (r : QRel kb kl bs ls) (k : ByteArray) : ye k kl = yh k ls := zCB r.l
theorem QOk.bud (h : QOk now cnt bs ls) (r : QRel kb kl bs ls) (k : ByteArray) : (zu k kb).getD 0 = yr k bs := by
  unfold yr; rw [kU (h.knb r) r.b]
theorem zGH {k : ByteArray} {v : Int} (h : zu k (KB bs) = some v) : ∃ b ∈ bs, b.key = k ∧ b.amount = v := by
  have := zAF h
  unfold KB at this
  obtain ⟨b, hb, e⟩ := List.mem_map.1 this
  simp only [Prod.mk.injEq] at e
  exact ⟨b, hb, e.1, e.2⟩
theorem QOk.none (h : QOk now cnt bs ls) (r : QRel kb kl bs ls) (k : ByteArray) : zu k kb = none ↔ yr k bs = 0 := by
  unfold yr
  rw [kU (h.knb r) r.b]
  cases e : zu k (KB bs) with
  | none => simp
  | some v =>
    obtain ⟨b, hb, _, e⟩ := zGH e
    have := (h.bpos b hb).1
    simp; omega
theorem zJC (h : KNd (KL ls)) {i : Nat} {l : LeaD} : zu i (KL ls) = some l ↔ l ∈ ls ∧ l.id = i := by
  constructor
  · intro e
    have := zAF e
    unfold KL at this
    obtain ⟨x, hx, e⟩ := List.mem_map.1 this
    simp only [Prod.mk.injEq] at e
    exact ⟨e.2 ▸ hx, e.2 ▸ e.1⟩
  · rintro ⟨h1, h2⟩
    exact js h (List.mem_map.2 ⟨l, h1, by rw [h2]⟩)
theorem QOk.look (h : QOk now cnt bs ls) (r : QRel kb kl bs ls) {i : Nat} {l : LeaD} : zu i kl = some l ↔ l ∈ ls ∧ l.id = i := by
  rw [kU (h.knl r) r.l]; exact zJC (zDc h.lup)
theorem QOk.uniq (h : QOk now cnt bs ls) {x y : LeaD} (hx : x ∈ ls) (hy : y ∈ ls) (e : x.id = y.id) : x = y := by
  have h1 := (zJC (zDc h.lup) (i := x.id)).2 ⟨hx, rfl⟩
  have h2 := (zJC (zDc h.lup) (i := x.id)).2 ⟨hy, e.symm⟩
  exact Option.some.inj (h1.symm.trans h2)
theorem QRel.blen (r : QRel kb kl bs ls) : kb.length = bs.length := by rw [r.b.length_eq, zLO]
theorem QRel.llen (r : QRel kb kl bs ls) : kl.length = ls.length := by rw [r.l.length_eq, zLJ]
theorem QRel.pass (r : QRel kb kl bs ls) (n : Int) : QRel kb (kA now n kl) bs (jX now n ls) := by
  refine ⟨r.b, ?_⟩
  unfold kA jX
  split
  · rw [zGi]; exact r.l.filter _
  · exact r.l
theorem QOk.pass (h : QOk now cnt bs ls) (n : Int) (hn : xY n) : QOk (kW now n) cnt bs (jX now n ls) := by
  have h0 := h.time
  by_cases e : xz now n = 0
  · have e1 : 0 ≤ n ∧ now + n ≤ 2305843009213693952 := by
      unfold xz at e
      split at e
      · omega
      · split at e <;> omega
    unfold kW jX
    rw [if_pos e, if_pos e]
    refine ⟨by omega, h.bnd, h.bpos, h.blen, h.lup.sublist (List.filter_sublist.map _), fun l hl => ?_, Nat.le_trans (List.length_filter_le _ _) h.llen, fun k => Int.le_trans (jg List.filter_sublist h.pos) (h.sums k)⟩
    obtain ⟨h1, h2⟩ := List.mem_filter.1 hl
    have h3 := h.lok l h1
    have h4 : ¬ l.until_ ≤ now + n := by simpa [kj] using h2
    exact ⟨h3.1, h3.2.1, h3.2.2.1, h3.2.2.2.1, by omega, h3.2.2.2.2.2⟩
  · unfold kW jX; rw [if_neg e, if_neg e]; exact h
theorem zDB {k : ByteArray} {a : Int} : ∀ (l : List BudD) (p : Bool) (out : List BudD),
    ((l.foldl (xW k a) (p, out)).2.Perm (out ++ ((if p = false ∧ (l.foldl (xW k a) (p, out)).1 = true then [⟨k, a⟩] else []) ++ l.filter fun b => decide (b.key ≠ k)))) ∧ (p = true → (l.foldl (xW k a) (p, out)).1 = true)
  | [], p, out => by
    refine ⟨?_, id⟩
    have : ¬ (p = false ∧ p = true) := by rintro ⟨h, k⟩; rw [h] at k; cases k
    simp [this]
  | b :: l, p, out => by
    rw [List.foldl_cons]
    obtain ⟨h1, h2⟩ := zDB (k := k) (a := a) l (xW k a (p, out) b).1 (xW k a (p, out) b).2
    rw [show ((xW k a (p, out) b).fst, (xW k a (p, out) b).snd) = xW k a (p, out) b from rfl] at h1 h2
    generalize l.foldl (xW k a) (xW k a (p, out) b) = q at h1 h2 ⊢
    simp only [xW] at h1 h2
    refine ⟨h1.trans ?_, fun hp => h2 (by rw [hp]; rfl)⟩
    have e : (b :: l).filter (fun b => decide (b.key ≠ k)) = (if b.key ≠ k then [b] else []) ++ l.filter fun b => decide (b.key ≠ k) := by
      by_cases c : b.key = k
      · rw [List.filter_cons_of_neg (by simpa using c), if_neg (by simpa using c)]; rfl
      · rw [List.filter_cons_of_pos (by simpa using c), if_pos c]; rfl
    rw [e]
    generalize (if b.key ≠ k then [b] else []) = bb
    generalize l.filter (fun b => decide (b.key ≠ k)) = fl
    cases p with
    | true => simp [List.append_assoc]
    | false =>
      by_cases c : sLe k b.key
      · have hq := h2 (by simp [c])
        simp only [c, hq, and_self, if_true, decide_true, Bool.or_true, Bool.false_eq_true, if_false, false_and, List.append_assoc, List.nil_append, true_and, Bool.true_eq_false]
        exact .refl _
      · simp only [c, and_false, if_false, decide_false, Bool.or_false, List.append_nil, List.append_assoc, true_and]
        refine List.Perm.append_left _ ?_
        rw [← List.append_assoc, ← List.append_assoc]
        exact List.Perm.append_right _ List.perm_append_comm
theorem zDK (k : ByteArray) (a : Int) (bs : List BudD) : (zEN k a bs).Perm ((if a = 0 then [] else [⟨k, a⟩]) ++ bs.filter fun b => decide (b.key ≠ k)) := by
  unfold zEN
  obtain ⟨h1, h2⟩ := zDB (k := k) (a := a) bs (decide (a = 0)) []
  generalize bs.foldl (xW k a) (decide (a = 0), []) = q at h1 h2 ⊢
  show (q.2 ++ _).Perm _
  rw [List.nil_append] at h1
  by_cases c : a = 0
  · have hq := h2 (by simp [c])
    simp only [c, hq, decide_true, Bool.true_eq_false, if_true, if_false, false_and, List.append_nil, List.nil_append] at h1 ⊢
    simpa using h1
  · rw [if_neg c]
    simp only [c, decide_false, true_and] at h1
    cases hq : q.1 with
    | true => rw [hq, if_pos rfl] at h1; simpa using h1
    | false =>
      rw [hq, if_neg (by simp), List.nil_append] at h1
      rw [if_pos rfl]
      exact (List.Perm.append_right _ h1).trans List.perm_append_comm
theorem zHQ (k : ByteArray) (bs : List BudD) : KB (bs.filter fun b => decide (b.key ≠ k)) = (KB bs).filter fun p => decide (p.1 ≠ k) := by
  unfold KB; rw [List.filter_map]; rfl
theorem zGz (h : QOk now cnt bs ls) (r : QRel kb kl bs ls) (k : ByteArray) (a : Int) : (if a = 0 then kp k kb else xJ k a kb).Perm (KB (zEN k a bs)) := by
  have hk := h.knb r
  have h2 : (KB (zEN k a bs)).Perm ((if a = 0 then [] else [(k, a)]) ++ (KB bs).filter fun p => decide (p.1 ≠ k)) := by
    have := (zDK k a bs).map fun b => (b.key, b.amount)
    refine this.trans ?_
    rw [List.map_append, ← zHQ]
    split <;> exact .refl _
  refine List.Perm.trans ?_ h2.symm
  split
  · rw [kZ hk, List.nil_append]; exact r.b.filter _
  · exact (kq hk).trans ((r.b.filter _).cons _)
theorem zGB (h : QOk now cnt bs ls) (r : QRel kb kl bs ls) (k : ByteArray) (a : Int) : kh k a kb = zBI k a bs := by
  unfold kh zBI
  by_cases c : ¬ yZ k ∨ a < 0
  · rw [if_pos c, if_pos c]
  · rw [if_neg c, if_neg c]
    have := h.none r k
    rw [r.blen]
    exact zL0 ⟨fun q => ⟨this.1 q.2.1, by omega, q.2.2⟩, fun q => ⟨by omega, this.2 q.1, q.2.2⟩⟩
theorem QRel.set (h : QOk now cnt bs ls) (r : QRel kb kl bs ls) (k : ByteArray) (a : Int) : QRel (zC3 k a kb) kl (zBv k a bs) ls := by
  refine ⟨?_, r.l⟩
  unfold zC3 zBv
  rw [zGB h r]
  split
  · exact zGz h r k a
  · exact r.b
theorem zGp {k : ByteArray} (h : QOk now cnt bs ls) : yr k bs = 0 ↔ ∀ b ∈ bs, b.key ≠ k := by
  unfold yr
  cases e : zu k (KB bs) with
  | none =>
    rw [kG] at e
    refine ⟨fun _ b hb => e (b.key, b.amount) (List.mem_map.2 ⟨b, hb, rfl⟩), fun _ => rfl⟩
  | some v =>
    obtain ⟨b, hb, hk, e⟩ := zGH e
    have := (h.bpos b hb).1
    refine ⟨fun q => (by simp at q; omega), fun q => absurd hk (q b hb)⟩
theorem QOk.set (h : QOk now cnt bs ls) (k : ByteArray) (a : Int) (ha : xY a) : QOk now cnt (zBv k a bs) ls := by
  unfold zBv
  split
  · rename_i e
    have e1 : yZ k ∧ 0 ≤ a ∧ ¬ (yr k bs = 0 ∧ 0 < a ∧ 64 ≤ bs.length) := by
      unfold zBI at e
      split at e
      · omega
      · rename_i c
        split at e
        · omega
        · rename_i c2
          exact ⟨Decidable.by_contra fun q => c (.inl q), by omega, c2⟩
    have hp := zDK k a bs
    refine ⟨h.time, ?_, fun b hb => ?_, ?_, h.lup, h.lok, h.llen, h.sums⟩
    · refine (hp.map (·.key)).nodup_iff.2 ?_
      rw [List.map_append]
      have hf : ((bs.filter fun b => decide (b.key ≠ k)).map (·.key)).Nodup := h.bnd.sublist (List.filter_sublist.map _)
      split
      · exact hf
      · rw [List.map_cons, List.map_nil, List.singleton_append, List.nodup_cons]
        refine ⟨fun q => ?_, hf⟩
        obtain ⟨b, hb, e⟩ := List.mem_map.1 q
        have := (List.mem_filter.1 hb).2
        simp at this; exact this e
    · rcases List.mem_append.1 (hp.mem_iff.1 hb) with q | q
      · split at q
        · cases q
        · rw [List.mem_singleton.1 q]; exact ⟨by show 1 ≤ a; omega, ha.2, e1.1⟩
      · exact h.bpos b (List.mem_filter.1 q).1
    · rw [hp.length_eq, List.length_append]
      have h1 := h.blen
      have h2 := List.length_filter_le (fun b : BudD => decide (b.key ≠ k)) bs
      split
      · simp; simpa using Nat.le_trans h2 h1
      · by_cases c : yr k bs = 0
        · have : ¬ 64 ≤ bs.length := fun q => e1.2.2 ⟨c, by omega, q⟩
          simp only [List.length_cons, List.length_nil]; omega
        · have : (bs.filter fun b => decide (b.key ≠ k)).length < bs.length := by
            refine Nat.lt_of_le_of_ne h2 fun q => c ((zGp h).2 fun b hb => ?_)
            have := List.length_filter_eq_length_iff.1 q b hb
            simpa using this
          simp only [List.length_cons, List.length_nil]; omega
  · exact h
theorem zH3 (h : QOk now cnt bs ls) (r : QRel kb kl bs ls) (s : Nat) (k : ByteArray) (a sp : Int) : kB s k a sp kb kl = kP s k a sp bs ls := by
  unfold kB kP
  rw [h.bud r k, r.lent, r.llen]
  by_cases c : zu k kb = none
  · rw [if_pos c, if_pos ((h.none r k).1 c)]
  · rw [if_neg c, if_neg fun q => c ((h.none r k).2 q)]
theorem zE7 {s : Nat} {k : ByteArray} {a sp : Int} (e : kP s k a sp bs ls = 0) : (s ≠ 0 ∧ yZ k ∧ 1 ≤ a ∧ y3 sp) ∧ yr k bs ≠ 0 ∧ yh k ls + a ≤ 9223372036854775807 ∧ yh k ls + a ≤ yr k bs ∧ ls.length < 128 := by
  unfold kP at e
  split at e
  · omega
  · rename_i c1
    split at e
    · omega
    · split at e
      · omega
      · split at e
        · omega
        · split at e
          · omega
          · unfold y9 at c1
            exact ⟨⟨fun q => c1 (.inl q), Decidable.by_contra fun q => c1 (.inr (.inl q)), by omega, Decidable.by_contra fun q => c1 (.inr (.inr (.inr q)))⟩, by assumption, by omega, by omega, by omega⟩
theorem QRel.lend (h : QOk now cnt bs ls) (r : QRel kb kl bs ls) {e : Int} {x : LeaD} (hx : e = 0 → x.id = cnt + 1) : QRel kb (zGJ e x kl) bs (zCw e x ls) := by
  refine ⟨r.b, ?_⟩
  unfold zGJ zCw
  split
  · rename_i c
    rw [hx c, zAO]
    · unfold KL; rw [List.map_append, List.map_cons, List.map_nil, hx c]
      exact r.l.append_right _
    · rw [kG]
      intro p hp e
      obtain ⟨l, hl, rfl⟩ := List.mem_map.1 (r.l.mem_iff.1 hp)
      have := (h.lok l hl).2.1
      simp only at e; omega
  · exact r.l
theorem QOk.lend (h : QOk now cnt bs ls) {s : Nat} {k : ByteArray} {a sp : Int} {e : Int} (he : e = kP s k a sp bs ls) : QOk now (zCb e cnt) bs (zCw e (jV e cnt s k a (now + sp)) ls) := by
  unfold zCb zCw jV
  split
  · rename_i c
    obtain ⟨⟨h1, h2, h3, h4⟩, h5, h6, h7, h8⟩ := zE7 (he.symm.trans c)
    have ht := h.time
    unfold y3 at h4
    refine ⟨h.time, h.bnd, h.bpos, h.blen, ?_, fun l hl => ?_, by rw [List.length_append, List.length_singleton]; omega, fun k' => ?_⟩
    · rw [List.map_append, List.pairwise_append]
      refine ⟨h.lup, by simp, fun i hi j hj => ?_⟩
      obtain ⟨l, hl, rfl⟩ := List.mem_map.1 hi
      have := (h.lok l hl).2.1
      simp at hj; omega
    · rcases List.mem_append.1 hl with q | q
      · have := h.lok l q; exact ⟨this.1, by omega, this.2.2⟩
      · rw [List.mem_singleton.1 q]
        exact ⟨by show 1 ≤ cnt + 1; omega, Nat.le_refl _, by show 1 ≤ s; omega, h3, by show now < now + sp; omega, by show now + sp ≤ _; omega, h2⟩
    · rw [ku]
      have := h.sums k'
      simp only [ym]
      split
      · rename_i q; rw [← q, ← h.lent]; omega
      · omega
  · exact h
theorem zI6 {i : Nat} {x : LeaD} {l m : List (Nat × LeaD)} (hn : KNd l) (hp : l.Perm m) : (xJ i x l).Perm (xJ i x m) :=
  (kq hn).trans (((hp.filter _).cons _).trans (kq (hn.perm hp)).symm)
theorem zHy {i : Nat} {l m : List (Nat × LeaD)} (hn : KNd l) (hp : l.Perm m) : (kp i l).Perm (kp i m) := by
  rw [kZ hn, kZ (hn.perm hp)]; exact hp.filter _
theorem zID {i : Nat} {x : LeaD} (hx : x.id = i) : ∀ {ls : List LeaD} {k : Nat}, KNd (KL ls) → k < ls.length → (zI ls k).id = i → KL (ls.set k x) = xJ i x (KL ls)
  | [], k, _, h, _ => absurd h (Nat.not_lt_zero _)
  | l :: ls, 0, _, _, h => by
    have : l.id = i := h
    simp [KL, xJ, this, hx]
  | l :: ls, k + 1, hn, h, hk => by
    have hk' : (zI ls k).id = i := hk
    have hlt : k < ls.length := by simpa using h
    have hn' := KNd.cons.1 hn
    have ih := zID hx hn'.2 hlt hk'
    have hne : ¬ i = l.id := fun e => hn'.1 (i, zI ls k) (List.mem_map.2 ⟨zI ls k, yM hlt, by rw [hk']⟩) e
    show (l.id, l) :: KL (ls.set k x) = xJ i x ((l.id, l) :: KL ls)
    rw [ih]; simp only [xJ, if_neg hne]
theorem zHr {i : Nat} : ∀ {ls : List LeaD} {k : Nat}, KNd (KL ls) → k < ls.length → (zI ls k).id = i → KL (ls.take k ++ ls.drop (k + 1)) = kp i (KL ls)
  | [], k, _, h, _ => absurd h (Nat.not_lt_zero _)
  | l :: ls, 0, _, _, h => by
    have : l.id = i := h
    simp [KL, kp, this]
  | l :: ls, k + 1, hn, h, hk => by
    have hk' : (zI ls k).id = i := hk
    have hlt : k < ls.length := by simpa using h
    have hn' := KNd.cons.1 hn
    have ih := zHr hn'.2 hlt hk'
    have hne : ¬ i = l.id := fun e => hn'.1 (i, zI ls k) (List.mem_map.2 ⟨zI ls k, yM hlt, by rw [hk']⟩) e
    show (l.id, l) :: KL (ls.take k ++ ls.drop (k + 1)) = kp i ((l.id, l) :: KL ls)
    rw [ih]; simp only [kp, if_neg hne]
theorem QOk.at (h : QOk now cnt bs ls) (r : QRel kb kl bs ls) {i k : Nat} {l : LeaD} (hk : k < ls.length) (hi : (zI ls k).id = i) (hl : zu i kl = some l) : l = zI ls k := by
  have := (h.look r).2 ⟨yM hk, hi⟩
  rw [hl] at this; exact Option.some.inj this
theorem zDD {k' : ByteArray} {x : LeaD} : ∀ {ls : List LeaD} {k : Nat}, k < ls.length → x.key = (zI ls k).key → x.amount = (zI ls k).amount → ym k' (ls.set k x) = ym k' ls
  | [], k, h, _, _ => absurd h (Nat.not_lt_zero _)
  | l :: ls, 0, _, h1, h2 => by
    have e1 : x.key = l.key := h1
    have e2 : x.amount = l.amount := h2
    simp only [List.set_cons_zero, ym, e1, e2]
  | l :: ls, k + 1, h, h1, h2 => by
    have := zDD (k' := k') (ls := ls) (k := k) (by simpa using h) h1 h2
    simp only [List.set_cons_succ, ym, this]
theorem QOk.renew (h : QOk now cnt bs ls) {k : Nat} {sp : Int} (hk : k < ls.length) (hs : y3 sp) : QOk now cnt bs (ls.set k (xa (zI ls k) (now + sp))) := by
  have ht := h.time
  unfold y3 at hs
  refine ⟨h.time, h.bnd, h.bpos, h.blen, ?_, fun l hl => ?_, by rw [List.length_set]; exact h.llen, fun k' => by rw [zDD (x := xa (zI ls k) (now + sp)) hk rfl rfl]; exact h.sums k'⟩
  · rw [List.map_set]
    have : (ls.map (·.id)).set k (xa (zI ls k) (now + sp)).id = ls.map (·.id) := by
      apply List.ext_getElem?
      intro j
      rw [List.getElem?_set]
      split
      · rename_i e
        subst e
        rw [List.length_map, if_pos hk, List.getElem?_map, x5 hk]; rfl
      · rfl
    rw [this]; exact h.lup
  · rcases List.mem_or_eq_of_mem_set hl with q | rfl
    · exact h.lok l q
    · have := h.lok _ (yM hk)
      exact ⟨this.1, this.2.1, this.2.2.1, this.2.2.2.1, by show now < max _ _; omega, by show max _ _ ≤ _; omega, this.2.2.2.2.2.2⟩
theorem zGl (h : QOk now cnt bs ls) (r : QRel kb kl bs ls) {s i : Nat} {sp : Int} {x y : LeaD} {e f : Int} {kl' : List (Nat × LeaD)} {ls' : List LeaD} (h1 : zBY now kb kl s i sp x e kl') (h2 : zEH now bs ls s i sp y f ls') :
    x = y ∧ e = f ∧ QRel kb kl' bs ls' ∧ QOk now cnt bs ls' := by
  have cross : ∀ {l : LeaD}, zu i kl = some l → l.session = s → ¬ ∀ l ∈ ls, ¬ (l.id = i ∧ l.session = s) := fun hl hs q => by
    have := (h.look r).1 hl
    exact q _ this.1 ⟨this.2, hs⟩
  rcases h1 with ⟨a1, rfl, rfl, rfl⟩ | ⟨a1, a2, rfl, rfl, rfl⟩ | ⟨a1, l, a2, a3, a4⟩
  · rcases h2 with ⟨b1, rfl, rfl, rfl⟩ | ⟨b1, _⟩ | ⟨b1, _⟩
    · exact ⟨rfl, rfl, r, h⟩
    · exact absurd b1 a1
    · exact absurd b1 a1
  · rcases h2 with ⟨b1, _⟩ | ⟨b1, b2, rfl, rfl, rfl⟩ | ⟨b1, k, b2, b3, b4, _⟩
    · exact absurd a1 b1
    · exact ⟨rfl, rfl, r, h⟩
    · exact absurd b4 (a2 _ ((h.look r).2 ⟨yM b2, b3⟩))
  · rcases h2 with ⟨b1, _⟩ | ⟨b1, b2, _⟩ | ⟨b1, k, b2, b3, b4, b5⟩
    · exact absurd a1 b1
    · exact absurd b2 (cross a2 a3)
    · have e0 := h.at r b2 b3 a2
      subst e0
      rw [h.bud r, r.lent] at a4
      rcases a4 with ⟨c1, rfl, rfl, rfl⟩ | ⟨c1, rfl, rfl, rfl⟩
      · rcases b5 with ⟨_, rfl, rfl, rfl⟩ | ⟨d1, _⟩
        · exact ⟨rfl, rfl, r, h⟩
        · omega
      · rcases b5 with ⟨d1, _⟩ | ⟨_, rfl, rfl, rfl⟩
        · omega
        · refine ⟨rfl, rfl, ⟨r.b, ?_⟩, h.renew b2 b1⟩
          rw [zID (show (xa (zI ls k) (now + sp)).id = i from b3) (zDc h.lup) b2 b3]
          exact zI6 (h.knl r) r.l
theorem QOk.back (h : QOk now cnt bs ls) (k : Nat) : QOk now cnt bs (ls.take k ++ ls.drop (k + 1)) := by
  have hs : (ls.take k ++ ls.drop (k + 1)).Sublist ls := by
    rw [← List.eraseIdx_eq_take_drop_succ]; exact List.eraseIdx_sublist _ _
  exact ⟨h.time, h.bnd, h.bpos, h.blen, h.lup.sublist (hs.map _), fun l hl => h.lok l (hs.subset hl), Nat.le_trans hs.length_le h.llen, fun k' => Int.le_trans (jg hs h.pos) (h.sums k')⟩
theorem zI5 (h : QOk now cnt bs ls) (r : QRel kb kl bs ls) {s i : Nat} {x y : LeaD} {e f : Int} {kl' : List (Nat × LeaD)} {ls' : List LeaD} (h1 : zE1 kl s i x e kl') (h2 : zGI ls s i y f ls') :
    x = y ∧ e = f ∧ QRel kb kl' bs ls' ∧ QOk now cnt bs ls' := by
  rcases h1 with ⟨a2, rfl, rfl, rfl⟩ | ⟨l, a2, a3, rfl, rfl, rfl⟩
  · rcases h2 with ⟨b2, rfl, rfl, rfl⟩ | ⟨k, b2, b3, b4, _⟩
    · exact ⟨rfl, rfl, r, h⟩
    · exact absurd b4 (a2 _ ((h.look r).2 ⟨yM b2, b3⟩))
  · rcases h2 with ⟨b2, _⟩ | ⟨k, b2, b3, b4, rfl, rfl, rfl⟩
    · have := (h.look r).1 a2
      exact absurd ⟨this.2, a3⟩ (b2 _ this.1)
    · have e0 := h.at r b2 b3 a2
      refine ⟨e0, rfl, ⟨r.b, ?_⟩, h.back k⟩
      rw [zHr (zDc h.lup) b2 b3]
      exact zHy (h.knl r) r.l
theorem QOk.start : QOk 0 0 [] [] := ⟨by omega, by simp, by simp, by simp, by simp, by simp, by simp, by simp [ym]⟩
theorem QRel.start : QRel [] [] [] [] := ⟨.refl _, .refl _⟩
theorem QOk.more (h : QOk now cnt bs ls) {c : Nat} (hc : cnt ≤ c) : QOk now c bs ls := ⟨h.time, h.bnd, h.bpos, h.blen, h.lup, fun l hl => by have := h.lok l hl; exact ⟨this.1, by omega, this.2.2⟩, h.llen, h.sums⟩
end
def QSrt (bs : List BudD) : Prop := (bs.map (·.key)).Pairwise sLt
theorem QSrt.nd {bs : List BudD} (h : QSrt bs) : (bs.map (·.key)).Nodup := h.imp fun q e => by rw [e] at q; exact x8 _ q
theorem QSrt.at {bs : List BudD} (h : QSrt bs) {i : Nat} (hi : i < bs.length) {x : BudD} (hx : x ∈ bs.take i) : sLt x.key (zI bs i).key := by
  obtain ⟨j, hj, e⟩ := List.mem_iff_getElem.1 hx
  have hj' : j < i := by rw [List.length_take] at hj; omega
  have := List.pairwise_iff_getElem.1 h j i (by rw [List.length_map]; omega) (by rw [List.length_map]; exact hi) hj'
  rw [List.getElem_map, List.getElem_map] at this
  rw [List.getElem_take] at e
  have e2 := x0 (List.getElem?_eq_getElem hi)
  rw [e2, ← e]; exact this
def InsQ (k : ByteArray) (a : Int) (bs : List BudD) (i : Nat) (q : Bool × List BudD) : Prop :=
  (q.1 = false ∧ q.2 = bs.take i ∧ ∀ x ∈ bs.take i, sLt x.key k) ∨
  (q.1 = true ∧ q.2 = (bs.take i).filter (fun x => decide (sLt x.key k)) ++ ⟨k, a⟩ :: (bs.take i).filter (fun x => decide (sLt k x.key)) ∧ ∃ y ∈ bs.take i, sLe k y.key)
theorem zGK {l : List BudD} {k : ByteArray} (h : ∀ x ∈ l, sLt x.key k) : l.filter (fun x => decide (sLt x.key k)) = l ∧ l.filter (fun x => decide (sLt k x.key)) = [] :=
  ⟨List.filter_eq_self.2 fun x hx => by simpa using h x hx, List.filter_eq_nil_iff.2 fun x hx => by simpa using je (h x hx)⟩
theorem InsQ.all {k : ByteArray} {a : Int} {bs : List BudD} (h : QSrt bs) : ∀ i, i ≤ bs.length → InsQ k a bs i ((bs.take i).foldl (xW k a) (false, []))
  | 0, _ => .inl ⟨rfl, rfl, by simp⟩
  | i + 1, hi => by
    have ih := InsQ.all (k := k) (a := a) h i (by omega)
    have hi' : i < bs.length := by omega
    rw [yB hi', List.foldl_append]
    generalize (bs.take i).foldl (xW k a) (false, []) = q at ih ⊢
    show InsQ k a bs (i + 1) (xW k a q (zI bs i))
    unfold InsQ
    rw [yB hi']
    rcases ih with ⟨h1, h2, h3⟩ | ⟨h1, h2, y, hy, h3⟩
    · obtain ⟨f1, f2⟩ := zGK h3
      by_cases c : sLe k (zI bs i).key
      · right
        refine ⟨by simp [xW, c], ?_, zI bs i, by simp, c⟩
        have e : (xW k a q (zI bs i)).2 = (q.2 ++ [⟨k, a⟩]) ++ if (zI bs i).key ≠ k then [zI bs i] else [] := by simp only [xW, h1, c, and_self, if_true]
        rw [e, List.filter_append, List.filter_append, f1, f2, List.filter_cons_of_neg (by simp only [decide_eq_true_eq]; exact c), List.filter_nil, List.append_nil, List.nil_append, h2, List.append_assoc]
        congr 1
        by_cases d : (zI bs i).key ≠ k
        · rw [if_pos d, List.filter_cons_of_pos (by simpa using (sLe_iff.1 c).resolve_right fun q => d q.symm)]; rfl
        · rw [if_neg d, List.filter_cons_of_neg (by rw [Decidable.not_not.1 d]; simpa using x8 k)]; rfl
      · left
        have hlt : sLt (zI bs i).key k := Decidable.not_not.1 c
        have hne : (zI bs i).key ≠ k := fun e => by rw [e] at hlt; exact x8 _ hlt
        refine ⟨by simp [xW, h1, c], by simp [xW, h1, c, hne, h2], fun x hx => ?_⟩
        rcases List.mem_append.1 hx with q | q
        · exact h3 x q
        · rw [List.mem_singleton.1 q]; exact hlt
    · right
      have hgt : sLt k (zI bs i).key := by
        have := h.at hi' hy
        rcases sLe_iff.1 h3 with q | q
        · exact jd q this
        · rw [q]; exact this
      have hne : (zI bs i).key ≠ k := fun e => by rw [e] at hgt; exact x8 _ hgt
      refine ⟨by simp [xW, h1], ?_, y, List.mem_append_left _ hy, h3⟩
      have e : (xW k a q (zI bs i)).2 = q.2 ++ [zI bs i] := by simp [xW, h1, hne]
      rw [e, List.filter_append, List.filter_append, List.filter_cons_of_neg (by simpa using je hgt), List.filter_nil, List.append_nil, List.filter_cons_of_pos (by simpa using hgt), List.filter_nil, h2, List.append_assoc]
      rfl
theorem zDY (k : ByteArray) (a : Int) : ∀ (l : List BudD) (out : List BudD), l.foldl (xW k a) (true, out) = (true, out ++ l.filter fun b => decide (b.key ≠ k))
  | [], out => by simp
  | b :: l, out => by
    rw [List.foldl_cons]
    have e : xW k a (true, out) b = (true, out ++ if b.key ≠ k then [b] else []) := by simp [xW]
    rw [e, zDY k a l]
    by_cases c : b.key ≠ k
    · rw [if_pos c, List.filter_cons_of_pos (by simpa using c), List.append_assoc]; rfl
    · rw [if_neg c, List.filter_cons_of_neg (by simpa using c), List.append_nil]
theorem zJ3 {k : ByteArray} {a : Int} {bs : List BudD} (h : QSrt bs) : zEN k a bs = if a = 0 then bs.filter (fun b => decide (b.key ≠ k)) else bs.filter (fun x => decide (sLt x.key k)) ++ ⟨k, a⟩ :: bs.filter (fun x => decide (sLt k x.key)) := by
  unfold zEN
  by_cases c : a = 0
  · rw [if_pos c, decide_eq_true c, zDY]; simp
  · rw [if_neg c, decide_eq_false c]
    have := InsQ.all (k := k) (a := a) h bs.length (Nat.le_refl _)
    rw [List.take_of_length_le (Nat.le_refl _)] at this
    generalize bs.foldl (xW k a) (false, []) = q at this ⊢
    unfold InsQ at this
    rw [List.take_of_length_le (Nat.le_refl _)] at this
    rcases this with ⟨h1, h2, h3⟩ | ⟨h1, h2, _⟩
    · obtain ⟨f1, f2⟩ := zGK h3
      show q.2 ++ (if q.1 = false then _ else _) = _
      rw [f1, f2, h1, h2]; rfl
    · show q.2 ++ (if q.1 = false then _ else _) = _
      rw [h1, h2]; simp
theorem QSrt.set {bs : List BudD} (h : QSrt bs) (k : ByteArray) (a : Int) : QSrt (zBv k a bs) := by
  unfold zBv
  split
  · rw [zJ3 h]
    split
    · exact h.sublist (List.filter_sublist.map _)
    · unfold QSrt
      rw [List.map_append, List.map_cons, List.pairwise_append, List.pairwise_cons]
      refine ⟨h.sublist (List.filter_sublist.map _), ⟨fun a ha => ?_, h.sublist (List.filter_sublist.map _)⟩, fun a ha b hb => ?_⟩
      · obtain ⟨x, hx, rfl⟩ := List.mem_map.1 ha
        simpa using (List.mem_filter.1 hx).2
      · obtain ⟨x, hx, rfl⟩ := List.mem_map.1 ha
        have h1 : sLt x.key k := by simpa using (List.mem_filter.1 hx).2
        rcases List.mem_cons.1 hb with rfl | hb
        · exact h1
        · obtain ⟨y, hy, rfl⟩ := List.mem_map.1 hb
          exact jd h1 (by simpa using (List.mem_filter.1 hy).2)
  · exact h
theorem QSrt.start : QSrt [] := List.Pairwise.nil
section
variable {now : Int} {cnt : Nat} {bs : List BudD} {ls : List LeaD} {kb : List (ByteArray × Int)} {kl : List (Nat × LeaD)}
theorem zKB (h : QOk now cnt bs ls) (hs : QSrt bs) (r : QRel kb kl bs ls) {ks : List ByteArray} (h1 : ks.Perm (kb.map (·.1))) (h2 : ks.Pairwise fun x y => x3 x y) : ks.map (fun k => (⟨k, (zu k kb).getD 0⟩ : BudD)) = bs := by
  have e : ks = bs.map (·.key) := by
    have hp : ks.Perm (bs.map (·.key)) := by
      refine h1.trans ((r.b.map _).trans ?_)
      unfold KB; rw [List.map_map]; exact .refl _
    exact hp.eq_of_pairwise (fun a b _ _ h3 h4 => zDw h4 h3) h2 (hs.imp fun q => je q)
  rw [e, List.map_map]
  conv => rhs; rw [← List.map_id bs]
  refine List.map_congr_left fun x hx => ?_
  show (⟨x.key, (zu x.key kb).getD 0⟩ : BudD) = x
  have hg : zu x.key kb = some x.amount := by
    rw [kU (h.knb r) r.b]
    exact js (zHY h.bnd) (List.mem_map.2 ⟨x, hx, rfl⟩)
  rw [hg]; rfl
end
def zA9 (now : Int) (last : Nat) (x : LeaD) : Prop := 1 ≤ x.id ∧ x.id ≤ last ∧ 1 ≤ x.session ∧ yZ x.key ∧ 1 ≤ x.amount ∧ now < x.until_ ∧ x.until_ ≤ 4611686018427387904
instance (now : Int) (last : Nat) (x : LeaD) : Decidable (zA9 now last x) := inferInstanceAs (Decidable (_ ∧ _))
def BudsOk (bs : List BudD) : Prop := QSrt bs ∧ ∀ b ∈ bs, yZ b.key ∧ 1 ≤ b.amount
def LeasOk (now : Int) (last : Nat) (ls : List LeaD) : Prop := (ls.map (·.id)).Pairwise (· < ·) ∧ (∀ l ∈ ls, zA9 now last l) ∧ ∀ k, ym k ls ≤ 9223372036854775807
structure LoadOk (now : Int) (last : Nat) (bs : List BudD) (ls : List LeaD) : Prop where
  time : 0 ≤ now ∧ now ≤ 2305843009213693952
  blen : bs.length ≤ 64
  llen : ls.length ≤ 128
  buds : BudsOk bs
  leas : LeasOk now last ls
theorem BudsOk.nil : BudsOk [] := ⟨QSrt.start, by simp⟩
theorem LeasOk.nil (now : Int) (last : Nat) : LeasOk now last [] := ⟨by simp, by simp, by simp [ym]⟩
theorem LeasOk.pos {now : Int} {last : Nat} {ls : List LeaD} (h : LeasOk now last ls) : Pos ls := fun x hx => (h.2.1 x hx).2.2.2.2.1
theorem LoadOk.ok {now : Int} {last : Nat} {bs : List BudD} {ls : List LeaD} (h : LoadOk now last bs ls) (hi : ∀ b ∈ bs, xY b.amount) : QOk now last bs ls ∧ QSrt bs :=
  ⟨⟨h.time, h.buds.1.nd, fun b hb => ⟨(h.buds.2 b hb).2, (hi b hb).2, (h.buds.2 b hb).1⟩, h.blen, h.leas.1, fun l hl => by have := h.leas.2.1 l hl; exact ⟨this.1, this.2.1, this.2.2.1, this.2.2.2.2.1, this.2.2.2.2.2.1, this.2.2.2.2.2.2, this.2.2.2.1⟩, h.llen, h.leas.2.2⟩, h.buds.1⟩
section
variable {now : Int} {last : Nat} {bs : List BudD} {ls : List LeaD} {i : Nat}
theorem zCE {α : Type} [Inhabited α] {l : List α} {lt : α → α → Prop} (tr : ∀ {a b c}, lt a b → lt b c → lt a c) (hp : (l.take i).Pairwise lt) (hi : i < l.length) (h : 0 < i → lt (zI l (i - 1)) (zI l i)) : ∀ x ∈ l.take i, lt x (zI l i) := fun x hx => by
  obtain ⟨j, hj, e⟩ := List.mem_iff_getElem.1 hx
  have hji : j < i := by rw [List.length_take] at hj; omega
  have h1 := h (by omega)
  have hm : zI l (i - 1) = (l.take i)[i - 1]'(by rw [List.length_take]; omega) := by
    rw [List.getElem_take]; exact x0 (List.getElem?_eq_getElem (by omega))
  by_cases c : j = i - 1
  · subst c; rw [← e, ← hm]; exact h1
  · have := List.pairwise_iff_getElem.1 hp j (i - 1) hj (by rw [List.length_take]; omega) (by omega)
    rw [e, ← hm] at this
    exact tr this h1
theorem zJB (hB : BudsOk (bs.take i)) (hi : i < bs.length) (h : 0 < i → ¬ sLe (zI bs i).key (zI bs (i - 1)).key) : ∀ x ∈ bs.take i, sLt x.key (zI bs i).key :=
  zCE (lt := fun a b : BudD => sLt a.key b.key) jd (List.pairwise_map.1 hB.1) hi fun q => Decidable.not_not.1 (h q)
theorem zE9 (hB : BudsOk (bs.take i)) (hi : i < bs.length) (h1 : yZ (zI bs i).key) (h2 : 1 ≤ (zI bs i).amount) (h : 0 < i → ¬ sLe (zI bs i).key (zI bs (i - 1)).key) : BudsOk (bs.take (i + 1)) := by
  have hlt := zJB hB hi h
  rw [yB hi]
  refine ⟨?_, fun x hx => ?_⟩
  · unfold QSrt
    rw [List.map_append, List.pairwise_append]
    refine ⟨hB.1, by simp, fun a ha b hb => ?_⟩
    obtain ⟨x, hx, rfl⟩ := List.mem_map.1 ha
    simp at hb; rw [hb]; exact hlt x hx
  · rcases List.mem_append.1 hx with q | q
    · exact hB.2 x q
    · rw [List.mem_singleton.1 q]; exact ⟨h1, h2⟩
theorem zGT (hB : BudsOk (bs.take i)) (hi : i < bs.length) (h : 0 < i → ¬ sLe (zI bs i).key (zI bs (i - 1)).key) : xJ (zI bs i).key (zI bs i).amount (KB (bs.take i)) = KB (bs.take (i + 1)) := by
  have hlt := zJB hB hi h
  rw [zAO, yB hi]
  · unfold KB; rw [List.map_append]; rfl
  · rw [kG]
    intro p hp e
    obtain ⟨x, hx, rfl⟩ := List.mem_map.1 hp
    have := hlt x hx
    rw [show x.key = (zI bs i).key from e] at this
    exact x8 _ this
theorem zEG (hB : BudsOk bs) (hi : i < bs.length) (h : ¬ yZ (zI bs i).key ∨ (zI bs i).amount < 1 ∨ (0 < i ∧ sLe (zI bs i).key (zI bs (i - 1)).key)) : False := by
  have hm := hB.2 _ (yM hi)
  rcases h with h | h | h
  · exact h hm.1
  · omega
  · have e1 := x0 (List.getElem?_eq_getElem hi)
    have e2 := x0 (List.getElem?_eq_getElem (show i - 1 < bs.length by omega))
    have := List.pairwise_iff_getElem.1 (List.pairwise_map.1 hB.1) (i - 1) i (by omega) hi (by omega)
    rw [← e1, ← e2] at this
    exact h.2 this
theorem zI3 (hL : LeasOk now last (ls.take i)) (hi : i < ls.length) (h : 0 < i → (zI ls (i - 1)).id < (zI ls i).id) : ∀ x ∈ ls.take i, x.id < (zI ls i).id :=
  zCE (lt := fun a b : LeaD => a.id < b.id) (fun h k => Nat.lt_trans h k) (List.pairwise_map.1 hL.1) hi h
theorem zEt (hL : LeasOk now last (ls.take i)) (hi : i < ls.length) (h1 : zA9 now last (zI ls i)) (h2 : ym (zI ls i).key (ls.take i) + (zI ls i).amount ≤ 9223372036854775807) (h : 0 < i → (zI ls (i - 1)).id < (zI ls i).id) : LeasOk now last (ls.take (i + 1)) := by
  have hlt := zI3 hL hi h
  rw [yB hi]
  refine ⟨?_, fun x hx => ?_, fun k => ?_⟩
  · rw [List.map_append, List.pairwise_append]
    refine ⟨hL.1, by simp, fun a ha b hb => ?_⟩
    obtain ⟨x, hx, rfl⟩ := List.mem_map.1 ha
    simp at hb; rw [hb]; exact hlt x hx
  · rcases List.mem_append.1 hx with q | q
    · exact hL.2.1 x q
    · rw [List.mem_singleton.1 q]; exact h1
  · rw [ku]
    have := hL.2.2 k
    simp only [ym]
    split
    · rename_i q; rw [← q]; omega
    · omega
theorem zGU (hL : LeasOk now last (ls.take i)) (hi : i < ls.length) (h : 0 < i → (zI ls (i - 1)).id < (zI ls i).id) : xJ (zI ls i).id (zI ls i) (KL (ls.take i)) = KL (ls.take (i + 1)) := by
  have hlt := zI3 hL hi h
  rw [zAO, yB hi]
  · unfold KL; rw [List.map_append]; rfl
  · rw [kG]
    intro p hp e
    obtain ⟨x, hx, rfl⟩ := List.mem_map.1 hp
    have := hlt x hx
    simp only at e; omega
theorem zDq (hL : LeasOk now last ls) (hi : i < ls.length) (h : 9223372036854775807 < ym (zI ls i).key (ls.take i) + (zI ls i).amount ∨ ¬ zA9 now last (zI ls i) ∨ (0 < i ∧ (zI ls i).id ≤ (zI ls (i - 1)).id)) : False := by
  rcases h with h | h | h
  · have h1 := hL.2.2 (zI ls i).key
    have h2 := jg (k := (zI ls i).key) (List.take_sublist (i + 1) ls) hL.pos
    rw [yB hi, ku] at h2
    simp only [ym, if_true] at h2
    omega
  · exact h (hL.2.1 _ (yM hi))
  · have e1 := x0 (List.getElem?_eq_getElem hi)
    have e2 := x0 (List.getElem?_eq_getElem (show i - 1 < ls.length by omega))
    have := List.pairwise_iff_getElem.1 (List.pairwise_map.1 hL.1) (i - 1) i (by omega) hi (by omega)
    rw [← e1, ← e2] at this
    omega
theorem zAR (hL : LeasOk now last (ls.take i)) (k : ByteArray) : ye k (KL (ls.take i)) = ym k (ls.take i) ∧ 0 ≤ ym k (ls.take i) ∧ ym k (ls.take i) ≤ 9223372036854775807 := by
  have h0 := zBN (k := k) hL.pos
  have h1 := hL.2.2 k
  refine ⟨?_, h0, h1⟩
  rw [zCB (.refl _)]
  exact zr ⟨by omega, h1⟩
end
end Go.Sc
