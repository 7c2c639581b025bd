import Derived.Test.YtcdiehplbmkmeaaGreatFwO
set_option linter.unusedVariables false
set_option linter.unusedSectionVars false
set_option linter.unusedSimpArgs false
namespace Go.Sc
section
variable {κ α : Type} [DecidableEq κ]
def KNd (l : List (κ × α)) : Prop := (l.map (·.1)).Nodup
theorem KNd.cons {p : κ × α} {l : List (κ × α)} : KNd (p :: l) ↔ (∀ q ∈ l, q.1 ≠ p.1) ∧ KNd l := by
  unfold KNd
  rw [List.map_cons, List.nodup_cons]
  refine and_congr ⟨fun h q hq e => h (e ▸ List.mem_map_of_mem hq), fun h e => ?_⟩ Iff.rfl
  obtain ⟨q, hq, e⟩ := List.mem_map.1 e
  exact h q hq e
theorem KNd.perm {l m : List (κ × α)} (h : KNd l) (hp : l.Perm m) : KNd m := (hp.map _).nodup_iff.1 h
theorem KNd.sub {l m : List (κ × α)} (h : KNd l) (hs : m.Sublist l) : KNd m := h.sublist (hs.map _)
theorem kj {k : κ} : ∀ {l : List (κ × α)}, zf k l = none ↔ ∀ p ∈ l, p.1 ≠ k
  | [] => by simp [zf]
  | (x, u) :: r => by
    have ih := kj (k := k) (l := r)
    unfold zf
    by_cases h : k = x
    · simp only [h, if_true, List.mem_cons]
      refine ⟨fun q => (by simp at q), fun q => absurd rfl (q (x, u) (.inl rfl))⟩
    · rw [if_neg h, ih]
      refine ⟨fun q p hp => ?_, fun q p hp => q p (List.mem_cons_of_mem _ hp)⟩
      rcases List.mem_cons.1 hp with rfl | hp
      · exact fun e => h e.symm
      · exact q p hp
theorem jQ {k : κ} {v : α} : ∀ {l : List (κ × α)}, zf k l = some v → (k, v) ∈ l
  | [], h => by simp [zf] at h
  | (x, u) :: r, h => by
    unfold zf at h
    split at h
    · rename_i e; simp at h; subst h e; exact List.mem_cons_self ..
    · exact List.mem_cons_of_mem _ (jQ h)
theorem jd {k : κ} {v : α} : ∀ {l : List (κ × α)}, KNd l → (k, v) ∈ l → zf k l = some v
  | [], _, h => by simp at h
  | (x, u) :: r, hn, h => by
    have hn := KNd.cons.1 hn
    unfold zf
    rcases List.mem_cons.1 h with e | h
    · simp only [Prod.mk.injEq] at e; rw [if_pos e.1, e.2]
    · rw [if_neg (fun e => hn.1 _ h e)]; exact jd hn.2 h
theorem ki {k : κ} {l m : List (κ × α)} (hn : KNd l) (hp : l.Perm m) : zf k l = zf k m := by
  cases h : zf k l with
  | none =>
    symm; rw [kj] at h ⊢
    exact fun p q => h p (hp.mem_iff.2 q)
  | some v => exact (jd (hn.perm hp) (hp.mem_iff.1 (jQ h))).symm
theorem x0 {k : κ} : ∀ {l : List (κ × α)}, KNd l → kC k l = l.filter fun p => decide (p.1 ≠ k)
  | [], _ => rfl
  | (x, u) :: r, hn => by
    have hn := KNd.cons.1 hn
    unfold kC
    by_cases h : k = x
    · subst h
      rw [if_pos rfl, List.filter_cons_of_neg (by simp)]
      exact (List.filter_eq_self.2 fun p hp => by simpa using hn.1 p hp).symm
    · rw [if_neg h, List.filter_cons_of_pos (by simpa using fun e : x = k => h e.symm), x0 hn.2]
theorem kG {k : κ} {v : α} : ∀ {l : List (κ × α)}, KNd l → (y6 k v l).Perm ((k, v) :: l.filter fun p => decide (p.1 ≠ k))
  | [], _ => .refl _
  | (x, u) :: r, hn => by
    have hn := KNd.cons.1 hn
    unfold y6
    by_cases h : k = x
    · subst h
      rw [if_pos rfl, List.filter_cons_of_neg (by simp), List.filter_eq_self.2 fun p hp => by simpa using hn.1 p hp]
    · rw [if_neg h, List.filter_cons_of_pos (by simpa using fun e : x = k => h e.symm)]
      exact ((kG hn.2).cons _).trans (.swap ..)
theorem zDP {k : κ} {v : α} : ∀ {l : List (κ × α)}, zf k l = none → y6 k v l = l ++ [(k, v)]
  | [], _ => rfl
  | (x, u) :: r, h => by
    unfold zf at h
    split at h
    · simp at h
    · rename_i e; unfold y6; rw [if_neg e, zDP h]; rfl
theorem zDg {k j : κ} {v : α} : ∀ {l : List (κ × α)}, zf j (y6 k v l) = if j = k then some v else zf j l
  | [] => by simp [y6, zf]
  | (x, u) :: r => by
    have ih := zDg (k := k) (j := j) (v := v) (l := r)
    unfold y6
    by_cases h : k = x
    · subst h
      rw [if_pos rfl]; unfold zf
      by_cases e : j = k <;> simp [e]
    · rw [if_neg h]; unfold zf
      rw [ih]
      by_cases e : j = x
      · rw [if_pos e, if_pos e, if_neg (fun q => h (q.symm.trans e))]
      · rw [if_neg e, if_neg e]
theorem KNd.put {k : κ} {v : α} {l : List (κ × α)} (hn : KNd l) : KNd (y6 k v l) := by
  refine KNd.perm ?_ (kG hn).symm
  rw [KNd.cons]
  exact ⟨fun q hq => by have := (List.mem_filter.1 hq).2; simpa using this, hn.sub List.filter_sublist⟩
end
structure LeaD where
  id : Nat
  session : Nat
  key : ByteArray
  amount : Int
  until_ : Int
  deriving DecidableEq
structure BudD where
  key : ByteArray
  amount : Int
  deriving DecidableEq
def LeaD.cells (x : LeaD) : List Value := [.int .u64 x.id, .int .u64 x.session, .string x.key, .int .i64 x.amount, .int .i64 x.until_]
def BudD.cells (x : BudD) : List Value := [.string x.key, .int .i64 x.amount]
def LeaD.zero : LeaD := ⟨0, 0, ⟨#[]⟩, 0, 0⟩
instance : Inhabited LeaD := ⟨LeaD.zero⟩
instance : Inhabited BudD := ⟨⟨⟨#[]⟩, 0⟩⟩
def KB (bs : List BudD) : List (ByteArray × Int) := bs.map fun b => (b.key, b.amount)
def KL (ls : List LeaD) : List (Nat × LeaD) := ls.map fun l => (l.id, l)
theorem zKL (ls : List LeaD) : (KL ls).length = ls.length := by simp [KL]
theorem zJo (bs : List BudD) : (KB bs).length = bs.length := by simp [KB]
theorem zFq (p : LeaD → Bool) (ls : List LeaD) : KL (ls.filter p) = (KL ls).filter fun q => p q.2 := by
  unfold KL; rw [List.filter_map]; rfl
theorem zKX (ls : List LeaD) : (KL ls).map (·.2) = ls := by
  unfold KL; rw [List.map_map]; exact List.map_id ls
theorem zLT {k : ByteArray} : k ≠ (⟨#[]⟩ : ByteArray) ↔ 1 ≤ k.size := by
  obtain ⟨d⟩ := k
  show _ ↔ 1 ≤ d.size
  constructor
  · intro h
    rcases Nat.eq_zero_or_pos d.size with q | q
    · exact absurd (by rw [Array.eq_empty_of_size_eq_zero q]) h
    · exact q
  · intro h e
    have : d = #[] := congrArg ByteArray.data e
    rw [this] at h; simp at h
def yd (k : ByteArray) : List LeaD → Int
  | [] => 0
  | l :: r => (if l.key = k then l.amount else 0) + yd k r
theorem jc (k : ByteArray) (l m : List LeaD) : yd k (l ++ m) = yd k l + yd k m := by
  induction l with
  | nil => simp [yd]
  | cons a l ih => simp only [List.cons_append, yd, ih]; omega
theorem zEV {k : ByteArray} {l m : List LeaD} (h : l.Perm m) : yd k l = yd k m := by
  induction h with
  | nil => rfl
  | cons a _ ih => simp only [yd, ih]
  | swap a b l => simp only [yd]; omega
  | trans _ _ h1 h2 => rw [h1, h2]
def Pos (l : List LeaD) : Prop := ∀ x ∈ l, 1 ≤ x.amount
theorem zBO {k : ByteArray} : ∀ {l : List LeaD}, Pos l → 0 ≤ yd k l
  | [], _ => Int.le_refl _
  | a :: l, h => by
    have h1 := zBO (k := k) (l := l) fun x hx => h x (List.mem_cons_of_mem _ hx)
    have h2 := h a (List.mem_cons_self ..)
    simp only [yd]; split <;> omega
theorem zAx {k : ByteArray} {l m : List LeaD} (h : m.Sublist l) (hp : Pos l) : yd k m ≤ yd k l := by
  induction h with
  | slnil => exact Int.le_refl _
  | cons a _ ih =>
    have := ih fun x hx => hp x (List.mem_cons_of_mem _ hx)
    have h2 := hp a (List.mem_cons_self ..)
    simp only [yd]; split <;> omega
  | cons_cons a _ ih =>
    have := ih fun x hx => hp x (List.mem_cons_of_mem _ hx)
    simp only [yd]; omega
def yF (k : ByteArray) (l : List LeaD) : Int := IntKind.i64.wrap (yd k l)
def yA (k : ByteArray) (kl : List (Nat × LeaD)) : Int := yF k (kl.map (·.2))
theorem zD9 {k : ByteArray} {kl : List (Nat × LeaD)} {ls : List LeaD} (h : kl.Perm (KL ls)) : yA k kl = yF k ls := by
  unfold yA yF
  rw [zEV (h.map _), zKX]
theorem zDh (a b : Int) : IntKind.i64.wrap (IntKind.i64.wrap a + b) = IntKind.i64.wrap (a + b) := by
  unfold IntKind.wrap
  simp [IntKind.bits, IntKind.signed]
  repeat' split
  all_goals omega
theorem zKO {α : Type} {p q : Prop} [Decidable p] [Decidable q] {a b : α} (h : p ↔ q) : (if p then a else b) = if q then a else b := by
  by_cases c : p
  · rw [if_pos c, if_pos (h.1 c)]
  · rw [if_neg c, if_neg fun q => c (h.2 q)]
def yO (k : ByteArray) (bs : List BudD) : Int := (zf k (KB bs)).getD 0
theorem zBC (k : ByteArray) (l1 l2 : List (Nat × LeaD)) (i : Nat) (v : LeaD) : yd k ((l1 ++ (i, v) :: l2).map (·.2)) = yd k ((l1 ++ l2).map (·.2)) + (if v.key = k then v.amount else 0) := by
  simp only [List.map_append, List.map_cons, jc, yd]; omega
def yW (k : ByteArray) : Prop := 1 ≤ k.size ∧ k.size ≤ 64
instance (k : ByteArray) : Decidable (yW k) := inferInstanceAs (Decidable (_ ∧ _))
def yM (n : Int) : Prop := 1 ≤ n ∧ n ≤ 1099511627776
instance (n : Int) : Decidable (yM n) := inferInstanceAs (Decidable (_ ∧ _))
def yt (now n : Int) : Int := if n < 0 ∨ 1099511627776 < n then 1 else if 2305843009213693952 < now + n then 3 else 0
def zBA (now n : Int) : Int := if yt now n = 0 then now + n else now
def zB0 (t : Int) (l : LeaD) : Bool := decide (l.until_ ≤ t)
def passG (now n : Int) (ls : List LeaD) : List Nat := if yt now n = 0 then (ls.filter (zB0 (now + n))).map (·.id) else []
def zBw (now n : Int) (ls : List LeaD) : List LeaD := if yt now n = 0 then ls.filter (fun l => !zB0 (now + n) l) else ls
def zBW (now n : Int) (kl : List (Nat × LeaD)) : List Nat := if yt now n = 0 then (kl.filter fun p => zB0 (now + n) p.2).map (·.1) else []
def jC (now n : Int) (kl : List (Nat × LeaD)) : List (Nat × LeaD) := if yt now n = 0 then kl.filter (fun p => !zB0 (now + n) p.2) else kl
def x4 (k : ByteArray) (a : Int) (kb : List (ByteArray × Int)) : Int :=
  if ¬ yW k ∨ a < 0 then 1 else if a ≠ 0 ∧ zf k kb = none ∧ 64 ≤ kb.length then 7 else 0
def zB5 (k : ByteArray) (a : Int) (kb : List (ByteArray × Int)) : List (ByteArray × Int) :=
  if x4 k a kb = 0 then (if a = 0 then kC k kb else y6 k a kb) else kb
def zAA (k : ByteArray) (a : Int) (bs : List BudD) : Int :=
  if ¬ yW k ∨ a < 0 then 1 else if yO k bs = 0 ∧ 0 < a ∧ 64 ≤ bs.length then 7 else 0
def y0 (k : ByteArray) (a : Int) (q : Bool × List BudD) (b : BudD) : Bool × List BudD :=
  (q.1 || decide (sLe k b.key), (q.2 ++ if q.1 = false ∧ sLe k b.key then [⟨k, a⟩] else []) ++ if b.key ≠ k then [b] else [])
def zDO (k : ByteArray) (a : Int) (bs : List BudD) : List BudD :=
  let q := bs.foldl (y0 k a) (decide (a = 0), [])
  q.2 ++ if q.1 = false then [⟨k, a⟩] else []
def zAs (k : ByteArray) (a : Int) (bs : List BudD) : List BudD := if zAA k a bs = 0 then zDO k a bs else bs
def yb (s : Nat) (k : ByteArray) (a sp : Int) : Prop := s = 0 ∨ ¬ yW k ∨ a < 1 ∨ ¬ yM sp
instance (s : Nat) (k : ByteArray) (a sp : Int) : Decidable (yb s k a sp) := inferInstanceAs (Decidable (_ ∨ _))
def xV (s : Nat) (k : ByteArray) (a sp : Int) (kb : List (ByteArray × Int)) (kl : List (Nat × LeaD)) : Int :=
  if yb s k a sp then 1 else if zf k kb = none then 8 else if 9223372036854775807 < yA k kl + a then 3 else if (zf k kb).getD 0 < yA k kl + a then 16 else if 128 ≤ kl.length then 7 else 0
def xG (s : Nat) (k : ByteArray) (a sp : Int) (bs : List BudD) (ls : List LeaD) : Int :=
  if yb s k a sp then 1 else if yO k bs = 0 then 8 else if 9223372036854775807 < yF k ls + a then 3 else if yO k bs < yF k ls + a then 16 else if 128 ≤ ls.length then 7 else 0
def kL (e : Int) (cnt s : Nat) (k : ByteArray) (a t : Int) : LeaD := if e = 0 then ⟨cnt + 1, s, k, a, t⟩ else LeaD.zero
def yy (l : LeaD) (t : Int) : LeaD := ⟨l.id, l.session, l.key, l.amount, max l.until_ t⟩
def zAv (now : Int) (kb : List (ByteArray × Int)) (kl : List (Nat × LeaD)) (s i : Nat) (sp : Int) (x : LeaD) (e : Int) (kl' : List (Nat × LeaD)) : Prop :=
  (¬ yM sp ∧ e = 1 ∧ x = LeaD.zero ∧ kl' = kl) ∨
  (yM sp ∧ (∀ l, zf i kl = some l → l.session ≠ s) ∧ e = 17 ∧ x = LeaD.zero ∧ kl' = kl) ∨
  (yM sp ∧ ∃ l, zf i kl = some l ∧ l.session = s ∧ (((zf l.key kb).getD 0 < yA l.key kl ∧ e = 16 ∧ x = LeaD.zero ∧ kl' = kl) ∨ (yA l.key kl ≤ (zf l.key kb).getD 0 ∧ e = 0 ∧ x = yy l (now + sp) ∧ kl' = y6 i x kl)))
def zA0 (now : Int) (bs : List BudD) (ls : List LeaD) (s i : Nat) (sp : Int) (x : LeaD) (e : Int) (ls' : List LeaD) : Prop :=
  (¬ yM sp ∧ e = 1 ∧ x = LeaD.zero ∧ ls' = ls) ∨
  (yM sp ∧ (∀ l ∈ ls, ¬ (l.id = i ∧ l.session = s)) ∧ e = 17 ∧ x = LeaD.zero ∧ ls' = ls) ∨
  (yM sp ∧ ∃ k, k < ls.length ∧ (zG ls k).id = i ∧ (zG ls k).session = s ∧ ((yO (zG ls k).key bs < yF (zG ls k).key ls ∧ e = 16 ∧ x = LeaD.zero ∧ ls' = ls) ∨ (yF (zG ls k).key ls ≤ yO (zG ls k).key bs ∧ e = 0 ∧ x = yy (zG ls k) (now + sp) ∧ ls' = ls.set k x)))
def zD5 (kl : List (Nat × LeaD)) (s i : Nat) (x : LeaD) (e : Int) (kl' : List (Nat × LeaD)) : Prop :=
  ((∀ l, zf i kl = some l → l.session ≠ s) ∧ e = 17 ∧ x = LeaD.zero ∧ kl' = kl) ∨
  (∃ l, zf i kl = some l ∧ l.session = s ∧ e = 0 ∧ x = l ∧ kl' = kC i kl)
def zCf (ls : List LeaD) (s i : Nat) (x : LeaD) (e : Int) (ls' : List LeaD) : Prop :=
  ((∀ l ∈ ls, ¬ (l.id = i ∧ l.session = s)) ∧ e = 17 ∧ x = LeaD.zero ∧ ls' = ls) ∨
  (∃ k, k < ls.length ∧ (zG ls k).id = i ∧ (zG ls k).session = s ∧ e = 0 ∧ x = zG ls k ∧ ls' = ls.take k ++ ls.drop (k + 1))
theorem zCO {k : ByteArray} {a : Int} {kb : List (ByteArray × Int)} (h : ¬ yW k ∨ a < 0) : x4 k a kb = 1 := if_pos h
theorem zBj {k : ByteArray} {a : Int} {kb : List (ByteArray × Int)} (h : ¬ (¬ yW k ∨ a < 0)) (h2 : ¬ a = 0) (h3 : (!(zf k kb).isSome) = true ∧ 64 ≤ ((kb.length : Nat) : Int)) : x4 k a kb = 7 := by
  unfold x4
  rw [if_neg h, if_pos ⟨h2, by simpa using h3.1, by omega⟩]
theorem zCB {k : ByteArray} {a : Int} {kb : List (ByteArray × Int)} (h : ¬ (¬ yW k ∨ a < 0)) (h2 : a = 0) : x4 k a kb = 0 := by
  unfold x4
  rw [if_neg h, if_neg fun q => q.1 h2]
theorem zCQ {k : ByteArray} {a : Int} {kb : List (ByteArray × Int)} (h : ¬ (¬ yW k ∨ a < 0)) (h3 : ¬ ((!(zf k kb).isSome) = true ∧ 64 ≤ ((kb.length : Nat) : Int))) : x4 k a kb = 0 := by
  unfold x4
  rw [if_neg h, if_neg fun q => h3 ⟨by simp [q.2.1], by omega⟩]
theorem zDt {k : ByteArray} {a e : Int} {kb : List (ByteArray × Int)} (h : x4 k a kb = e) (he : e ≠ 0) : kb = zB5 k a kb := by
  unfold zB5; rw [if_neg (by rw [h]; exact he)]
theorem zHs {k : ByteArray} {a : Int} {kb : List (ByteArray × Int)} (h : x4 k a kb = 0) (h2 : a = 0) : kC k kb = zB5 k a kb := by
  unfold zB5; rw [if_pos h, if_pos h2]
theorem zGo {k : ByteArray} {a : Int} {kb : List (ByteArray × Int)} (h : x4 k a kb = 0) (h2 : ¬ a = 0) : y6 k a kb = zB5 k a kb := by
  unfold zB5; rw [if_pos h, if_neg h2]
def zFJ (e : Int) (x : LeaD) (kl : List (Nat × LeaD)) : List (Nat × LeaD) := if e = 0 then y6 x.id x kl else kl
def zBD (e : Int) (x : LeaD) (ls : List LeaD) : List LeaD := if e = 0 then ls ++ [x] else ls
def zAU (e : Int) (cnt : Nat) : Nat := if e = 0 then cnt + 1 else cnt
theorem larg {s : Nat} {k : ByteArray} {a sp : Int} : (((((s : Nat) : Int) = ((0 : Nat) : Int)) ∨ ¬ yW k) ∨ a < 1) ∨ ¬ yM sp ↔ yb s k a sp := by
  unfold yb
  rw [or_assoc, or_assoc]
  refine or_congr ?_ Iff.rfl
  omega
section
variable {s : Nat} {k : ByteArray} {a sp : Int} {kb : List (ByteArray × Int)} {kl : List (Nat × LeaD)}
theorem zJb (h : yb s k a sp) : xV s k a sp kb kl = 1 := if_pos h
theorem zK9 (h : ¬ yb s k a sp) (h2 : (!(zf k kb).isSome) = true) : xV s k a sp kb kl = 8 := by
  unfold xV; rw [if_neg h, if_pos (by simpa using h2)]
theorem zBM {α : Type} {o : Option α} (h : ¬ (!o.isSome) = true) : ¬ o = none := by cases o <;> simp_all
theorem zKr (h : ¬ yb s k a sp) (h2 : ¬ (!(zf k kb).isSome) = true) (h3 : 9223372036854775807 < yA k kl + a) : xV s k a sp kb kl = 3 := by
  unfold xV; rw [if_neg h, if_neg (zBM h2), if_pos h3]
theorem zKH (h : ¬ yb s k a sp) (h2 : ¬ (!(zf k kb).isSome) = true) (h3 : ¬ 9223372036854775807 < yA k kl + a) (h4 : (zf k kb).getD 0 < yA k kl + a) : xV s k a sp kb kl = 16 := by
  unfold xV; rw [if_neg h, if_neg (zBM h2), if_neg h3, if_pos h4]
theorem zK5 (h : ¬ yb s k a sp) (h2 : ¬ (!(zf k kb).isSome) = true) (h3 : ¬ 9223372036854775807 < yA k kl + a) (h4 : ¬ (zf k kb).getD 0 < yA k kl + a) (h5 : 128 ≤ ((kl.length : Nat) : Int)) : xV s k a sp kb kl = 7 := by
  unfold xV; rw [if_neg h, if_neg (zBM h2), if_neg h3, if_neg h4, if_pos (by omega)]
theorem zLS (h : ¬ yb s k a sp) (h2 : ¬ (!(zf k kb).isSome) = true) (h3 : ¬ 9223372036854775807 < yA k kl + a) (h4 : ¬ (zf k kb).getD 0 < yA k kl + a) (h5 : ¬ 128 ≤ ((kl.length : Nat) : Int)) : xV s k a sp kb kl = 0 := by
  unfold xV; rw [if_neg h, if_neg (zBM h2), if_neg h3, if_neg h4, if_neg (by omega)]
theorem zGW {n m e : Int} (h : (9223372036854775807 < zG [n, a] 0 + zG [n, a] 1 ∧ e = 3 ∧ m = 0) ∨ (zG [n, a] 0 + zG [n, a] 1 ≤ 9223372036854775807 ∧ e = 0 ∧ m = zG [n, a] 0 + zG [n, a] 1)) (hn : n = yA k kl) :
    (9223372036854775807 < yA k kl + a ∧ e = 3) ∨ (¬ 9223372036854775807 < yA k kl + a ∧ e = 0 ∧ m = yA k kl + a) := by
  rw [show zG [n, a] 0 = n from rfl, show zG [n, a] 1 = a from rfl, hn] at h
  omega
theorem jY {m e : Int} (h : (9223372036854775807 < yA k kl + a ∧ e = 3) ∨ (¬ 9223372036854775807 < yA k kl + a ∧ e = 0 ∧ m = yA k kl + a)) (he : e ≠ 0) : 9223372036854775807 < yA k kl + a ∧ e = 3 := by
  rcases h with h | h
  · exact h
  · exact absurd h.2.1 he
theorem ko {m e : Int} (h : (9223372036854775807 < yA k kl + a ∧ e = 3) ∨ (¬ 9223372036854775807 < yA k kl + a ∧ e = 0 ∧ m = yA k kl + a)) (he : ¬ e ≠ 0) : ¬ 9223372036854775807 < yA k kl + a ∧ m = yA k kl + a := by
  rcases h with h | h
  · omega
  · exact ⟨h.1, h.2.2⟩
end
theorem zBq {a b n x n' e : Int} {k : Nat} (hk : k < 2) (hI : (k = 0 → n = 0) ∧ (k = 1 → n = a) ∧ (k = 2 → n = a + b)) (hx : (k = 0 → x = a) ∧ (k = 1 → x = b))
    (h : (9223372036854775807 < n + x ∧ e = 3 ∧ n' = 0) ∨ (n + x ≤ 9223372036854775807 ∧ e = 0 ∧ n' = n + x)) (ha : 0 ≤ a ∧ a ≤ 9223372036854775807) (hb : -9223372036854775808 ≤ b ∧ b ≤ 9223372036854775807) :
    (e ≠ 0 → 9223372036854775807 < a + b ∧ e = 3) ∧ (¬ e ≠ 0 → ((k + 1 = 0 → n' = 0) ∧ (k + 1 = 1 → n' = a) ∧ (k + 1 = 2 → n' = a + b)) ∧ ((k + 1 < 2 → 0 ≤ n') ∧ n' ≤ 9223372036854775807)) := by
  rcases (show k = 0 ∨ k = 1 by omega) with rfl | rfl <;> omega
def jF (t : Int) (kl : List (Nat × LeaD)) : List Nat := (kl.filter fun p => zB0 t p.2).map (·.1)
def PassI (t : Int) (kl todo kv : List (Nat × LeaD)) (g : List Nat) : Prop :=
  todo.Sublist kl ∧ kv = kl.filter (fun p => decide (p.1 ∉ g)) ∧ (g ++ jF t todo).Perm (jF t kl)
theorem PassI.start (t : Int) (kl : List (Nat × LeaD)) : PassI t kl kl kl [] :=
  ⟨List.Sublist.refl _, (List.filter_eq_self.2 fun _ _ => by simp).symm, .refl _⟩
theorem zAV (t : Int) (l m : List (Nat × LeaD)) : jF t (l ++ m) = jF t l ++ jF t m := by unfold jF; rw [List.filter_append, List.map_append]
theorem zE0 {α : Type} {l m : List α} {a : α} : (l ++ m).Sublist (l ++ a :: m) := List.Sublist.append_left (List.sublist_cons_self ..) _
theorem PassI.out {t : Int} {kl todo kv q1 q2 : List (Nat × LeaD)} {g : List Nat} {k : Nat} {v : LeaD} (h : PassI t kl todo kv g) (hn : KNd kl) (hq : todo = q1 ++ (k, v) :: q2) : ∀ q ∈ q1 ++ q2, q.1 ≠ k := by
  have hs := hn.sub h.1
  rw [hq] at hs
  have : KNd ((k, v) :: (q1 ++ q2)) := hs.perm List.perm_middle
  exact (KNd.cons.1 this).1
theorem PassI.yes {t : Int} {kl todo kv q1 q2 : List (Nat × LeaD)} {g : List Nat} {k : Nat} {v : LeaD} (h : PassI t kl todo kv g) (hn : KNd kl) (hq : todo = q1 ++ (k, v) :: q2) (hd : v.until_ ≤ t) : PassI t kl (q1 ++ q2) (kC k kv) (g ++ [k]) := by
  refine ⟨(hq ▸ zE0 : (q1 ++ q2).Sublist todo).trans h.1, ?_, ?_⟩
  · have hkv : KNd kv := by rw [h.2.1]; exact hn.sub List.filter_sublist
    rw [x0 hkv, h.2.1, List.filter_filter]
    congr 1
    funext p
    simp only [List.mem_append, List.mem_singleton, not_or, Bool.decide_and, ne_eq]
    rw [Bool.and_comm]
  · refine List.Perm.trans ?_ h.2.2
    rw [hq, zAV, zAV, List.append_assoc]
    refine List.Perm.append_left _ ?_
    have : jF t ((k, v) :: q2) = k :: jF t q2 := by unfold jF; rw [List.filter_cons_of_pos (by simpa [zB0] using hd)]; rfl
    rw [this]
    exact (List.perm_middle (l₁ := jF t q1) (l₂ := jF t q2) (a := k)).symm
theorem PassI.no {t : Int} {kl todo kv q1 q2 : List (Nat × LeaD)} {g : List Nat} {k : Nat} {v : LeaD} (h : PassI t kl todo kv g) (hq : todo = q1 ++ (k, v) :: q2) (hd : ¬ v.until_ ≤ t) : PassI t kl (q1 ++ q2) kv g := by
  refine ⟨(hq ▸ zE0 : (q1 ++ q2).Sublist todo).trans h.1, h.2.1, ?_⟩
  refine List.Perm.trans (.of_eq ?_) h.2.2
  rw [hq, zAV, zAV]
  have : jF t ((k, v) :: q2) = jF t q2 := by unfold jF; rw [List.filter_cons_of_neg (by simpa [zB0] using hd)]
  rw [this]
theorem PassI.len {t : Int} {kl todo kv : List (Nat × LeaD)} {g : List Nat} (h : PassI t kl todo kv g) : g.length ≤ kl.length := by
  have := h.2.2.length_eq
  have h2 : (jF t kl).length ≤ kl.length := by unfold jF; rw [List.length_map]; exact List.length_filter_le _ _
  rw [List.length_append] at this; omega
theorem zCw {now n : Int} (h : ¬ (n < 0 ∨ 1099511627776 < n)) (h2 : ¬ 2305843009213693952 - n < now) : yt now n = 0 := by unfold yt; rw [if_neg h, if_neg (by omega)]
theorem zC0 {now n : Int} (h : ¬ (n < 0 ∨ 1099511627776 < n)) (h2 : 2305843009213693952 - n < now) : yt now n = 3 := by unfold yt; rw [if_neg h, if_pos (by omega)]
theorem zC4 {now n : Int} (h : n < 0 ∨ 1099511627776 < n) : yt now n = 1 := if_pos h
theorem xz {now n e : Int} {kl : List (Nat × LeaD)} (h : yt now n = e) (he : e ≠ 0) : e = yt now n ∧ now = zBA now n ∧ kl = jC now n kl ∧ List.Perm [] (zBW now n kl) := by
  have h0 : ¬ yt now n = 0 := by rw [h]; exact he
  exact ⟨h.symm, (if_neg h0).symm, (if_neg h0).symm, by unfold zBW; rw [if_neg h0]⟩
theorem PassI.done {now n : Int} {kl todo kv : List (Nat × LeaD)} {g : List Nat} (h : PassI (now + n) kl todo kv g) (h0 : todo = []) (hn : KNd kl) (he : yt now n = 0) :
    0 = yt now n ∧ now + n = zBA now n ∧ kv = jC now n kl ∧ g.Perm (zBW now n kl) := by
  have hg : g.Perm (jF (now + n) kl) := by have := h.2.2; rw [h0] at this; simpa [jF] using this
  refine ⟨he.symm, (if_pos he).symm, ?_, by unfold zBW; rw [if_pos he]; exact hg⟩
  unfold jC
  rw [if_pos he, h.2.1]
  refine List.filter_congr fun p hp => ?_
  have : p.1 ∈ g ↔ zB0 (now + n) p.2 = true := by
    rw [hg.mem_iff]; unfold jF
    constructor
    · intro q
      obtain ⟨q, hq, e⟩ := List.mem_map.1 q
      obtain ⟨h1, h2⟩ := List.mem_filter.1 hq
      have e1 := jd hn (show (p.1, q.2) ∈ kl by rw [← e]; exact h1)
      have e2 := jd hn (show (p.1, p.2) ∈ kl from hp)
      rw [e1] at e2
      rw [← Option.some.inj e2]; exact h2
    · exact fun q => List.mem_map.2 ⟨p, List.mem_filter.2 ⟨hp, q⟩, rfl⟩
  cases hd : zB0 (now + n) p.2 with
  | true => simp [this.2 hd]
  | false => simp; exact fun q => by have := this.1 q; rw [hd] at this; cases this
structure QOk (now : Int) (cnt : Nat) (bs : List BudD) (ls : List LeaD) : Prop where
  time : 0 ≤ now ∧ now ≤ 2305843009213693952
  bnd : (bs.map (·.key)).Nodup
  bpos : ∀ b ∈ bs, 1 ≤ b.amount ∧ b.amount ≤ 9223372036854775807 ∧ yW b.key
  blen : bs.length ≤ 64
  lup : (ls.map (·.id)).Pairwise (· < ·)
  lok : ∀ l ∈ ls, 1 ≤ l.id ∧ l.id ≤ cnt ∧ 1 ≤ l.session ∧ 1 ≤ l.amount ∧ now < l.until_ ∧ l.until_ ≤ 4611686018427387904 ∧ yW l.key
  llen : ls.length ≤ 128
  sums : ∀ k, yd k ls ≤ 9223372036854775807
structure QRel (kb : List (ByteArray × Int)) (kl : List (Nat × LeaD)) (bs : List BudD) (ls : List LeaD) : Prop where
  b : kb.Perm (KB bs)
  l : kl.Perm (KL ls)
section
variable {now : Int} {cnt : Nat} {bs : List BudD} {ls : List LeaD} {kb : List (ByteArray × Int)} {kl : List (Nat × LeaD)}
theorem QOk.pos (h : QOk now cnt bs ls) : Pos ls := fun x hx => (h.lok x hx).2.2.2.1
theorem QOk.lent (h : QOk now cnt bs ls) (k : ByteArray) : yF k ls = yd k ls := zh ⟨by have := zBO (k := k) h.pos; omega, h.sums k⟩
theorem QOk.lent0 (h : QOk now cnt bs ls) (k : ByteArray) : 0 ≤ yF k ls ∧ yF k ls ≤ 9223372036854775807 := by rw [h.lent]; exact ⟨zBO h.pos, h.sums k⟩
theorem zJd (h : (bs.map (·.key)).Nodup) : KNd (KB bs) := by unfold KNd KB; rw [List.map_map]; exact h
theorem zE5 (h : (ls.map (·.id)).Pairwise (· < ·)) : KNd (KL ls) := by
  unfold KNd KL; rw [List.map_map]
  exact h.imp fun q => by omega
theorem QOk.knb (h : QOk now cnt bs ls) (r : QRel kb kl bs ls) : KNd kb := (zJd h.bnd).perm r.b.symm
theorem QOk.knl (h : QOk now cnt bs ls) (r : QRel kb kl bs ls) : KNd kl := (zE5 h.lup).perm r.l.symm
theorem QRel.lent (r : QRel kb kl bs ls) (k : ByteArray) : yA k kl = yF k ls := zD9 r.l
theorem QOk.bud (h : QOk now cnt bs ls) (r : QRel kb kl bs ls) (k : ByteArray) : (zf k kb).getD 0 = yO k bs := by
  unfold yO; rw [ki (h.knb r) r.b]
theorem zFF {k : ByteArray} {v : Int} (h : zf k (KB bs) = some v) : ∃ b ∈ bs, b.key = k ∧ b.amount = v := by
  have := jQ h
  unfold KB at this
  obtain ⟨b, hb, e⟩ := List.mem_map.1 this
  simp only [Prod.mk.injEq] at e
  exact ⟨b, hb, e.1, e.2⟩
theorem QOk.none (h : QOk now cnt bs ls) (r : QRel kb kl bs ls) (k : ByteArray) : zf k kb = none ↔ yO k bs = 0 := by
  unfold yO
  rw [ki (h.knb r) r.b]
  cases e : zf k (KB bs) with
  | none => simp
  | some v =>
    obtain ⟨b, hb, _, e⟩ := zFF e
    have := (h.bpos b hb).1
    simp; omega
theorem zLb (h : KNd (KL ls)) {i : Nat} {l : LeaD} : zf i (KL ls) = some l ↔ l ∈ ls ∧ l.id = i := by
  constructor
  · intro e
    have := jQ e
    unfold KL at this
    obtain ⟨x, hx, e⟩ := List.mem_map.1 this
    simp only [Prod.mk.injEq] at e
    exact ⟨e.2 ▸ hx, e.2 ▸ e.1⟩
  · rintro ⟨h1, h2⟩
    exact jd h (List.mem_map.2 ⟨l, h1, by rw [h2]⟩)
theorem QOk.look (h : QOk now cnt bs ls) (r : QRel kb kl bs ls) {i : Nat} {l : LeaD} : zf i kl = some l ↔ l ∈ ls ∧ l.id = i := by
  rw [ki (h.knl r) r.l]; exact zLb (zE5 h.lup)
theorem QRel.blen (r : QRel kb kl bs ls) : kb.length = bs.length := by rw [r.b.length_eq, zJo]
theorem QRel.llen (r : QRel kb kl bs ls) : kl.length = ls.length := by rw [r.l.length_eq, zKL]
theorem QRel.pass (r : QRel kb kl bs ls) (n : Int) : QRel kb (jC now n kl) bs (zBw now n ls) := by
  refine ⟨r.b, ?_⟩
  unfold jC zBw
  split
  · rw [zFq]; exact r.l.filter _
  · exact r.l
theorem QOk.pass (h : QOk now cnt bs ls) (n : Int) (hn : yx n) : QOk (zBA now n) cnt bs (zBw now n ls) := by
  have h0 := h.time
  by_cases e : yt now n = 0
  · have e1 : 0 ≤ n ∧ now + n ≤ 2305843009213693952 := by
      unfold yt at e
      split at e
      · omega
      · split at e <;> omega
    unfold zBA zBw
    rw [if_pos e, if_pos e]
    refine ⟨by omega, h.bnd, h.bpos, h.blen, h.lup.sublist (List.filter_sublist.map _), fun l hl => ?_, Nat.le_trans (List.length_filter_le _ _) h.llen, fun k => Int.le_trans (zAx List.filter_sublist h.pos) (h.sums k)⟩
    obtain ⟨h1, h2⟩ := List.mem_filter.1 hl
    have h3 := h.lok l h1
    have h4 : ¬ l.until_ ≤ now + n := by simpa [zB0] using h2
    exact ⟨h3.1, h3.2.1, h3.2.2.1, h3.2.2.2.1, by omega, h3.2.2.2.2.2⟩
  · unfold zBA zBw; rw [if_neg e, if_neg e]; exact h
theorem zCW {k : ByteArray} {a : Int} : ∀ (l : List BudD) (p : Bool) (out : List BudD),
    ((l.foldl (y0 k a) (p, out)).2.Perm (out ++ ((if p = false ∧ (l.foldl (y0 k a) (p, out)).1 = true then [⟨k, a⟩] else []) ++ l.filter fun b => decide (b.key ≠ k)))) ∧ (p = true → (l.foldl (y0 k a) (p, out)).1 = true)
  | [], p, out => by
    refine ⟨?_, id⟩
    have : ¬ (p = false ∧ p = true) := by rintro ⟨h, k⟩; rw [h] at k; cases k
    simp [this]
  | b :: l, p, out => by
    rw [List.foldl_cons]
    obtain ⟨h1, h2⟩ := zCW (k := k) (a := a) l (y0 k a (p, out) b).1 (y0 k a (p, out) b).2
    rw [show ((y0 k a (p, out) b).fst, (y0 k a (p, out) b).snd) = y0 k a (p, out) b from rfl] at h1 h2
    generalize l.foldl (y0 k a) (y0 k a (p, out) b) = q at h1 h2 ⊢
    simp only [y0] at h1 h2
    refine ⟨h1.trans ?_, fun hp => h2 (by rw [hp]; rfl)⟩
    have e : (b :: l).filter (fun b => decide (b.key ≠ k)) = (if b.key ≠ k then [b] else []) ++ l.filter fun b => decide (b.key ≠ k) := by
      by_cases c : b.key = k
      · rw [List.filter_cons_of_neg (by simpa using c), if_neg (by simpa using c)]; rfl
      · rw [List.filter_cons_of_pos (by simpa using c), if_pos c]; rfl
    rw [e]
    generalize (if b.key ≠ k then [b] else []) = bb
    generalize l.filter (fun b => decide (b.key ≠ k)) = fl
    cases p with
    | true => simp [List.append_assoc]
    | false =>
      by_cases c : sLe k b.key
      · have hq := h2 (by simp [c])
        simp only [c, hq, and_self, if_true, decide_true, Bool.or_true, Bool.false_eq_true, if_false, false_and, List.append_assoc, List.nil_append, true_and, Bool.true_eq_false]
        exact .refl _
      · simp only [c, and_false, if_false, decide_false, Bool.or_false, List.append_nil, List.append_assoc, true_and]
        refine List.Perm.append_left _ ?_
        rw [← List.append_assoc, ← List.append_assoc]
        exact List.Perm.append_right _ List.perm_append_comm
theorem zCU (k : ByteArray) (a : Int) (bs : List BudD) : (zDO k a bs).Perm ((if a = 0 then [] else [⟨k, a⟩]) ++ bs.filter fun b => decide (b.key ≠ k)) := by
  unfold zDO
  obtain ⟨h1, h2⟩ := zCW (k := k) (a := a) bs (decide (a = 0)) []
  generalize bs.foldl (y0 k a) (decide (a = 0), []) = q at h1 h2 ⊢
  show (q.2 ++ _).Perm _
  rw [List.nil_append] at h1
  by_cases c : a = 0
  · have hq := h2 (by simp [c])
    simp only [c, hq, decide_true, Bool.true_eq_false, if_true, if_false, false_and, List.append_nil, List.nil_append] at h1 ⊢
    simpa using h1
  · rw [if_neg c]
    simp only [c, decide_false, true_and] at h1
    cases hq : q.1 with
    | true => rw [hq, if_pos rfl] at h1; simpa using h1
    | false =>
      rw [hq, if_neg (by simp), List.nil_append] at h1
      rw [if_pos rfl]
      exact (List.Perm.append_right _ h1).trans List.perm_append_comm
theorem zFh (k : ByteArray) (bs : List BudD) : KB (bs.filter fun b => decide (b.key ≠ k)) = (KB bs).filter fun p => decide (p.1 ≠ k) := by
  unfold KB; rw [List.filter_map]; rfl
theorem zFa (h : QOk now cnt bs ls) (r : QRel kb kl bs ls) (k : ByteArray) (a : Int) : (if a = 0 then kC k kb else y6 k a kb).Perm (KB (zDO k a bs)) := by
  have hk := h.knb r
  have h2 : (KB (zDO k a bs)).Perm ((if a = 0 then [] else [(k, a)]) ++ (KB bs).filter fun p => decide (p.1 ≠ k)) := by
    have := (zCU k a bs).map fun b => (b.key, b.amount)
    refine this.trans ?_
    rw [List.map_append, ← zFh]
    split <;> exact .refl _
  refine List.Perm.trans ?_ h2.symm
  split
  · rw [x0 hk, List.nil_append]; exact r.b.filter _
  · exact (kG hk).trans ((r.b.filter _).cons _)
theorem zEn (h : QOk now cnt bs ls) (r : QRel kb kl bs ls) (k : ByteArray) (a : Int) : x4 k a kb = zAA k a bs := by
  unfold x4 zAA
  by_cases c : ¬ yW k ∨ a < 0
  · rw [if_pos c, if_pos c]
  · rw [if_neg c, if_neg c]
    have := h.none r k
    rw [r.blen]
    exact zKO ⟨fun q => ⟨this.1 q.2.1, by omega, q.2.2⟩, fun q => ⟨by omega, this.2 q.1, q.2.2⟩⟩
theorem QRel.set (h : QOk now cnt bs ls) (r : QRel kb kl bs ls) (k : ByteArray) (a : Int) : QRel (zB5 k a kb) kl (zAs k a bs) ls := by
  refine ⟨?_, r.l⟩
  unfold zB5 zAs
  rw [zEn h r]
  split
  · exact zFa h r k a
  · exact r.b
theorem zFe {k : ByteArray} (h : QOk now cnt bs ls) : yO k bs = 0 ↔ ∀ b ∈ bs, b.key ≠ k := by
  unfold yO
  cases e : zf k (KB bs) with
  | none =>
    rw [kj] at e
    refine ⟨fun _ b hb => e (b.key, b.amount) (List.mem_map.2 ⟨b, hb, rfl⟩), fun _ => rfl⟩
  | some v =>
    obtain ⟨b, hb, hk, e⟩ := zFF e
    have := (h.bpos b hb).1
    refine ⟨fun q => (by simp at q; omega), fun q => absurd hk (q b hb)⟩
theorem QOk.set (h : QOk now cnt bs ls) (k : ByteArray) (a : Int) (ha : yx a) : QOk now cnt (zAs k a bs) ls := by
  unfold zAs
  split
  · rename_i e
    have e1 : yW k ∧ 0 ≤ a ∧ ¬ (yO k bs = 0 ∧ 0 < a ∧ 64 ≤ bs.length) := by
      unfold zAA at e
      split at e
      · omega
      · rename_i c
        split at e
        · omega
        · rename_i c2
          exact ⟨Decidable.by_contra fun q => c (.inl q), by omega, c2⟩
    have hp := zCU k a bs
    refine ⟨h.time, ?_, fun b hb => ?_, ?_, h.lup, h.lok, h.llen, h.sums⟩
    · refine (hp.map (·.key)).nodup_iff.2 ?_
      rw [List.map_append]
      have hf : ((bs.filter fun b => decide (b.key ≠ k)).map (·.key)).Nodup := h.bnd.sublist (List.filter_sublist.map _)
      split
      · exact hf
      · rw [List.map_cons, List.map_nil, List.singleton_append, List.nodup_cons]
        refine ⟨fun q => ?_, hf⟩
        obtain ⟨b, hb, e⟩ := List.mem_map.1 q
        have := (List.mem_filter.1 hb).2
        simp at this; exact this e
    · rcases List.mem_append.1 (hp.mem_iff.1 hb) with q | q
      · split at q
        · cases q
        · rw [List.mem_singleton.1 q]; exact ⟨by show 1 ≤ a; omega, ha.2, e1.1⟩
      · exact h.bpos b (List.mem_filter.1 q).1
    · rw [hp.length_eq, List.length_append]
      have h1 := h.blen
      have h2 := List.length_filter_le (fun b : BudD => decide (b.key ≠ k)) bs
      split
      · simp; simpa using Nat.le_trans h2 h1
      · by_cases c : yO k bs = 0
        · have : ¬ 64 ≤ bs.length := fun q => e1.2.2 ⟨c, by omega, q⟩
          simp only [List.length_cons, List.length_nil]; omega
        · have : (bs.filter fun b => decide (b.key ≠ k)).length < bs.length := by
            refine Nat.lt_of_le_of_ne h2 fun q => c ((zFe h).2 fun b hb => ?_)
            have := List.length_filter_eq_length_iff.1 q b hb
            simpa using this
          simp only [List.length_cons, List.length_nil]; omega
  · exact h
theorem zGc (h : QOk now cnt bs ls) (r : QRel kb kl bs ls) (s : Nat) (k : ByteArray) (a sp : Int) : xV s k a sp kb kl = xG s k a sp bs ls := by
  unfold xV xG
  rw [h.bud r k, r.lent, r.llen]
  by_cases c : zf k kb = none
  · rw [if_pos c, if_pos ((h.none r k).1 c)]
  · rw [if_neg c, if_neg fun q => c ((h.none r k).2 q)]
theorem zDm {s : Nat} {k : ByteArray} {a sp : Int} (e : xG s k a sp bs ls = 0) : (s ≠ 0 ∧ yW k ∧ 1 ≤ a ∧ yM sp) ∧ yO k bs ≠ 0 ∧ yF k ls + a ≤ 9223372036854775807 ∧ yF k ls + a ≤ yO k bs ∧ ls.length < 128 := by
  unfold xG at e
  split at e
  · omega
  · rename_i c1
    split at e
    · omega
    · split at e
      · omega
      · split at e
        · omega
        · split at e
          · omega
          · unfold yb at c1
            exact ⟨⟨fun q => c1 (.inl q), Decidable.by_contra fun q => c1 (.inr (.inl q)), by omega, Decidable.by_contra fun q => c1 (.inr (.inr (.inr q)))⟩, by assumption, by omega, by omega, by omega⟩
theorem QRel.lend (h : QOk now cnt bs ls) (r : QRel kb kl bs ls) {e : Int} {x : LeaD} (hx : e = 0 → x.id = cnt + 1) : QRel kb (zFJ e x kl) bs (zBD e x ls) := by
  refine ⟨r.b, ?_⟩
  unfold zFJ zBD
  split
  · rename_i c
    rw [hx c, zDP]
    · unfold KL; rw [List.map_append, List.map_cons, List.map_nil, hx c]
      exact r.l.append_right _
    · rw [kj]
      intro p hp e
      obtain ⟨l, hl, rfl⟩ := List.mem_map.1 (r.l.mem_iff.1 hp)
      have := (h.lok l hl).2.1
      simp only at e; omega
  · exact r.l
theorem QOk.lend (h : QOk now cnt bs ls) {s : Nat} {k : ByteArray} {a sp : Int} {e : Int} (he : e = xG s k a sp bs ls) : QOk now (zAU e cnt) bs (zBD e (kL e cnt s k a (now + sp)) ls) := by
  unfold zAU zBD kL
  split
  · rename_i c
    obtain ⟨⟨h1, h2, h3, h4⟩, h5, h6, h7, h8⟩ := zDm (he.symm.trans c)
    have ht := h.time
    unfold yM at h4
    refine ⟨h.time, h.bnd, h.bpos, h.blen, ?_, fun l hl => ?_, by rw [List.length_append, List.length_singleton]; omega, fun k' => ?_⟩
    · rw [List.map_append, List.pairwise_append]
      refine ⟨h.lup, by simp, fun i hi j hj => ?_⟩
      obtain ⟨l, hl, rfl⟩ := List.mem_map.1 hi
      have := (h.lok l hl).2.1
      simp at hj; omega
    · rcases List.mem_append.1 hl with q | q
      · have := h.lok l q; exact ⟨this.1, by omega, this.2.2⟩
      · rw [List.mem_singleton.1 q]
        exact ⟨by show 1 ≤ cnt + 1; omega, Nat.le_refl _, by show 1 ≤ s; omega, h3, by show now < now + sp; omega, by show now + sp ≤ _; omega, h2⟩
    · rw [jc]
      have := h.sums k'
      simp only [yd]
      split
      · rename_i q; rw [← q, ← h.lent]; omega
      · omega
  · exact h
theorem zHw {i : Nat} {x : LeaD} {l m : List (Nat × LeaD)} (hn : KNd l) (hp : l.Perm m) : (y6 i x l).Perm (y6 i x m) :=
  (kG hn).trans (((hp.filter _).cons _).trans (kG (hn.perm hp)).symm)
theorem zGm {i : Nat} {l m : List (Nat × LeaD)} (hn : KNd l) (hp : l.Perm m) : (kC i l).Perm (kC i m) := by
  rw [x0 hn, x0 (hn.perm hp)]; exact hp.filter _
theorem zG5 {i : Nat} {x : LeaD} (hx : x.id = i) : ∀ {ls : List LeaD} {k : Nat}, KNd (KL ls) → k < ls.length → (zG ls k).id = i → KL (ls.set k x) = y6 i x (KL ls)
  | [], k, _, h, _ => absurd h (Nat.not_lt_zero _)
  | l :: ls, 0, _, _, h => by
    have : l.id = i := h
    simp [KL, y6, this, hx]
  | l :: ls, k + 1, hn, h, hk => by
    have hk' : (zG ls k).id = i := hk
    have hlt : k < ls.length := by simpa using h
    have hn' := KNd.cons.1 hn
    have ih := zG5 hx hn'.2 hlt hk'
    have hne : ¬ i = l.id := fun e => hn'.1 (i, zG ls k) (List.mem_map.2 ⟨zG ls k, yR hlt, by rw [hk']⟩) e
    show (l.id, l) :: KL (ls.set k x) = y6 i x ((l.id, l) :: KL ls)
    rw [ih]; simp only [y6, if_neg hne]
theorem zHv {i : Nat} : ∀ {ls : List LeaD} {k : Nat}, KNd (KL ls) → k < ls.length → (zG ls k).id = i → KL (ls.take k ++ ls.drop (k + 1)) = kC i (KL ls)
  | [], k, _, h, _ => absurd h (Nat.not_lt_zero _)
  | l :: ls, 0, _, _, h => by
    have : l.id = i := h
    simp [KL, kC, this]
  | l :: ls, k + 1, hn, h, hk => by
    have hk' : (zG ls k).id = i := hk
    have hlt : k < ls.length := by simpa using h
    have hn' := KNd.cons.1 hn
    have ih := zHv hn'.2 hlt hk'
    have hne : ¬ i = l.id := fun e => hn'.1 (i, zG ls k) (List.mem_map.2 ⟨zG ls k, yR hlt, by rw [hk']⟩) e
    show (l.id, l) :: KL (ls.take k ++ ls.drop (k + 1)) = kC i ((l.id, l) :: KL ls)
    rw [ih]; simp only [kC, if_neg hne]
theorem QOk.at (h : QOk now cnt bs ls) (r : QRel kb kl bs ls) {i k : Nat} {l : LeaD} (hk : k < ls.length) (hi : (zG ls k).id = i) (hl : zf i kl = some l) : l = zG ls k := by
  have := (h.look r).2 ⟨yR hk, hi⟩
  rw [hl] at this; exact Option.some.inj this
theorem zCJ {k' : ByteArray} {x : LeaD} : ∀ {ls : List LeaD} {k : Nat}, k < ls.length → x.key = (zG ls k).key → x.amount = (zG ls k).amount → yd k' (ls.set k x) = yd k' ls
  | [], k, h, _, _ => absurd h (Nat.not_lt_zero _)
  | l :: ls, 0, _, h1, h2 => by
    have e1 : x.key = l.key := h1
    have e2 : x.amount = l.amount := h2
    simp only [List.set_cons_zero, yd, e1, e2]
  | l :: ls, k + 1, h, h1, h2 => by
    have := zCJ (k' := k') (ls := ls) (k := k) (by simpa using h) h1 h2
    simp only [List.set_cons_succ, yd, this]
theorem QOk.renew (h : QOk now cnt bs ls) {k : Nat} {sp : Int} (hk : k < ls.length) (hs : yM sp) : QOk now cnt bs (ls.set k (yy (zG ls k) (now + sp))) := by
  have ht := h.time
  unfold yM at hs
  refine ⟨h.time, h.bnd, h.bpos, h.blen, ?_, fun l hl => ?_, by rw [List.length_set]; exact h.llen, fun k' => by rw [zCJ (x := yy (zG ls k) (now + sp)) hk rfl rfl]; exact h.sums k'⟩
  · rw [List.map_set]
    have : (ls.map (·.id)).set k (yy (zG ls k) (now + sp)).id = ls.map (·.id) := by
      apply List.ext_getElem?
      intro j
      rw [List.getElem?_set]
      split
      · rename_i e
        subst e
        rw [List.length_map, if_pos hk, List.getElem?_map, xM hk]; rfl
      · rfl
    rw [this]; exact h.lup
  · rcases List.mem_or_eq_of_mem_set hl with q | rfl
    · exact h.lok l q
    · have := h.lok _ (yR hk)
      exact ⟨this.1, this.2.1, this.2.2.1, this.2.2.2.1, by show now < max _ _; omega, by show max _ _ ≤ _; omega, this.2.2.2.2.2.2⟩
theorem zFt (h : QOk now cnt bs ls) (r : QRel kb kl bs ls) {s i : Nat} {sp : Int} {x y : LeaD} {e f : Int} {kl' : List (Nat × LeaD)} {ls' : List LeaD} (h1 : zAv now kb kl s i sp x e kl') (h2 : zA0 now bs ls s i sp y f ls') :
    x = y ∧ e = f ∧ QRel kb kl' bs ls' ∧ QOk now cnt bs ls' := by
  have cross : ∀ {l : LeaD}, zf i kl = some l → l.session = s → ¬ ∀ l ∈ ls, ¬ (l.id = i ∧ l.session = s) := fun hl hs q => by
    have := (h.look r).1 hl
    exact q _ this.1 ⟨this.2, hs⟩
  rcases h1 with ⟨a1, rfl, rfl, rfl⟩ | ⟨a1, a2, rfl, rfl, rfl⟩ | ⟨a1, l, a2, a3, a4⟩
  · rcases h2 with ⟨b1, rfl, rfl, rfl⟩ | ⟨b1, _⟩ | ⟨b1, _⟩
    · exact ⟨rfl, rfl, r, h⟩
    · exact absurd b1 a1
    · exact absurd b1 a1
  · rcases h2 with ⟨b1, _⟩ | ⟨b1, b2, rfl, rfl, rfl⟩ | ⟨b1, k, b2, b3, b4, _⟩
    · exact absurd a1 b1
    · exact ⟨rfl, rfl, r, h⟩
    · exact absurd b4 (a2 _ ((h.look r).2 ⟨yR b2, b3⟩))
  · rcases h2 with ⟨b1, _⟩ | ⟨b1, b2, _⟩ | ⟨b1, k, b2, b3, b4, b5⟩
    · exact absurd a1 b1
    · exact absurd b2 (cross a2 a3)
    · have e0 := h.at r b2 b3 a2
      subst e0
      rw [h.bud r, r.lent] at a4
      rcases a4 with ⟨c1, rfl, rfl, rfl⟩ | ⟨c1, rfl, rfl, rfl⟩
      · rcases b5 with ⟨_, rfl, rfl, rfl⟩ | ⟨d1, _⟩
        · exact ⟨rfl, rfl, r, h⟩
        · omega
      · rcases b5 with ⟨d1, _⟩ | ⟨_, rfl, rfl, rfl⟩
        · omega
        · refine ⟨rfl, rfl, ⟨r.b, ?_⟩, h.renew b2 b1⟩
          rw [zG5 (show (yy (zG ls k) (now + sp)).id = i from b3) (zE5 h.lup) b2 b3]
          exact zHw (h.knl r) r.l
theorem QOk.back (h : QOk now cnt bs ls) (k : Nat) : QOk now cnt bs (ls.take k ++ ls.drop (k + 1)) := by
  have hs : (ls.take k ++ ls.drop (k + 1)).Sublist ls := by
    rw [← List.eraseIdx_eq_take_drop_succ]; exact List.eraseIdx_sublist _ _
  exact ⟨h.time, h.bnd, h.bpos, h.blen, h.lup.sublist (hs.map _), fun l hl => h.lok l (hs.subset hl), Nat.le_trans hs.length_le h.llen, fun k' => Int.le_trans (zAx hs h.pos) (h.sums k')⟩
theorem zHy (h : QOk now cnt bs ls) (r : QRel kb kl bs ls) {s i : Nat} {x y : LeaD} {e f : Int} {kl' : List (Nat × LeaD)} {ls' : List LeaD} (h1 : zD5 kl s i x e kl') (h2 : zCf ls s i y f ls') :
    x = y ∧ e = f ∧ QRel kb kl' bs ls' ∧ QOk now cnt bs ls' := by
  rcases h1 with ⟨a2, rfl, rfl, rfl⟩ | ⟨l, a2, a3, rfl, rfl, rfl⟩
  · rcases h2 with ⟨b2, rfl, rfl, rfl⟩ | ⟨k, b2, b3, b4, _⟩
    · exact ⟨rfl, rfl, r, h⟩
    · exact absurd b4 (a2 _ ((h.look r).2 ⟨yR b2, b3⟩))
  · rcases h2 with ⟨b2, _⟩ | ⟨k, b2, b3, b4, rfl, rfl, rfl⟩
    · have := (h.look r).1 a2
      exact absurd ⟨this.2, a3⟩ (b2 _ this.1)
    · have e0 := h.at r b2 b3 a2
      refine ⟨e0, rfl, ⟨r.b, ?_⟩, h.back k⟩
      rw [zHv (zE5 h.lup) b2 b3]
      exact zGm (h.knl r) r.l
theorem QOk.start : QOk 0 0 [] [] := ⟨by omega, by simp, by simp, by simp, by simp, by simp, by simp, by simp [yd]⟩
theorem QRel.start : QRel [] [] [] [] := ⟨.refl _, .refl _⟩
theorem QOk.more (h : QOk now cnt bs ls) {c : Nat} (hc : cnt ≤ c) : QOk now c bs ls := ⟨h.time, h.bnd, h.bpos, h.blen, h.lup, fun l hl => by have := h.lok l hl; exact ⟨this.1, by omega, this.2.2⟩, h.llen, h.sums⟩
end
def QSrt (bs : List BudD) : Prop := (bs.map (·.key)).Pairwise jx
theorem QSrt.nd {bs : List BudD} (h : QSrt bs) : (bs.map (·.key)).Nodup := h.imp fun q e => by rw [e] at q; exact xo _ q
theorem QSrt.at {bs : List BudD} (h : QSrt bs) {i : Nat} (hi : i < bs.length) {x : BudD} (hx : x ∈ bs.take i) : jx x.key (zG bs i).key := by
  obtain ⟨j, hj, e⟩ := List.mem_iff_getElem.1 hx
  have hj' : j < i := by rw [List.length_take] at hj; omega
  have := List.pairwise_iff_getElem.1 h j i (by rw [List.length_map]; omega) (by rw [List.length_map]; exact hi) hj'
  rw [List.getElem_map, List.getElem_map] at this
  rw [List.getElem_take] at e
  have e2 := kc (List.getElem?_eq_getElem hi)
  rw [e2, ← e]; exact this
def InsQ (k : ByteArray) (a : Int) (bs : List BudD) (i : Nat) (q : Bool × List BudD) : Prop :=
  (q.1 = false ∧ q.2 = bs.take i ∧ ∀ x ∈ bs.take i, jx x.key k) ∨
  (q.1 = true ∧ q.2 = (bs.take i).filter (fun x => decide (jx x.key k)) ++ ⟨k, a⟩ :: (bs.take i).filter (fun x => decide (jx k x.key)) ∧ ∃ y ∈ bs.take i, sLe k y.key)
theorem zE1 {l : List BudD} {k : ByteArray} (h : ∀ x ∈ l, jx x.key k) : l.filter (fun x => decide (jx x.key k)) = l ∧ l.filter (fun x => decide (jx k x.key)) = [] :=
  ⟨List.filter_eq_self.2 fun x hx => by simpa using h x hx, List.filter_eq_nil_iff.2 fun x hx => by simpa using jk (h x hx)⟩
theorem InsQ.all {k : ByteArray} {a : Int} {bs : List BudD} (h : QSrt bs) : ∀ i, i ≤ bs.length → InsQ k a bs i ((bs.take i).foldl (y0 k a) (false, []))
  | 0, _ => .inl ⟨rfl, rfl, by simp⟩
  | i + 1, hi => by
    have ih := InsQ.all (k := k) (a := a) h i (by omega)
    have hi' : i < bs.length := by omega
    rw [yP hi', List.foldl_append]
    generalize (bs.take i).foldl (y0 k a) (false, []) = q at ih ⊢
    show InsQ k a bs (i + 1) (y0 k a q (zG bs i))
    unfold InsQ
    rw [yP hi']
    rcases ih with ⟨h1, h2, h3⟩ | ⟨h1, h2, y, hy, h3⟩
    · obtain ⟨f1, f2⟩ := zE1 h3
      by_cases c : sLe k (zG bs i).key
      · right
        refine ⟨by simp [y0, c], ?_, zG bs i, by simp, c⟩
        have e : (y0 k a q (zG bs i)).2 = (q.2 ++ [⟨k, a⟩]) ++ if (zG bs i).key ≠ k then [zG bs i] else [] := by simp only [y0, h1, c, and_self, if_true]
        rw [e, List.filter_append, List.filter_append, f1, f2, List.filter_cons_of_neg (by simp only [decide_eq_true_eq]; exact c), List.filter_nil, List.append_nil, List.nil_append, h2, List.append_assoc]
        congr 1
        by_cases d : (zG bs i).key ≠ k
        · rw [if_pos d, List.filter_cons_of_pos (by simpa using (sLe_iff.1 c).resolve_right fun q => d q.symm)]; rfl
        · rw [if_neg d, List.filter_cons_of_neg (by rw [Decidable.not_not.1 d]; simpa using xo k)]; rfl
      · left
        have hlt : jx (zG bs i).key k := Decidable.not_not.1 c
        have hne : (zG bs i).key ≠ k := fun e => by rw [e] at hlt; exact xo _ hlt
        refine ⟨by simp [y0, h1, c], by simp [y0, h1, c, hne, h2], fun x hx => ?_⟩
        rcases List.mem_append.1 hx with q | q
        · exact h3 x q
        · rw [List.mem_singleton.1 q]; exact hlt
    · right
      have hgt : jx k (zG bs i).key := by
        have := h.at hi' hy
        rcases sLe_iff.1 h3 with q | q
        · exact jb q this
        · rw [q]; exact this
      have hne : (zG bs i).key ≠ k := fun e => by rw [e] at hgt; exact xo _ hgt
      refine ⟨by simp [y0, h1], ?_, y, List.mem_append_left _ hy, h3⟩
      have e : (y0 k a q (zG bs i)).2 = q.2 ++ [zG bs i] := by simp [y0, h1, hne]
      rw [e, List.filter_append, List.filter_append, List.filter_cons_of_neg (by simpa using jk hgt), List.filter_nil, List.append_nil, List.filter_cons_of_pos (by simpa using hgt), List.filter_nil, h2, List.append_assoc]
      rfl
theorem zCd (k : ByteArray) (a : Int) : ∀ (l : List BudD) (out : List BudD), l.foldl (y0 k a) (true, out) = (true, out ++ l.filter fun b => decide (b.key ≠ k))
  | [], out => by simp
  | b :: l, out => by
    rw [List.foldl_cons]
    have e : y0 k a (true, out) b = (true, out ++ if b.key ≠ k then [b] else []) := by simp [y0]
    rw [e, zCd k a l]
    by_cases c : b.key ≠ k
    · rw [if_pos c, List.filter_cons_of_pos (by simpa using c), List.append_assoc]; rfl
    · rw [if_neg c, List.filter_cons_of_neg (by simpa using c), List.append_nil]
theorem zII {k : ByteArray} {a : Int} {bs : List BudD} (h : QSrt bs) : zDO k a bs = if a = 0 then bs.filter (fun b => decide (b.key ≠ k)) else bs.filter (fun x => decide (jx x.key k)) ++ ⟨k, a⟩ :: bs.filter (fun x => decide (jx k x.key)) := by
  unfold zDO
  by_cases c : a = 0
  · rw [if_pos c, decide_eq_true c, zCd]; simp
  · rw [if_neg c, decide_eq_false c]
    have := InsQ.all (k := k) (a := a) h bs.length (Nat.le_refl _)
    rw [List.take_of_length_le (Nat.le_refl _)] at this
    generalize bs.foldl (y0 k a) (false, []) = q at this ⊢
    unfold InsQ at this
    rw [List.take_of_length_le (Nat.le_refl _)] at this
    rcases this with ⟨h1, h2, h3⟩ | ⟨h1, h2, _⟩
    · obtain ⟨f1, f2⟩ := zE1 h3
      show q.2 ++ (if q.1 = false then _ else _) = _
      rw [f1, f2, h1, h2]; rfl
    · show q.2 ++ (if q.1 = false then _ else _) = _
      rw [h1, h2]; simp
theorem QSrt.set {bs : List BudD} (h : QSrt bs) (k : ByteArray) (a : Int) : QSrt (zAs k a bs) := by
  unfold zAs
  split
  · rw [zII h]
    split
    · exact h.sublist (List.filter_sublist.map _)
    · unfold QSrt
      rw [List.map_append, List.map_cons, List.pairwise_append, List.pairwise_cons]
      refine ⟨h.sublist (List.filter_sublist.map _), ⟨fun a ha => ?_, h.sublist (List.filter_sublist.map _)⟩, fun a ha b hb => ?_⟩
      · obtain ⟨x, hx, rfl⟩ := List.mem_map.1 ha
        simpa using (List.mem_filter.1 hx).2
      · obtain ⟨x, hx, rfl⟩ := List.mem_map.1 ha
        have h1 : jx x.key k := by simpa using (List.mem_filter.1 hx).2
        rcases List.mem_cons.1 hb with rfl | hb
        · exact h1
        · obtain ⟨y, hy, rfl⟩ := List.mem_map.1 hb
          exact jb h1 (by simpa using (List.mem_filter.1 hy).2)
  · exact h
theorem QSrt.start : QSrt [] := List.Pairwise.nil
section
variable {now : Int} {cnt : Nat} {bs : List BudD} {ls : List LeaD} {kb : List (ByteArray × Int)} {kl : List (Nat × LeaD)}
end
def zJH (now : Int) (last : Nat) (x : LeaD) : Prop := 1 ≤ x.id ∧ x.id ≤ last ∧ 1 ≤ x.session ∧ yW x.key ∧ 1 ≤ x.amount ∧ now < x.until_ ∧ x.until_ ≤ 4611686018427387904
instance (now : Int) (last : Nat) (x : LeaD) : Decidable (zJH now last x) := inferInstanceAs (Decidable (_ ∧ _))
def BudsOk (bs : List BudD) : Prop := QSrt bs ∧ ∀ b ∈ bs, yW b.key ∧ 1 ≤ b.amount
def LeasOk (now : Int) (last : Nat) (ls : List LeaD) : Prop := (ls.map (·.id)).Pairwise (· < ·) ∧ (∀ l ∈ ls, zJH now last l) ∧ ∀ k, yd k ls ≤ 9223372036854775807
structure LoadOk (now : Int) (last : Nat) (bs : List BudD) (ls : List LeaD) : Prop where
  time : 0 ≤ now ∧ now ≤ 2305843009213693952
  blen : bs.length ≤ 64
  llen : ls.length ≤ 128
  buds : BudsOk bs
  leas : LeasOk now last ls
theorem BudsOk.nil : BudsOk [] := ⟨QSrt.start, by simp⟩
theorem LeasOk.nil (now : Int) (last : Nat) : LeasOk now last [] := ⟨by simp, by simp, by simp [yd]⟩
theorem LeasOk.pos {now : Int} {last : Nat} {ls : List LeaD} (h : LeasOk now last ls) : Pos ls := fun x hx => (h.2.1 x hx).2.2.2.2.1
theorem LoadOk.ok {now : Int} {last : Nat} {bs : List BudD} {ls : List LeaD} (h : LoadOk now last bs ls) (hi : ∀ b ∈ bs, yx b.amount) : QOk now last bs ls ∧ QSrt bs :=
  ⟨⟨h.time, h.buds.1.nd, fun b hb => ⟨(h.buds.2 b hb).2, (hi b hb).2, (h.buds.2 b hb).1⟩, h.blen, h.leas.1, fun l hl => by have := h.leas.2.1 l hl; exact ⟨this.1, this.2.1, this.2.2.1, this.2.2.2.2.1, this.2.2.2.2.2.1, this.2.2.2.2.2.2, this.2.2.2.1⟩, h.llen, h.leas.2.2⟩, h.buds.1⟩
section
variable {now : Int} {last : Nat} {bs : List BudD} {ls : List LeaD} {i : Nat}
end
end Go.Sc
