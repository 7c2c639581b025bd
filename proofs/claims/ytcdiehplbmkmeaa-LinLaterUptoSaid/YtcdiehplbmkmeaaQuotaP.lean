import Derived.Test.YtcdiehplbmkmeaaFwO
set_option linter.unusedVariables false
set_option linter.unusedSectionVars false
set_option linter.unusedSimpArgs false
namespace Go.Sc
section
variable {κ α : Type} [DecidableEq κ]
def KNd (l : List (κ × α)) : Prop := (l.map (·.1)).Nodup
theorem KNd.cons {p : κ × α} {l : List (κ × α)} : KNd (p :: l) ↔ (∀ q ∈ l, q.1 ≠ p.1) ∧ KNd l := by
  unfold KNd
  rw [List.map_cons, List.nodup_cons]
  refine and_congr ⟨fun h q hq e => h (e ▸ List.mem_map_of_mem hq), fun h e => ?_⟩ Iff.rfl
  obtain ⟨q, hq, e⟩ := List.mem_map.1 e
  exact h q hq e
theorem KNd.perm {l m : List (κ × α)} (h : KNd l) (hp : l.Perm m) : KNd m := (hp.map _).nodup_iff.1 h
theorem KNd.sub {l m : List (κ × α)} (h : KNd l) (hs : m.Sublist l) : KNd m := h.sublist (hs.map _)
theorem jC {k : κ} : ∀ {l : List (κ × α)}, zX k l = none ↔ ∀ p ∈ l, p.1 ≠ k
  | [] => by simp [zX]
  | (x, u) :: r => by
    have ih := jC (k := k) (l := r)
    unfold zX
    by_cases h : k = x
    · simp only [h, if_true, List.mem_cons]
      refine ⟨fun q => (by simp at q), fun q => absurd rfl (q (x, u) (.inl rfl))⟩
    · rw [if_neg h, ih]
      refine ⟨fun q p hp => ?_, fun q p hp => q p (List.mem_cons_of_mem _ hp)⟩
      rcases List.mem_cons.1 hp with rfl | hp
      · exact fun e => h e.symm
      · exact q p hp
theorem kq {k : κ} {v : α} : ∀ {l : List (κ × α)}, zX k l = some v → (k, v) ∈ l
  | [], h => by simp [zX] at h
  | (x, u) :: r, h => by
    unfold zX at h
    split at h
    · rename_i e; simp at h; subst h e; exact List.mem_cons_self ..
    · exact List.mem_cons_of_mem _ (kq h)
theorem jq {k : κ} {v : α} : ∀ {l : List (κ × α)}, KNd l → (k, v) ∈ l → zX k l = some v
  | [], _, h => by simp at h
  | (x, u) :: r, hn, h => by
    have hn := KNd.cons.1 hn
    unfold zX
    rcases List.mem_cons.1 h with e | h
    · simp only [Prod.mk.injEq] at e; rw [if_pos e.1, e.2]
    · rw [if_neg (fun e => hn.1 _ h e)]; exact jq hn.2 h
theorem jI {k : κ} {l m : List (κ × α)} (hn : KNd l) (hp : l.Perm m) : zX k l = zX k m := by
  cases h : zX k l with
  | none =>
    symm; rw [jC] at h ⊢
    exact fun p q => h p (hp.mem_iff.2 q)
  | some v => exact (jq (hn.perm hp) (hp.mem_iff.1 (kq h))).symm
theorem xc {k : κ} : ∀ {l : List (κ × α)}, KNd l → xo k l = l.filter fun p => decide (p.1 ≠ k)
  | [], _ => rfl
  | (x, u) :: r, hn => by
    have hn := KNd.cons.1 hn
    unfold xo
    by_cases h : k = x
    · subst h
      rw [if_pos rfl, List.filter_cons_of_neg (by simp)]
      exact (List.filter_eq_self.2 fun p hp => by simpa using hn.1 p hp).symm
    · rw [if_neg h, List.filter_cons_of_pos (by simpa using fun e : x = k => h e.symm), xc hn.2]
theorem xr {k : κ} {v : α} : ∀ {l : List (κ × α)}, KNd l → (yj k v l).Perm ((k, v) :: l.filter fun p => decide (p.1 ≠ k))
  | [], _ => .refl _
  | (x, u) :: r, hn => by
    have hn := KNd.cons.1 hn
    unfold yj
    by_cases h : k = x
    · subst h
      rw [if_pos rfl, List.filter_cons_of_neg (by simp), List.filter_eq_self.2 fun p hp => by simpa using hn.1 p hp]
    · rw [if_neg h, List.filter_cons_of_pos (by simpa using fun e : x = k => h e.symm)]
      exact ((xr hn.2).cons _).trans (.swap ..)
theorem zCn {k : κ} {v : α} : ∀ {l : List (κ × α)}, zX k l = none → yj k v l = l ++ [(k, v)]
  | [], _ => rfl
  | (x, u) :: r, h => by
    unfold zX at h
    split at h
    · simp at h
    · rename_i e; unfold yj; rw [if_neg e, zCn h]; rfl
theorem zCp {k j : κ} {v : α} : ∀ {l : List (κ × α)}, zX j (yj k v l) = if j = k then some v else zX j l
  | [] => by simp [yj, zX]
  | (x, u) :: r => by
    have ih := zCp (k := k) (j := j) (v := v) (l := r)
    unfold yj
    by_cases h : k = x
    · subst h
      rw [if_pos rfl]; unfold zX
      by_cases e : j = k <;> simp [e]
    · rw [if_neg h]; unfold zX
      rw [ih]
      by_cases e : j = x
      · rw [if_pos e, if_pos e, if_neg (fun q => h (q.symm.trans e))]
      · rw [if_neg e, if_neg e]
theorem KNd.put {k : κ} {v : α} {l : List (κ × α)} (hn : KNd l) : KNd (yj k v l) := by
  refine KNd.perm ?_ (xr hn).symm
  rw [KNd.cons]
  exact ⟨fun q hq => by have := (List.mem_filter.1 hq).2; simpa using this, hn.sub List.filter_sublist⟩
end
structure LeaD where
  id : Nat
  session : Nat
  key : ByteArray
  amount : Int
  until_ : Int
  deriving DecidableEq
structure BudD where
  key : ByteArray
  amount : Int
  deriving DecidableEq
def LeaD.cells (x : LeaD) : List Value := [.int .u64 x.id, .int .u64 x.session, .string x.key, .int .i64 x.amount, .int .i64 x.until_]
def BudD.cells (x : BudD) : List Value := [.string x.key, .int .i64 x.amount]
def LeaD.zero : LeaD := ⟨0, 0, ⟨#[]⟩, 0, 0⟩
instance : Inhabited LeaD := ⟨LeaD.zero⟩
instance : Inhabited BudD := ⟨⟨⟨#[]⟩, 0⟩⟩
def KB (bs : List BudD) : List (ByteArray × Int) := bs.map fun b => (b.key, b.amount)
def KL (ls : List LeaD) : List (Nat × LeaD) := ls.map fun l => (l.id, l)
theorem zIT (ls : List LeaD) : (KL ls).length = ls.length := by simp [KL]
theorem zIp (bs : List BudD) : (KB bs).length = bs.length := by simp [KB]
theorem zEy (p : LeaD → Bool) (ls : List LeaD) : KL (ls.filter p) = (KL ls).filter fun q => p q.2 := by
  unfold KL; rw [List.filter_map]; rfl
theorem zIO (ls : List LeaD) : (KL ls).map (·.2) = ls := by
  unfold KL; rw [List.map_map]; exact List.map_id ls
theorem zJZ {k : ByteArray} : k ≠ (⟨#[]⟩ : ByteArray) ↔ 1 ≤ k.size := by
  obtain ⟨d⟩ := k
  show _ ↔ 1 ≤ d.size
  constructor
  · intro h
    rcases Nat.eq_zero_or_pos d.size with q | q
    · exact absurd (by rw [Array.eq_empty_of_size_eq_zero q]) h
    · exact q
  · intro h e
    have : d = #[] := congrArg ByteArray.data e
    rw [this] at h; simp at h
def yM (k : ByteArray) : List LeaD → Int
  | [] => 0
  | l :: r => (if l.key = k then l.amount else 0) + yM k r
theorem zBq (k : ByteArray) (l m : List LeaD) : yM k (l ++ m) = yM k l + yM k m := by
  induction l with
  | nil => simp [yM]
  | cons a l ih => simp only [List.cons_append, yM, ih]; omega
theorem zDX {k : ByteArray} {l m : List LeaD} (h : l.Perm m) : yM k l = yM k m := by
  induction h with
  | nil => rfl
  | cons a _ ih => simp only [yM, ih]
  | swap a b l => simp only [yM]; omega
  | trans _ _ h1 h2 => rw [h1, h2]
def Pos (l : List LeaD) : Prop := ∀ x ∈ l, 1 ≤ x.amount
theorem zAu {k : ByteArray} : ∀ {l : List LeaD}, Pos l → 0 ≤ yM k l
  | [], _ => Int.le_refl _
  | a :: l, h => by
    have h1 := zAu (k := k) (l := l) fun x hx => h x (List.mem_cons_of_mem _ hx)
    have h2 := h a (List.mem_cons_self ..)
    simp only [yM]; split <;> omega
theorem zAM {k : ByteArray} {l m : List LeaD} (h : m.Sublist l) (hp : Pos l) : yM k m ≤ yM k l := by
  induction h with
  | slnil => exact Int.le_refl _
  | cons a _ ih =>
    have := ih fun x hx => hp x (List.mem_cons_of_mem _ hx)
    have h2 := hp a (List.mem_cons_self ..)
    simp only [yM]; split <;> omega
  | cons_cons a _ ih =>
    have := ih fun x hx => hp x (List.mem_cons_of_mem _ hx)
    simp only [yM]; omega
def xF (k : ByteArray) (l : List LeaD) : Int := IntKind.i64.wrap (yM k l)
def z3 (k : ByteArray) (kl : List (Nat × LeaD)) : Int := xF k (kl.map (·.2))
theorem zDS {k : ByteArray} {kl : List (Nat × LeaD)} {ls : List LeaD} (h : kl.Perm (KL ls)) : z3 k kl = xF k ls := by
  unfold z3 xF
  rw [zDX (h.map _), zIO]
theorem zFf (a b : Int) : IntKind.i64.wrap (IntKind.i64.wrap a + b) = IntKind.i64.wrap (a + b) := by
  unfold IntKind.wrap
  simp [IntKind.bits, IntKind.signed]
  repeat' split
  all_goals omega
theorem zIk {α : Type} {p q : Prop} [Decidable p] [Decidable q] {a b : α} (h : p ↔ q) : (if p then a else b) = if q then a else b := by
  by_cases c : p
  · rw [if_pos c, if_pos (h.1 c)]
  · rw [if_neg c, if_neg fun q => c (h.2 q)]
def xa (k : ByteArray) (bs : List BudD) : Int := (zX k (KB bs)).getD 0
theorem zAP (k : ByteArray) (l1 l2 : List (Nat × LeaD)) (i : Nat) (v : LeaD) : yM k ((l1 ++ (i, v) :: l2).map (·.2)) = yM k ((l1 ++ l2).map (·.2)) + (if v.key = k then v.amount else 0) := by
  simp only [List.map_append, List.map_cons, zBq, yM]; omega
def yp (k : ByteArray) : Prop := 1 ≤ k.size ∧ k.size ≤ 64
instance (k : ByteArray) : Decidable (yp k) := inferInstanceAs (Decidable (_ ∧ _))
def yE (n : Int) : Prop := 1 ≤ n ∧ n ≤ 1099511627776
instance (n : Int) : Decidable (yE n) := inferInstanceAs (Decidable (_ ∧ _))
def yQ (now n : Int) : Int := if n < 0 ∨ 1099511627776 < n then 1 else if 2305843009213693952 < now + n then 3 else 0
def zAR (now n : Int) : Int := if yQ now n = 0 then now + n else now
def zBO (t : Int) (l : LeaD) : Bool := decide (l.until_ ≤ t)
def passG (now n : Int) (ls : List LeaD) : List Nat := if yQ now n = 0 then (ls.filter (zBO (now + n))).map (·.id) else []
def zBB (now n : Int) (ls : List LeaD) : List LeaD := if yQ now n = 0 then ls.filter (fun l => !zBO (now + n) l) else ls
def zAq (now n : Int) (kl : List (Nat × LeaD)) : List Nat := if yQ now n = 0 then (kl.filter fun p => zBO (now + n) p.2).map (·.1) else []
def kY (now n : Int) (kl : List (Nat × LeaD)) : List (Nat × LeaD) := if yQ now n = 0 then kl.filter (fun p => !zBO (now + n) p.2) else kl
def xj (k : ByteArray) (a : Int) (kb : List (ByteArray × Int)) : Int :=
  if ¬ yp k ∨ a < 0 then 1 else if a ≠ 0 ∧ zX k kb = none ∧ 64 ≤ kb.length then 7 else 0
def zBR (k : ByteArray) (a : Int) (kb : List (ByteArray × Int)) : List (ByteArray × Int) :=
  if xj k a kb = 0 then (if a = 0 then xo k kb else yj k a kb) else kb
def zDT (k : ByteArray) (a : Int) (bs : List BudD) : Int :=
  if ¬ yp k ∨ a < 0 then 1 else if xa k bs = 0 ∧ 0 < a ∧ 64 ≤ bs.length then 7 else 0
def xM (k : ByteArray) (a : Int) (q : Bool × List BudD) (b : BudD) : Bool × List BudD :=
  (q.1 || decide (sLe k b.key), (q.2 ++ if q.1 = false ∧ sLe k b.key then [⟨k, a⟩] else []) ++ if b.key ≠ k then [b] else [])
def zDd (k : ByteArray) (a : Int) (bs : List BudD) : List BudD :=
  let q := bs.foldl (xM k a) (decide (a = 0), [])
  q.2 ++ if q.1 = false then [⟨k, a⟩] else []
def zDC (k : ByteArray) (a : Int) (bs : List BudD) : List BudD := if zDT k a bs = 0 then zDd k a bs else bs
def yu (s : Nat) (k : ByteArray) (a sp : Int) : Prop := s = 0 ∨ ¬ yp k ∨ a < 1 ∨ ¬ yE sp
instance (s : Nat) (k : ByteArray) (a sp : Int) : Decidable (yu s k a sp) := inferInstanceAs (Decidable (_ ∨ _))
def xA (s : Nat) (k : ByteArray) (a sp : Int) (kb : List (ByteArray × Int)) (kl : List (Nat × LeaD)) : Int :=
  if yu s k a sp then 1 else if zX k kb = none then 8 else if 9223372036854775807 < z3 k kl + a then 3 else if (zX k kb).getD 0 < z3 k kl + a then 16 else if 128 ≤ kl.length then 7 else 0
def ko (s : Nat) (k : ByteArray) (a sp : Int) (bs : List BudD) (ls : List LeaD) : Int :=
  if yu s k a sp then 1 else if xa k bs = 0 then 8 else if 9223372036854775807 < xF k ls + a then 3 else if xa k bs < xF k ls + a then 16 else if 128 ≤ ls.length then 7 else 0
def k9 (e : Int) (cnt s : Nat) (k : ByteArray) (a t : Int) : LeaD := if e = 0 then ⟨cnt + 1, s, k, a, t⟩ else LeaD.zero
def xH (l : LeaD) (t : Int) : LeaD := ⟨l.id, l.session, l.key, l.amount, max l.until_ t⟩
def zAK (now : Int) (kb : List (ByteArray × Int)) (kl : List (Nat × LeaD)) (s i : Nat) (sp : Int) (x : LeaD) (e : Int) (kl' : List (Nat × LeaD)) : Prop :=
  (¬ yE sp ∧ e = 1 ∧ x = LeaD.zero ∧ kl' = kl) ∨
  (yE sp ∧ (∀ l, zX i kl = some l → l.session ≠ s) ∧ e = 17 ∧ x = LeaD.zero ∧ kl' = kl) ∨
  (yE sp ∧ ∃ l, zX i kl = some l ∧ l.session = s ∧ (((zX l.key kb).getD 0 < z3 l.key kl ∧ e = 16 ∧ x = LeaD.zero ∧ kl' = kl) ∨ (z3 l.key kl ≤ (zX l.key kb).getD 0 ∧ e = 0 ∧ x = xH l (now + sp) ∧ kl' = yj i x kl)))
def zDb (now : Int) (bs : List BudD) (ls : List LeaD) (s i : Nat) (sp : Int) (x : LeaD) (e : Int) (ls' : List LeaD) : Prop :=
  (¬ yE sp ∧ e = 1 ∧ x = LeaD.zero ∧ ls' = ls) ∨
  (yE sp ∧ (∀ l ∈ ls, ¬ (l.id = i ∧ l.session = s)) ∧ e = 17 ∧ x = LeaD.zero ∧ ls' = ls) ∨
  (yE sp ∧ ∃ k, k < ls.length ∧ (zG ls k).id = i ∧ (zG ls k).session = s ∧ ((xa (zG ls k).key bs < xF (zG ls k).key ls ∧ e = 16 ∧ x = LeaD.zero ∧ ls' = ls) ∨ (xF (zG ls k).key ls ≤ xa (zG ls k).key bs ∧ e = 0 ∧ x = xH (zG ls k) (now + sp) ∧ ls' = ls.set k x)))
def zCZ (kl : List (Nat × LeaD)) (s i : Nat) (x : LeaD) (e : Int) (kl' : List (Nat × LeaD)) : Prop :=
  ((∀ l, zX i kl = some l → l.session ≠ s) ∧ e = 17 ∧ x = LeaD.zero ∧ kl' = kl) ∨
  (∃ l, zX i kl = some l ∧ l.session = s ∧ e = 0 ∧ x = l ∧ kl' = xo i kl)
def zFB (ls : List LeaD) (s i : Nat) (x : LeaD) (e : Int) (ls' : List LeaD) : Prop :=
  ((∀ l ∈ ls, ¬ (l.id = i ∧ l.session = s)) ∧ e = 17 ∧ x = LeaD.zero ∧ ls' = ls) ∨
  (∃ k, k < ls.length ∧ (zG ls k).id = i ∧ (zG ls k).session = s ∧ e = 0 ∧ x = zG ls k ∧ ls' = ls.take k ++ ls.drop (k + 1))
theorem zBj {k : ByteArray} {a : Int} {kb : List (ByteArray × Int)} (h : ¬ yp k ∨ a < 0) : xj k a kb = 1 := if_pos h
theorem zBE {k : ByteArray} {a : Int} {kb : List (ByteArray × Int)} (h : ¬ (¬ yp k ∨ a < 0)) (h2 : ¬ a = 0) (h3 : (!(zX k kb).isSome) = true ∧ 64 ≤ ((kb.length : Nat) : Int)) : xj k a kb = 7 := by
  unfold xj
  rw [if_neg h, if_pos ⟨h2, by simpa using h3.1, by omega⟩]
theorem zBW {k : ByteArray} {a : Int} {kb : List (ByteArray × Int)} (h : ¬ (¬ yp k ∨ a < 0)) (h2 : a = 0) : xj k a kb = 0 := by
  unfold xj
  rw [if_neg h, if_neg fun q => q.1 h2]
theorem zBv {k : ByteArray} {a : Int} {kb : List (ByteArray × Int)} (h : ¬ (¬ yp k ∨ a < 0)) (h3 : ¬ ((!(zX k kb).isSome) = true ∧ 64 ≤ ((kb.length : Nat) : Int))) : xj k a kb = 0 := by
  unfold xj
  rw [if_neg h, if_neg fun q => h3 ⟨by simp [q.2.1], by omega⟩]
theorem zCx {k : ByteArray} {a e : Int} {kb : List (ByteArray × Int)} (h : xj k a kb = e) (he : e ≠ 0) : kb = zBR k a kb := by
  unfold zBR; rw [if_neg (by rw [h]; exact he)]
theorem zFq {k : ByteArray} {a : Int} {kb : List (ByteArray × Int)} (h : xj k a kb = 0) (h2 : a = 0) : xo k kb = zBR k a kb := by
  unfold zBR; rw [if_pos h, if_pos h2]
theorem zE7 {k : ByteArray} {a : Int} {kb : List (ByteArray × Int)} (h : xj k a kb = 0) (h2 : ¬ a = 0) : yj k a kb = zBR k a kb := by
  unfold zBR; rw [if_pos h, if_neg h2]
def zD1 (e : Int) (x : LeaD) (kl : List (Nat × LeaD)) : List (Nat × LeaD) := if e = 0 then yj x.id x kl else kl
def zAv (e : Int) (x : LeaD) (ls : List LeaD) : List LeaD := if e = 0 then ls ++ [x] else ls
def zAW (e : Int) (cnt : Nat) : Nat := if e = 0 then cnt + 1 else cnt
theorem larg {s : Nat} {k : ByteArray} {a sp : Int} : (((((s : Nat) : Int) = ((0 : Nat) : Int)) ∨ ¬ yp k) ∨ a < 1) ∨ ¬ yE sp ↔ yu s k a sp := by
  unfold yu
  rw [or_assoc, or_assoc]
  refine or_congr ?_ Iff.rfl
  omega
section
variable {s : Nat} {k : ByteArray} {a sp : Int} {kb : List (ByteArray × Int)} {kl : List (Nat × LeaD)}
theorem zH2 (h : yu s k a sp) : xA s k a sp kb kl = 1 := if_pos h
theorem zJ4 (h : ¬ yu s k a sp) (h2 : (!(zX k kb).isSome) = true) : xA s k a sp kb kl = 8 := by
  unfold xA; rw [if_neg h, if_pos (by simpa using h2)]
theorem zAi {α : Type} {o : Option α} (h : ¬ (!o.isSome) = true) : ¬ o = none := by cases o <;> simp_all
theorem zJf (h : ¬ yu s k a sp) (h2 : ¬ (!(zX k kb).isSome) = true) (h3 : 9223372036854775807 < z3 k kl + a) : xA s k a sp kb kl = 3 := by
  unfold xA; rw [if_neg h, if_neg (zAi h2), if_pos h3]
theorem zIH (h : ¬ yu s k a sp) (h2 : ¬ (!(zX k kb).isSome) = true) (h3 : ¬ 9223372036854775807 < z3 k kl + a) (h4 : (zX k kb).getD 0 < z3 k kl + a) : xA s k a sp kb kl = 16 := by
  unfold xA; rw [if_neg h, if_neg (zAi h2), if_neg h3, if_pos h4]
theorem zJE (h : ¬ yu s k a sp) (h2 : ¬ (!(zX k kb).isSome) = true) (h3 : ¬ 9223372036854775807 < z3 k kl + a) (h4 : ¬ (zX k kb).getD 0 < z3 k kl + a) (h5 : 128 ≤ ((kl.length : Nat) : Int)) : xA s k a sp kb kl = 7 := by
  unfold xA; rw [if_neg h, if_neg (zAi h2), if_neg h3, if_neg h4, if_pos (by omega)]
theorem zJ7 (h : ¬ yu s k a sp) (h2 : ¬ (!(zX k kb).isSome) = true) (h3 : ¬ 9223372036854775807 < z3 k kl + a) (h4 : ¬ (zX k kb).getD 0 < z3 k kl + a) (h5 : ¬ 128 ≤ ((kl.length : Nat) : Int)) : xA s k a sp kb kl = 0 := by
  unfold xA; rw [if_neg h, if_neg (zAi h2), if_neg h3, if_neg h4, if_neg (by omega)]
theorem zGM {n m e : Int} (h : (9223372036854775807 < zG [n, a] 0 + zG [n, a] 1 ∧ e = 3 ∧ m = 0) ∨ (zG [n, a] 0 + zG [n, a] 1 ≤ 9223372036854775807 ∧ e = 0 ∧ m = zG [n, a] 0 + zG [n, a] 1)) (hn : n = z3 k kl) :
    (9223372036854775807 < z3 k kl + a ∧ e = 3) ∨ (¬ 9223372036854775807 < z3 k kl + a ∧ e = 0 ∧ m = z3 k kl + a) := by
  rw [show zG [n, a] 0 = n from rfl, show zG [n, a] 1 = a from rfl, hn] at h
  omega
theorem kh {m e : Int} (h : (9223372036854775807 < z3 k kl + a ∧ e = 3) ∨ (¬ 9223372036854775807 < z3 k kl + a ∧ e = 0 ∧ m = z3 k kl + a)) (he : e ≠ 0) : 9223372036854775807 < z3 k kl + a ∧ e = 3 := by
  rcases h with h | h
  · exact h
  · exact absurd h.2.1 he
theorem kK {m e : Int} (h : (9223372036854775807 < z3 k kl + a ∧ e = 3) ∨ (¬ 9223372036854775807 < z3 k kl + a ∧ e = 0 ∧ m = z3 k kl + a)) (he : ¬ e ≠ 0) : ¬ 9223372036854775807 < z3 k kl + a ∧ m = z3 k kl + a := by
  rcases h with h | h
  · omega
  · exact ⟨h.1, h.2.2⟩
end
theorem zBA {a b n x n' e : Int} {k : Nat} (hk : k < 2) (hI : (k = 0 → n = 0) ∧ (k = 1 → n = a) ∧ (k = 2 → n = a + b)) (hx : (k = 0 → x = a) ∧ (k = 1 → x = b))
    (h : (9223372036854775807 < n + x ∧ e = 3 ∧ n' = 0) ∨ (n + x ≤ 9223372036854775807 ∧ e = 0 ∧ n' = n + x)) (ha : 0 ≤ a ∧ a ≤ 9223372036854775807) (hb : -9223372036854775808 ≤ b ∧ b ≤ 9223372036854775807) :
    (e ≠ 0 → 9223372036854775807 < a + b ∧ e = 3) ∧ (¬ e ≠ 0 → ((k + 1 = 0 → n' = 0) ∧ (k + 1 = 1 → n' = a) ∧ (k + 1 = 2 → n' = a + b)) ∧ ((k + 1 < 2 → 0 ≤ n') ∧ n' ≤ 9223372036854775807)) := by
  rcases (show k = 0 ∨ k = 1 by omega) with rfl | rfl <;> omega
def kS (t : Int) (kl : List (Nat × LeaD)) : List Nat := (kl.filter fun p => zBO t p.2).map (·.1)
def PassI (t : Int) (kl todo kv : List (Nat × LeaD)) (g : List Nat) : Prop :=
  todo.Sublist kl ∧ kv = kl.filter (fun p => decide (p.1 ∉ g)) ∧ (g ++ kS t todo).Perm (kS t kl)
theorem PassI.start (t : Int) (kl : List (Nat × LeaD)) : PassI t kl kl kl [] :=
  ⟨List.Sublist.refl _, (List.filter_eq_self.2 fun _ _ => by simp).symm, .refl _⟩
theorem js (t : Int) (l m : List (Nat × LeaD)) : kS t (l ++ m) = kS t l ++ kS t m := by unfold kS; rw [List.filter_append, List.map_append]
theorem zD0 {α : Type} {l m : List α} {a : α} : (l ++ m).Sublist (l ++ a :: m) := List.Sublist.append_left (List.sublist_cons_self ..) _
theorem PassI.out {t : Int} {kl todo kv q1 q2 : List (Nat × LeaD)} {g : List Nat} {k : Nat} {v : LeaD} (h : PassI t kl todo kv g) (hn : KNd kl) (hq : todo = q1 ++ (k, v) :: q2) : ∀ q ∈ q1 ++ q2, q.1 ≠ k := by
  have hs := hn.sub h.1
  rw [hq] at hs
  have : KNd ((k, v) :: (q1 ++ q2)) := hs.perm List.perm_middle
  exact (KNd.cons.1 this).1
theorem PassI.yes {t : Int} {kl todo kv q1 q2 : List (Nat × LeaD)} {g : List Nat} {k : Nat} {v : LeaD} (h : PassI t kl todo kv g) (hn : KNd kl) (hq : todo = q1 ++ (k, v) :: q2) (hd : v.until_ ≤ t) : PassI t kl (q1 ++ q2) (xo k kv) (g ++ [k]) := by
  refine ⟨(hq ▸ zD0 : (q1 ++ q2).Sublist todo).trans h.1, ?_, ?_⟩
  · have hkv : KNd kv := by rw [h.2.1]; exact hn.sub List.filter_sublist
    rw [xc hkv, h.2.1, List.filter_filter]
    congr 1
    funext p
    simp only [List.mem_append, List.mem_singleton, not_or, Bool.decide_and, ne_eq]
    rw [Bool.and_comm]
  · refine List.Perm.trans ?_ h.2.2
    rw [hq, js, js, List.append_assoc]
    refine List.Perm.append_left _ ?_
    have : kS t ((k, v) :: q2) = k :: kS t q2 := by unfold kS; rw [List.filter_cons_of_pos (by simpa [zBO] using hd)]; rfl
    rw [this]
    exact (List.perm_middle (l₁ := kS t q1) (l₂ := kS t q2) (a := k)).symm
theorem PassI.no {t : Int} {kl todo kv q1 q2 : List (Nat × LeaD)} {g : List Nat} {k : Nat} {v : LeaD} (h : PassI t kl todo kv g) (hq : todo = q1 ++ (k, v) :: q2) (hd : ¬ v.until_ ≤ t) : PassI t kl (q1 ++ q2) kv g := by
  refine ⟨(hq ▸ zD0 : (q1 ++ q2).Sublist todo).trans h.1, h.2.1, ?_⟩
  refine List.Perm.trans (.of_eq ?_) h.2.2
  rw [hq, js, js]
  have : kS t ((k, v) :: q2) = kS t q2 := by unfold kS; rw [List.filter_cons_of_neg (by simpa [zBO] using hd)]
  rw [this]
theorem PassI.len {t : Int} {kl todo kv : List (Nat × LeaD)} {g : List Nat} (h : PassI t kl todo kv g) : g.length ≤ kl.length := by
  have := h.2.2.length_eq
  have h2 : (kS t kl).length ≤ kl.length := by unfold kS; rw [List.length_map]; exact List.length_filter_le _ _
  rw [List.length_append] at this; omega
theorem zCI {now n : Int} (h : ¬ (n < 0 ∨ 1099511627776 < n)) (h2 : ¬ 2305843009213693952 - n < now) : yQ now n = 0 := by unfold yQ; rw [if_neg h, if_neg (by omega)]
theorem zB8 {now n : Int} (h : ¬ (n < 0 ∨ 1099511627776 < n)) (h2 : 2305843009213693952 - n < now) : yQ now n = 3 := by unfold yQ; rw [if_neg h, if_pos (by omega)]
theorem zCN {now n : Int} (h : n < 0 ∨ 1099511627776 < n) : yQ now n = 1 := if_pos h
theorem xe {now n e : Int} {kl : List (Nat × LeaD)} (h : yQ now n = e) (he : e ≠ 0) : e = yQ now n ∧ now = zAR now n ∧ kl = kY now n kl ∧ List.Perm [] (zAq now n kl) := by
  have h0 : ¬ yQ now n = 0 := by rw [h]; exact he
  exact ⟨h.symm, (if_neg h0).symm, (if_neg h0).symm, by unfold zAq; rw [if_neg h0]⟩
theorem PassI.done {now n : Int} {kl todo kv : List (Nat × LeaD)} {g : List Nat} (h : PassI (now + n) kl todo kv g) (h0 : todo = []) (hn : KNd kl) (he : yQ now n = 0) :
    0 = yQ now n ∧ now + n = zAR now n ∧ kv = kY now n kl ∧ g.Perm (zAq now n kl) := by
  have hg : g.Perm (kS (now + n) kl) := by have := h.2.2; rw [h0] at this; simpa [kS] using this
  refine ⟨he.symm, (if_pos he).symm, ?_, by unfold zAq; rw [if_pos he]; exact hg⟩
  unfold kY
  rw [if_pos he, h.2.1]
  refine List.filter_congr fun p hp => ?_
  have : p.1 ∈ g ↔ zBO (now + n) p.2 = true := by
    rw [hg.mem_iff]; unfold kS
    constructor
    · intro q
      obtain ⟨q, hq, e⟩ := List.mem_map.1 q
      obtain ⟨h1, h2⟩ := List.mem_filter.1 hq
      have e1 := jq hn (show (p.1, q.2) ∈ kl by rw [← e]; exact h1)
      have e2 := jq hn (show (p.1, p.2) ∈ kl from hp)
      rw [e1] at e2
      rw [← Option.some.inj e2]; exact h2
    · exact fun q => List.mem_map.2 ⟨p, List.mem_filter.2 ⟨hp, q⟩, rfl⟩
  cases hd : zBO (now + n) p.2 with
  | true => simp [this.2 hd]
  | false => simp; exact fun q => by have := this.1 q; rw [hd] at this; cases this
structure QOk (now : Int) (cnt : Nat) (bs : List BudD) (ls : List LeaD) : Prop where
  time : 0 ≤ now ∧ now ≤ 2305843009213693952
  bnd : (bs.map (·.key)).Nodup
  bpos : ∀ b ∈ bs, 1 ≤ b.amount ∧ b.amount ≤ 9223372036854775807 ∧ yp b.key
  blen : bs.length ≤ 64
  lup : (ls.map (·.id)).Pairwise (· < ·)
  lok : ∀ l ∈ ls, 1 ≤ l.id ∧ l.id ≤ cnt ∧ 1 ≤ l.session ∧ 1 ≤ l.amount ∧ now < l.until_ ∧ l.until_ ≤ 4611686018427387904 ∧ yp l.key
  llen : ls.length ≤ 128
  sums : ∀ k, yM k ls ≤ 9223372036854775807
structure QRel (kb : List (ByteArray × Int)) (kl : List (Nat × LeaD)) (bs : List BudD) (ls : List LeaD) : Prop where
  b : kb.Perm (KB bs)
  l : kl.Perm (KL ls)
section
variable {now : Int} {cnt : Nat} {bs : List BudD} {ls : List LeaD} {kb : List (ByteArray × Int)} {kl : List (Nat × LeaD)}
theorem QOk.pos (h : QOk now cnt bs ls) : Pos ls := fun x hx => (h.lok x hx).2.2.2.1
theorem QOk.lent (h : QOk now cnt bs ls) (k : ByteArray) : xF k ls = yM k ls := zr ⟨by have := zAu (k := k) h.pos; omega, h.sums k⟩
theorem QOk.lent0 (h : QOk now cnt bs ls) (k : ByteArray) : 0 ≤ xF k ls ∧ xF k ls ≤ 9223372036854775807 := by rw [h.lent]; exact ⟨zAu h.pos, h.sums k⟩
theorem zJO (h : (bs.map (·.key)).Nodup) : KNd (KB bs) := by unfold KNd KB; rw [List.map_map]; exact h
theorem zEM (h : (ls.map (·.id)).Pairwise (· < ·)) : KNd (KL ls) := by
  unfold KNd KL; rw [List.map_map]
  exact h.imp fun q => by omega
theorem QOk.knb (h : QOk now cnt bs ls) (r : QRel kb kl bs ls) : KNd kb := (zJO h.bnd).perm r.b.symm
theorem QOk.knl (h : QOk now cnt bs ls) (r : QRel kb kl bs ls) : KNd kl := (zEM h.lup).perm r.l.symm
theorem QRel.lent (r : QRel kb kl bs ls) (k : ByteArray) : z3 k kl = xF k ls := zDS r.l
theorem QOk.bud (h : QOk now cnt bs ls) (r : QRel kb kl bs ls) (k : ByteArray) : (zX k kb).getD 0 = xa k bs := by
  unfold xa; rw [jI (h.knb r) r.b]
theorem zEE {k : ByteArray} {v : Int} (h : zX k (KB bs) = some v) : ∃ b ∈ bs, b.key = k ∧ b.amount = v := by
  have := kq h
  unfold KB at this
  obtain ⟨b, hb, e⟩ := List.mem_map.1 this
  simp only [Prod.mk.injEq] at e
  exact ⟨b, hb, e.1, e.2⟩
theorem QOk.none (h : QOk now cnt bs ls) (r : QRel kb kl bs ls) (k : ByteArray) : zX k kb = none ↔ xa k bs = 0 := by
  unfold xa
  rw [jI (h.knb r) r.b]
  cases e : zX k (KB bs) with
  | none => simp
  | some v =>
    obtain ⟨b, hb, _, e⟩ := zEE e
    have := (h.bpos b hb).1
    simp; omega
theorem zI9 (h : KNd (KL ls)) {i : Nat} {l : LeaD} : zX i (KL ls) = some l ↔ l ∈ ls ∧ l.id = i := by
  constructor
  · intro e
    have := kq e
    unfold KL at this
    obtain ⟨x, hx, e⟩ := List.mem_map.1 this
    simp only [Prod.mk.injEq] at e
    exact ⟨e.2 ▸ hx, e.2 ▸ e.1⟩
  · rintro ⟨h1, h2⟩
    exact jq h (List.mem_map.2 ⟨l, h1, by rw [h2]⟩)
theorem QOk.look (h : QOk now cnt bs ls) (r : QRel kb kl bs ls) {i : Nat} {l : LeaD} : zX i kl = some l ↔ l ∈ ls ∧ l.id = i := by
  rw [jI (h.knl r) r.l]; exact zI9 (zEM h.lup)
theorem QRel.blen (r : QRel kb kl bs ls) : kb.length = bs.length := by rw [r.b.length_eq, zIp]
theorem QRel.llen (r : QRel kb kl bs ls) : kl.length = ls.length := by rw [r.l.length_eq, zIT]
theorem QRel.pass (r : QRel kb kl bs ls) (n : Int) : QRel kb (kY now n kl) bs (zBB now n ls) := by
  refine ⟨r.b, ?_⟩
  unfold kY zBB
  split
  · rw [zEy]; exact r.l.filter _
  · exact r.l
theorem QOk.pass (h : QOk now cnt bs ls) (n : Int) (hn : yd n) : QOk (zAR now n) cnt bs (zBB now n ls) := by
  have h0 := h.time
  by_cases e : yQ now n = 0
  · have e1 : 0 ≤ n ∧ now + n ≤ 2305843009213693952 := by
      unfold yQ at e
      split at e
      · omega
      · split at e <;> omega
    unfold zAR zBB
    rw [if_pos e, if_pos e]
    refine ⟨by omega, h.bnd, h.bpos, h.blen, h.lup.sublist (List.filter_sublist.map _), fun l hl => ?_, Nat.le_trans (List.length_filter_le _ _) h.llen, fun k => Int.le_trans (zAM List.filter_sublist h.pos) (h.sums k)⟩
    obtain ⟨h1, h2⟩ := List.mem_filter.1 hl
    have h3 := h.lok l h1
    have h4 : ¬ l.until_ ≤ now + n := by simpa [zBO] using h2
    exact ⟨h3.1, h3.2.1, h3.2.2.1, h3.2.2.2.1, by omega, h3.2.2.2.2.2⟩
  · unfold zAR zBB; rw [if_neg e, if_neg e]; exact h
theorem zBZ {k : ByteArray} {a : Int} : ∀ (l : List BudD) (p : Bool) (out : List BudD),
    ((l.foldl (xM k a) (p, out)).2.Perm (out ++ ((if p = false ∧ (l.foldl (xM k a) (p, out)).1 = true then [⟨k, a⟩] else []) ++ l.filter fun b => decide (b.key ≠ k)))) ∧ (p = true → (l.foldl (xM k a) (p, out)).1 = true)
  | [], p, out => by
    refine ⟨?_, id⟩
    have : ¬ (p = false ∧ p = true) := by rintro ⟨h, k⟩; rw [h] at k; cases k
    simp [this]
  | b :: l, p, out => by
    rw [List.foldl_cons]
    obtain ⟨h1, h2⟩ := zBZ (k := k) (a := a) l (xM k a (p, out) b).1 (xM k a (p, out) b).2
    rw [show ((xM k a (p, out) b).fst, (xM k a (p, out) b).snd) = xM k a (p, out) b from rfl] at h1 h2
    generalize l.foldl (xM k a) (xM k a (p, out) b) = q at h1 h2 ⊢
    simp only [xM] at h1 h2
    refine ⟨h1.trans ?_, fun hp => h2 (by rw [hp]; rfl)⟩
    have e : (b :: l).filter (fun b => decide (b.key ≠ k)) = (if b.key ≠ k then [b] else []) ++ l.filter fun b => decide (b.key ≠ k) := by
      by_cases c : b.key = k
      · rw [List.filter_cons_of_neg (by simpa using c), if_neg (by simpa using c)]; rfl
      · rw [List.filter_cons_of_pos (by simpa using c), if_pos c]; rfl
    rw [e]
    generalize (if b.key ≠ k then [b] else []) = bb
    generalize l.filter (fun b => decide (b.key ≠ k)) = fl
    cases p with
    | true => simp [List.append_assoc]
    | false =>
      by_cases c : sLe k b.key
      · have hq := h2 (by simp [c])
        simp only [c, hq, and_self, if_true, decide_true, Bool.or_true, Bool.false_eq_true, if_false, false_and, List.append_assoc, List.nil_append, true_and, Bool.true_eq_false]
        exact .refl _
      · simp only [c, and_false, if_false, decide_false, Bool.or_false, List.append_nil, List.append_assoc, true_and]
        refine List.Perm.append_left _ ?_
        rw [← List.append_assoc, ← List.append_assoc]
        exact List.Perm.append_right _ List.perm_append_comm
theorem zBk (k : ByteArray) (a : Int) (bs : List BudD) : (zDd k a bs).Perm ((if a = 0 then [] else [⟨k, a⟩]) ++ bs.filter fun b => decide (b.key ≠ k)) := by
  unfold zDd
  obtain ⟨h1, h2⟩ := zBZ (k := k) (a := a) bs (decide (a = 0)) []
  generalize bs.foldl (xM k a) (decide (a = 0), []) = q at h1 h2 ⊢
  show (q.2 ++ _).Perm _
  rw [List.nil_append] at h1
  by_cases c : a = 0
  · have hq := h2 (by simp [c])
    simp only [c, hq, decide_true, Bool.true_eq_false, if_true, if_false, false_and, List.append_nil, List.nil_append] at h1 ⊢
    simpa using h1
  · rw [if_neg c]
    simp only [c, decide_false, true_and] at h1
    cases hq : q.1 with
    | true => rw [hq, if_pos rfl] at h1; simpa using h1
    | false =>
      rw [hq, if_neg (by simp), List.nil_append] at h1
      rw [if_pos rfl]
      exact (List.Perm.append_right _ h1).trans List.perm_append_comm
theorem zE0 (k : ByteArray) (bs : List BudD) : KB (bs.filter fun b => decide (b.key ≠ k)) = (KB bs).filter fun p => decide (p.1 ≠ k) := by
  unfold KB; rw [List.filter_map]; rfl
theorem zEp (h : QOk now cnt bs ls) (r : QRel kb kl bs ls) (k : ByteArray) (a : Int) : (if a = 0 then xo k kb else yj k a kb).Perm (KB (zDd k a bs)) := by
  have hk := h.knb r
  have h2 : (KB (zDd k a bs)).Perm ((if a = 0 then [] else [(k, a)]) ++ (KB bs).filter fun p => decide (p.1 ≠ k)) := by
    have := (zBk k a bs).map fun b => (b.key, b.amount)
    refine this.trans ?_
    rw [List.map_append, ← zE0]
    split <;> exact .refl _
  refine List.Perm.trans ?_ h2.symm
  split
  · rw [xc hk, List.nil_append]; exact r.b.filter _
  · exact (xr hk).trans ((r.b.filter _).cons _)
theorem zEL (h : QOk now cnt bs ls) (r : QRel kb kl bs ls) (k : ByteArray) (a : Int) : xj k a kb = zDT k a bs := by
  unfold xj zDT
  by_cases c : ¬ yp k ∨ a < 0
  · rw [if_pos c, if_pos c]
  · rw [if_neg c, if_neg c]
    have := h.none r k
    rw [r.blen]
    exact zIk ⟨fun q => ⟨this.1 q.2.1, by omega, q.2.2⟩, fun q => ⟨by omega, this.2 q.1, q.2.2⟩⟩
theorem QRel.set (h : QOk now cnt bs ls) (r : QRel kb kl bs ls) (k : ByteArray) (a : Int) : QRel (zBR k a kb) kl (zDC k a bs) ls := by
  refine ⟨?_, r.l⟩
  unfold zBR zDC
  rw [zEL h r]
  split
  · exact zEp h r k a
  · exact r.b
theorem zEU {k : ByteArray} (h : QOk now cnt bs ls) : xa k bs = 0 ↔ ∀ b ∈ bs, b.key ≠ k := by
  unfold xa
  cases e : zX k (KB bs) with
  | none =>
    rw [jC] at e
    refine ⟨fun _ b hb => e (b.key, b.amount) (List.mem_map.2 ⟨b, hb, rfl⟩), fun _ => rfl⟩
  | some v =>
    obtain ⟨b, hb, hk, e⟩ := zEE e
    have := (h.bpos b hb).1
    refine ⟨fun q => (by simp at q; omega), fun q => absurd hk (q b hb)⟩
theorem QOk.set (h : QOk now cnt bs ls) (k : ByteArray) (a : Int) (ha : yd a) : QOk now cnt (zDC k a bs) ls := by
  unfold zDC
  split
  · rename_i e
    have e1 : yp k ∧ 0 ≤ a ∧ ¬ (xa k bs = 0 ∧ 0 < a ∧ 64 ≤ bs.length) := by
      unfold zDT at e
      split at e
      · omega
      · rename_i c
        split at e
        · omega
        · rename_i c2
          exact ⟨Decidable.by_contra fun q => c (.inl q), by omega, c2⟩
    have hp := zBk k a bs
    refine ⟨h.time, ?_, fun b hb => ?_, ?_, h.lup, h.lok, h.llen, h.sums⟩
    · refine (hp.map (·.key)).nodup_iff.2 ?_
      rw [List.map_append]
      have hf : ((bs.filter fun b => decide (b.key ≠ k)).map (·.key)).Nodup := h.bnd.sublist (List.filter_sublist.map _)
      split
      · exact hf
      · rw [List.map_cons, List.map_nil, List.singleton_append, List.nodup_cons]
        refine ⟨fun q => ?_, hf⟩
        obtain ⟨b, hb, e⟩ := List.mem_map.1 q
        have := (List.mem_filter.1 hb).2
        simp at this; exact this e
    · rcases List.mem_append.1 (hp.mem_iff.1 hb) with q | q
      · split at q
        · cases q
        · rw [List.mem_singleton.1 q]; exact ⟨by show 1 ≤ a; omega, ha.2, e1.1⟩
      · exact h.bpos b (List.mem_filter.1 q).1
    · rw [hp.length_eq, List.length_append]
      have h1 := h.blen
      have h2 := List.length_filter_le (fun b : BudD => decide (b.key ≠ k)) bs
      split
      · simp; simpa using Nat.le_trans h2 h1
      · by_cases c : xa k bs = 0
        · have : ¬ 64 ≤ bs.length := fun q => e1.2.2 ⟨c, by omega, q⟩
          simp only [List.length_cons, List.length_nil]; omega
        · have : (bs.filter fun b => decide (b.key ≠ k)).length < bs.length := by
            refine Nat.lt_of_le_of_ne h2 fun q => c ((zEU h).2 fun b hb => ?_)
            have := List.length_filter_eq_length_iff.1 q b hb
            simpa using this
          simp only [List.length_cons, List.length_nil]; omega
  · exact h
theorem zF5 (h : QOk now cnt bs ls) (r : QRel kb kl bs ls) (s : Nat) (k : ByteArray) (a sp : Int) : xA s k a sp kb kl = ko s k a sp bs ls := by
  unfold xA ko
  rw [h.bud r k, r.lent, r.llen]
  by_cases c : zX k kb = none
  · rw [if_pos c, if_pos ((h.none r k).1 c)]
  · rw [if_neg c, if_neg fun q => c ((h.none r k).2 q)]
theorem zCy {s : Nat} {k : ByteArray} {a sp : Int} (e : ko s k a sp bs ls = 0) : (s ≠ 0 ∧ yp k ∧ 1 ≤ a ∧ yE sp) ∧ xa k bs ≠ 0 ∧ xF k ls + a ≤ 9223372036854775807 ∧ xF k ls + a ≤ xa k bs ∧ ls.length < 128 := by
  unfold ko at e
  split at e
  · omega
  · rename_i c1
    split at e
    · omega
    · split at e
      · omega
      · split at e
        · omega
        · split at e
          · omega
          · unfold yu at c1
            exact ⟨⟨fun q => c1 (.inl q), Decidable.by_contra fun q => c1 (.inr (.inl q)), by omega, Decidable.by_contra fun q => c1 (.inr (.inr (.inr q)))⟩, by assumption, by omega, by omega, by omega⟩
theorem QRel.lend (h : QOk now cnt bs ls) (r : QRel kb kl bs ls) {e : Int} {x : LeaD} (hx : e = 0 → x.id = cnt + 1) : QRel kb (zD1 e x kl) bs (zAv e x ls) := by
  refine ⟨r.b, ?_⟩
  unfold zD1 zAv
  split
  · rename_i c
    rw [hx c, zCn]
    · unfold KL; rw [List.map_append, List.map_cons, List.map_nil, hx c]
      exact r.l.append_right _
    · rw [jC]
      intro p hp e
      obtain ⟨l, hl, rfl⟩ := List.mem_map.1 (r.l.mem_iff.1 hp)
      have := (h.lok l hl).2.1
      simp only at e; omega
  · exact r.l
theorem QOk.lend (h : QOk now cnt bs ls) {s : Nat} {k : ByteArray} {a sp : Int} {e : Int} (he : e = ko s k a sp bs ls) : QOk now (zAW e cnt) bs (zAv e (k9 e cnt s k a (now + sp)) ls) := by
  unfold zAW zAv k9
  split
  · rename_i c
    obtain ⟨⟨h1, h2, h3, h4⟩, h5, h6, h7, h8⟩ := zCy (he.symm.trans c)
    have ht := h.time
    unfold yE at h4
    refine ⟨h.time, h.bnd, h.bpos, h.blen, ?_, fun l hl => ?_, by rw [List.length_append, List.length_singleton]; omega, fun k' => ?_⟩
    · rw [List.map_append, List.pairwise_append]
      refine ⟨h.lup, by simp, fun i hi j hj => ?_⟩
      obtain ⟨l, hl, rfl⟩ := List.mem_map.1 hi
      have := (h.lok l hl).2.1
      simp at hj; omega
    · rcases List.mem_append.1 hl with q | q
      · have := h.lok l q; exact ⟨this.1, by omega, this.2.2⟩
      · rw [List.mem_singleton.1 q]
        exact ⟨by show 1 ≤ cnt + 1; omega, Nat.le_refl _, by show 1 ≤ s; omega, h3, by show now < now + sp; omega, by show now + sp ≤ _; omega, h2⟩
    · rw [zBq]
      have := h.sums k'
      simp only [yM]
      split
      · rename_i q; rw [← q, ← h.lent]; omega
      · omega
  · exact h
theorem zFK {i : Nat} {x : LeaD} {l m : List (Nat × LeaD)} (hn : KNd l) (hp : l.Perm m) : (yj i x l).Perm (yj i x m) :=
  (xr hn).trans (((hp.filter _).cons _).trans (xr (hn.perm hp)).symm)
theorem zGG {i : Nat} {l m : List (Nat × LeaD)} (hn : KNd l) (hp : l.Perm m) : (xo i l).Perm (xo i m) := by
  rw [xc hn, xc (hn.perm hp)]; exact hp.filter _
theorem zFF {i : Nat} {x : LeaD} (hx : x.id = i) : ∀ {ls : List LeaD} {k : Nat}, KNd (KL ls) → k < ls.length → (zG ls k).id = i → KL (ls.set k x) = yj i x (KL ls)
  | [], k, _, h, _ => absurd h (Nat.not_lt_zero _)
  | l :: ls, 0, _, _, h => by
    have : l.id = i := h
    simp [KL, yj, this, hx]
  | l :: ls, k + 1, hn, h, hk => by
    have hk' : (zG ls k).id = i := hk
    have hlt : k < ls.length := by simpa using h
    have hn' := KNd.cons.1 hn
    have ih := zFF hx hn'.2 hlt hk'
    have hne : ¬ i = l.id := fun e => hn'.1 (i, zG ls k) (List.mem_map.2 ⟨zG ls k, yH hlt, by rw [hk']⟩) e
    show (l.id, l) :: KL (ls.set k x) = yj i x ((l.id, l) :: KL ls)
    rw [ih]; simp only [yj, if_neg hne]
theorem zFM {i : Nat} : ∀ {ls : List LeaD} {k : Nat}, KNd (KL ls) → k < ls.length → (zG ls k).id = i → KL (ls.take k ++ ls.drop (k + 1)) = xo i (KL ls)
  | [], k, _, h, _ => absurd h (Nat.not_lt_zero _)
  | l :: ls, 0, _, _, h => by
    have : l.id = i := h
    simp [KL, xo, this]
  | l :: ls, k + 1, hn, h, hk => by
    have hk' : (zG ls k).id = i := hk
    have hlt : k < ls.length := by simpa using h
    have hn' := KNd.cons.1 hn
    have ih := zFM hn'.2 hlt hk'
    have hne : ¬ i = l.id := fun e => hn'.1 (i, zG ls k) (List.mem_map.2 ⟨zG ls k, yH hlt, by rw [hk']⟩) e
    show (l.id, l) :: KL (ls.take k ++ ls.drop (k + 1)) = xo i ((l.id, l) :: KL ls)
    rw [ih]; simp only [xo, if_neg hne]
theorem QOk.at (h : QOk now cnt bs ls) (r : QRel kb kl bs ls) {i k : Nat} {l : LeaD} (hk : k < ls.length) (hi : (zG ls k).id = i) (hl : zX i kl = some l) : l = zG ls k := by
  have := (h.look r).2 ⟨yH hk, hi⟩
  rw [hl] at this; exact Option.some.inj this
theorem zBu {k' : ByteArray} {x : LeaD} : ∀ {ls : List LeaD} {k : Nat}, k < ls.length → x.key = (zG ls k).key → x.amount = (zG ls k).amount → yM k' (ls.set k x) = yM k' ls
  | [], k, h, _, _ => absurd h (Nat.not_lt_zero _)
  | l :: ls, 0, _, h1, h2 => by
    have e1 : x.key = l.key := h1
    have e2 : x.amount = l.amount := h2
    simp only [List.set_cons_zero, yM, e1, e2]
  | l :: ls, k + 1, h, h1, h2 => by
    have := zBu (k' := k') (ls := ls) (k := k) (by simpa using h) h1 h2
    simp only [List.set_cons_succ, yM, this]
theorem QOk.renew (h : QOk now cnt bs ls) {k : Nat} {sp : Int} (hk : k < ls.length) (hs : yE sp) : QOk now cnt bs (ls.set k (xH (zG ls k) (now + sp))) := by
  have ht := h.time
  unfold yE at hs
  refine ⟨h.time, h.bnd, h.bpos, h.blen, ?_, fun l hl => ?_, by rw [List.length_set]; exact h.llen, fun k' => by rw [zBu (x := xH (zG ls k) (now + sp)) hk rfl rfl]; exact h.sums k'⟩
  · rw [List.map_set]
    have : (ls.map (·.id)).set k (xH (zG ls k) (now + sp)).id = ls.map (·.id) := by
      apply List.ext_getElem?
      intro j
      rw [List.getElem?_set]
      split
      · rename_i e
        subst e
        rw [List.length_map, if_pos hk, List.getElem?_map, xy hk]; rfl
      · rfl
    rw [this]; exact h.lup
  · rcases List.mem_or_eq_of_mem_set hl with q | rfl
    · exact h.lok l q
    · have := h.lok _ (yH hk)
      exact ⟨this.1, this.2.1, this.2.2.1, this.2.2.2.1, by show now < max _ _; omega, by show max _ _ ≤ _; omega, this.2.2.2.2.2.2⟩
theorem zEe (h : QOk now cnt bs ls) (r : QRel kb kl bs ls) {s i : Nat} {sp : Int} {x y : LeaD} {e f : Int} {kl' : List (Nat × LeaD)} {ls' : List LeaD} (h1 : zAK now kb kl s i sp x e kl') (h2 : zDb now bs ls s i sp y f ls') :
    x = y ∧ e = f ∧ QRel kb kl' bs ls' ∧ QOk now cnt bs ls' := by
  have cross : ∀ {l : LeaD}, zX i kl = some l → l.session = s → ¬ ∀ l ∈ ls, ¬ (l.id = i ∧ l.session = s) := fun hl hs q => by
    have := (h.look r).1 hl
    exact q _ this.1 ⟨this.2, hs⟩
  rcases h1 with ⟨a1, rfl, rfl, rfl⟩ | ⟨a1, a2, rfl, rfl, rfl⟩ | ⟨a1, l, a2, a3, a4⟩
  · rcases h2 with ⟨b1, rfl, rfl, rfl⟩ | ⟨b1, _⟩ | ⟨b1, _⟩
    · exact ⟨rfl, rfl, r, h⟩
    · exact absurd b1 a1
    · exact absurd b1 a1
  · rcases h2 with ⟨b1, _⟩ | ⟨b1, b2, rfl, rfl, rfl⟩ | ⟨b1, k, b2, b3, b4, _⟩
    · exact absurd a1 b1
    · exact ⟨rfl, rfl, r, h⟩
    · exact absurd b4 (a2 _ ((h.look r).2 ⟨yH b2, b3⟩))
  · rcases h2 with ⟨b1, _⟩ | ⟨b1, b2, _⟩ | ⟨b1, k, b2, b3, b4, b5⟩
    · exact absurd a1 b1
    · exact absurd b2 (cross a2 a3)
    · have e0 := h.at r b2 b3 a2
      subst e0
      rw [h.bud r, r.lent] at a4
      rcases a4 with ⟨c1, rfl, rfl, rfl⟩ | ⟨c1, rfl, rfl, rfl⟩
      · rcases b5 with ⟨_, rfl, rfl, rfl⟩ | ⟨d1, _⟩
        · exact ⟨rfl, rfl, r, h⟩
        · omega
      · rcases b5 with ⟨d1, _⟩ | ⟨_, rfl, rfl, rfl⟩
        · omega
        · refine ⟨rfl, rfl, ⟨r.b, ?_⟩, h.renew b2 b1⟩
          rw [zFF (show (xH (zG ls k) (now + sp)).id = i from b3) (zEM h.lup) b2 b3]
          exact zFK (h.knl r) r.l
theorem QOk.back (h : QOk now cnt bs ls) (k : Nat) : QOk now cnt bs (ls.take k ++ ls.drop (k + 1)) := by
  have hs : (ls.take k ++ ls.drop (k + 1)).Sublist ls := by
    rw [← List.eraseIdx_eq_take_drop_succ]; exact List.eraseIdx_sublist _ _
  exact ⟨h.time, h.bnd, h.bpos, h.blen, h.lup.sublist (hs.map _), fun l hl => h.lok l (hs.subset hl), Nat.le_trans hs.length_le h.llen, fun k' => Int.le_trans (zAM hs h.pos) (h.sums k')⟩
theorem zFA (h : QOk now cnt bs ls) (r : QRel kb kl bs ls) {s i : Nat} {x y : LeaD} {e f : Int} {kl' : List (Nat × LeaD)} {ls' : List LeaD} (h1 : zCZ kl s i x e kl') (h2 : zFB ls s i y f ls') :
    x = y ∧ e = f ∧ QRel kb kl' bs ls' ∧ QOk now cnt bs ls' := by
  rcases h1 with ⟨a2, rfl, rfl, rfl⟩ | ⟨l, a2, a3, rfl, rfl, rfl⟩
  · rcases h2 with ⟨b2, rfl, rfl, rfl⟩ | ⟨k, b2, b3, b4, _⟩
    · exact ⟨rfl, rfl, r, h⟩
    · exact absurd b4 (a2 _ ((h.look r).2 ⟨yH b2, b3⟩))
  · rcases h2 with ⟨b2, _⟩ | ⟨k, b2, b3, b4, rfl, rfl, rfl⟩
    · have := (h.look r).1 a2
      exact absurd ⟨this.2, a3⟩ (b2 _ this.1)
    · have e0 := h.at r b2 b3 a2
      refine ⟨e0, rfl, ⟨r.b, ?_⟩, h.back k⟩
      rw [zFM (zEM h.lup) b2 b3]
      exact zGG (h.knl r) r.l
theorem QOk.start : QOk 0 0 [] [] := ⟨by omega, by simp, by simp, by simp, by simp, by simp, by simp, by simp [yM]⟩
theorem QRel.start : QRel [] [] [] [] := ⟨.refl _, .refl _⟩
end
def QSrt (bs : List BudD) : Prop := (bs.map (·.key)).Pairwise ji
theorem QSrt.nd {bs : List BudD} (h : QSrt bs) : (bs.map (·.key)).Nodup := h.imp fun q e => by rw [e] at q; exact xR _ q
theorem QSrt.at {bs : List BudD} (h : QSrt bs) {i : Nat} (hi : i < bs.length) {x : BudD} (hx : x ∈ bs.take i) : ji x.key (zG bs i).key := by
  obtain ⟨j, hj, e⟩ := List.mem_iff_getElem.1 hx
  have hj' : j < i := by rw [List.length_take] at hj; omega
  have := List.pairwise_iff_getElem.1 h j i (by rw [List.length_map]; omega) (by rw [List.length_map]; exact hi) hj'
  rw [List.getElem_map, List.getElem_map] at this
  rw [List.getElem_take] at e
  have e2 := zAC (List.getElem?_eq_getElem hi)
  rw [e2, ← e]; exact this
def InsQ (k : ByteArray) (a : Int) (bs : List BudD) (i : Nat) (q : Bool × List BudD) : Prop :=
  (q.1 = false ∧ q.2 = bs.take i ∧ ∀ x ∈ bs.take i, ji x.key k) ∨
  (q.1 = true ∧ q.2 = (bs.take i).filter (fun x => decide (ji x.key k)) ++ ⟨k, a⟩ :: (bs.take i).filter (fun x => decide (ji k x.key)) ∧ ∃ y ∈ bs.take i, sLe k y.key)
theorem zEN {l : List BudD} {k : ByteArray} (h : ∀ x ∈ l, ji x.key k) : l.filter (fun x => decide (ji x.key k)) = l ∧ l.filter (fun x => decide (ji k x.key)) = [] :=
  ⟨List.filter_eq_self.2 fun x hx => by simpa using h x hx, List.filter_eq_nil_iff.2 fun x hx => by simpa using jD (h x hx)⟩
theorem InsQ.all {k : ByteArray} {a : Int} {bs : List BudD} (h : QSrt bs) : ∀ i, i ≤ bs.length → InsQ k a bs i ((bs.take i).foldl (xM k a) (false, []))
  | 0, _ => .inl ⟨rfl, rfl, by simp⟩
  | i + 1, hi => by
    have ih := InsQ.all (k := k) (a := a) h i (by omega)
    have hi' : i < bs.length := by omega
    rw [xd hi', List.foldl_append]
    generalize (bs.take i).foldl (xM k a) (false, []) = q at ih ⊢
    show InsQ k a bs (i + 1) (xM k a q (zG bs i))
    unfold InsQ
    rw [xd hi']
    rcases ih with ⟨h1, h2, h3⟩ | ⟨h1, h2, y, hy, h3⟩
    · obtain ⟨f1, f2⟩ := zEN h3
      by_cases c : sLe k (zG bs i).key
      · right
        refine ⟨by simp [xM, c], ?_, zG bs i, by simp, c⟩
        have e : (xM k a q (zG bs i)).2 = (q.2 ++ [⟨k, a⟩]) ++ if (zG bs i).key ≠ k then [zG bs i] else [] := by simp only [xM, h1, c, and_self, if_true]
        rw [e, List.filter_append, List.filter_append, f1, f2, List.filter_cons_of_neg (by simp only [decide_eq_true_eq]; exact c), List.filter_nil, List.append_nil, List.nil_append, h2, List.append_assoc]
        congr 1
        by_cases d : (zG bs i).key ≠ k
        · rw [if_pos d, List.filter_cons_of_pos (by simpa using (sLe_iff.1 c).resolve_right fun q => d q.symm)]; rfl
        · rw [if_neg d, List.filter_cons_of_neg (by rw [Decidable.not_not.1 d]; simpa using xR k)]; rfl
      · left
        have hlt : ji (zG bs i).key k := Decidable.not_not.1 c
        have hne : (zG bs i).key ≠ k := fun e => by rw [e] at hlt; exact xR _ hlt
        refine ⟨by simp [xM, h1, c], by simp [xM, h1, c, hne, h2], fun x hx => ?_⟩
        rcases List.mem_append.1 hx with q | q
        · exact h3 x q
        · rw [List.mem_singleton.1 q]; exact hlt
    · right
      have hgt : ji k (zG bs i).key := by
        have := h.at hi' hy
        rcases sLe_iff.1 h3 with q | q
        · exact jJ q this
        · rw [q]; exact this
      have hne : (zG bs i).key ≠ k := fun e => by rw [e] at hgt; exact xR _ hgt
      refine ⟨by simp [xM, h1], ?_, y, List.mem_append_left _ hy, h3⟩
      have e : (xM k a q (zG bs i)).2 = q.2 ++ [zG bs i] := by simp [xM, h1, hne]
      rw [e, List.filter_append, List.filter_append, List.filter_cons_of_neg (by simpa using jD hgt), List.filter_nil, List.append_nil, List.filter_cons_of_pos (by simpa using hgt), List.filter_nil, h2, List.append_assoc]
      rfl
theorem zBV (k : ByteArray) (a : Int) : ∀ (l : List BudD) (out : List BudD), l.foldl (xM k a) (true, out) = (true, out ++ l.filter fun b => decide (b.key ≠ k))
  | [], out => by simp
  | b :: l, out => by
    rw [List.foldl_cons]
    have e : xM k a (true, out) b = (true, out ++ if b.key ≠ k then [b] else []) := by simp [xM]
    rw [e, zBV k a l]
    by_cases c : b.key ≠ k
    · rw [if_pos c, List.filter_cons_of_pos (by simpa using c), List.append_assoc]; rfl
    · rw [if_neg c, List.filter_cons_of_neg (by simpa using c), List.append_nil]
theorem zHA {k : ByteArray} {a : Int} {bs : List BudD} (h : QSrt bs) : zDd k a bs = if a = 0 then bs.filter (fun b => decide (b.key ≠ k)) else bs.filter (fun x => decide (ji x.key k)) ++ ⟨k, a⟩ :: bs.filter (fun x => decide (ji k x.key)) := by
  unfold zDd
  by_cases c : a = 0
  · rw [if_pos c, decide_eq_true c, zBV]; simp
  · rw [if_neg c, decide_eq_false c]
    have := InsQ.all (k := k) (a := a) h bs.length (Nat.le_refl _)
    rw [List.take_of_length_le (Nat.le_refl _)] at this
    generalize bs.foldl (xM k a) (false, []) = q at this ⊢
    unfold InsQ at this
    rw [List.take_of_length_le (Nat.le_refl _)] at this
    rcases this with ⟨h1, h2, h3⟩ | ⟨h1, h2, _⟩
    · obtain ⟨f1, f2⟩ := zEN h3
      show q.2 ++ (if q.1 = false then _ else _) = _
      rw [f1, f2, h1, h2]; rfl
    · show q.2 ++ (if q.1 = false then _ else _) = _
      rw [h1, h2]; simp
theorem QSrt.set {bs : List BudD} (h : QSrt bs) (k : ByteArray) (a : Int) : QSrt (zDC k a bs) := by
  unfold zDC
  split
  · rw [zHA h]
    split
    · exact h.sublist (List.filter_sublist.map _)
    · unfold QSrt
      rw [List.map_append, List.map_cons, List.pairwise_append, List.pairwise_cons]
      refine ⟨h.sublist (List.filter_sublist.map _), ⟨fun a ha => ?_, h.sublist (List.filter_sublist.map _)⟩, fun a ha b hb => ?_⟩
      · obtain ⟨x, hx, rfl⟩ := List.mem_map.1 ha
        simpa using (List.mem_filter.1 hx).2
      · obtain ⟨x, hx, rfl⟩ := List.mem_map.1 ha
        have h1 : ji x.key k := by simpa using (List.mem_filter.1 hx).2
        rcases List.mem_cons.1 hb with rfl | hb
        · exact h1
        · obtain ⟨y, hy, rfl⟩ := List.mem_map.1 hb
          exact jJ h1 (by simpa using (List.mem_filter.1 hy).2)
  · exact h
theorem QSrt.start : QSrt [] := List.Pairwise.nil
section
variable {now : Int} {cnt : Nat} {bs : List BudD} {ls : List LeaD} {kb : List (ByteArray × Int)} {kl : List (Nat × LeaD)}
end
def zH0 (now : Int) (last : Nat) (x : LeaD) : Prop := 1 ≤ x.id ∧ x.id ≤ last ∧ 1 ≤ x.session ∧ yp x.key ∧ 1 ≤ x.amount ∧ now < x.until_ ∧ x.until_ ≤ 4611686018427387904
instance (now : Int) (last : Nat) (x : LeaD) : Decidable (zH0 now last x) := inferInstanceAs (Decidable (_ ∧ _))
def BudsOk (bs : List BudD) : Prop := QSrt bs ∧ ∀ b ∈ bs, yp b.key ∧ 1 ≤ b.amount
def LeasOk (now : Int) (last : Nat) (ls : List LeaD) : Prop := (ls.map (·.id)).Pairwise (· < ·) ∧ (∀ l ∈ ls, zH0 now last l) ∧ ∀ k, yM k ls ≤ 9223372036854775807
structure LoadOk (now : Int) (last : Nat) (bs : List BudD) (ls : List LeaD) : Prop where
  time : 0 ≤ now ∧ now ≤ 2305843009213693952
  blen : bs.length ≤ 64
  llen : ls.length ≤ 128
  buds : BudsOk bs
  leas : LeasOk now last ls
theorem BudsOk.nil : BudsOk [] := ⟨QSrt.start, by simp⟩
theorem LeasOk.nil (now : Int) (last : Nat) : LeasOk now last [] := ⟨by simp, by simp, by simp [yM]⟩
theorem LeasOk.pos {now : Int} {last : Nat} {ls : List LeaD} (h : LeasOk now last ls) : Pos ls := fun x hx => (h.2.1 x hx).2.2.2.2.1
theorem LoadOk.ok {now : Int} {last : Nat} {bs : List BudD} {ls : List LeaD} (h : LoadOk now last bs ls) (hi : ∀ b ∈ bs, yd b.amount) : QOk now last bs ls ∧ QSrt bs :=
  ⟨⟨h.time, h.buds.1.nd, fun b hb => ⟨(h.buds.2 b hb).2, (hi b hb).2, (h.buds.2 b hb).1⟩, h.blen, h.leas.1, fun l hl => by have := h.leas.2.1 l hl; exact ⟨this.1, this.2.1, this.2.2.1, this.2.2.2.2.1, this.2.2.2.2.2.1, this.2.2.2.2.2.2, this.2.2.2.1⟩, h.llen, h.leas.2.2⟩, h.buds.1⟩
section
variable {now : Int} {last : Nat} {bs : List BudD} {ls : List LeaD} {i : Nat}
end
end Go.Sc
