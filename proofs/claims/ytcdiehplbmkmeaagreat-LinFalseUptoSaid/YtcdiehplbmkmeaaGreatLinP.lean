import Derived.Test.YtcdiehplbmkmeaaGreatLedF
set_option linter.unusedSectionVars false
set_option linter.unusedSimpArgs false
set_option linter.unusedVariables false
set_option maxRecDepth 10000
namespace Go.Proofs.YtcdiehplbmkmeaaGreat
open Go Go.Sc Go.Proofs
structure CallD where
  edge : Int
  look : Bool
  lazy : Bool
  cmd : CmdD
  key : ByteArray
  beg : Int
  fin : Int
  reply : RepD
  cap : Int
  lent : Int
  deriving DecidableEq
instance : Inhabited CallD := ⟨⟨0, false, false, zIh, ⟨#[]⟩, 0, 0, repZ, 0, 0⟩⟩
def CallD.cells (x : CallD) : List Value := [.int .i64 x.edge, .bool x.look, .bool x.lazy] ++ (x.cmd.cells ++ ([.string x.key, .int .i64 x.beg, .int .i64 x.fin] ++ (x.reply.cells ++ [.int .i64 x.cap, .int .i64 x.lent])))
structure CallD.wf (x : CallD) : Prop where
  edge : yx x.edge
  cmd : x.cmd.wf
  key : x.key.size ≤ 1048576
  beg : yx x.beg
  fin : yx x.fin
  reply : x.reply.wf
structure MovD where
  call : Int
  delta : Int
  deriving DecidableEq
instance : Inhabited MovD := ⟨⟨0, 0⟩⟩
def MovD.cells (x : MovD) : List Value := [.int .i64 x.call, .int .i64 x.delta]
def CallD.single (c : CallD) : Prop := ¬ (c.beg < 0 ∨ (0 ≤ c.fin ∧ c.fin < c.beg)) ∧ if c.look = true then c.cmd = zIh else ((c.cmd.ok ∧ c.cmd.session ≠ 0) ∧ c.cmd.seq ≠ 0) ∧ c.key = ⟨#[]⟩
instance (c : CallD) : Decidable c.single := by unfold CallD.single; infer_instance
def y5 (l : List CallD) (e : Int) : Option CallD := l.reverse.find? fun c => decide (c.edge = e)
theorem kY (l : List CallD) (c : CallD) (e : Int) : y5 (l ++ [c]) e = if c.edge = e then some c else y5 l e := by
  unfold y5
  rw [List.reverse_append, List.reverse_singleton, List.singleton_append, List.find?_cons]
  by_cases h : c.edge = e
  · rw [if_pos h, decide_eq_true h]
  · rw [if_neg h, decide_eq_false h]
def zA3 (o : Option CallD) (c : CallD) : Prop := match o with | none => True | some p => ¬ (p.fin < 0 ∨ c.beg ≤ p.fin)
instance (o : Option CallD) (c : CallD) : Decidable (zA3 o c) := by unfold zA3; cases o <;> infer_instance
def SoundTo (l : List CallD) (n : Nat) : Prop := ∀ i, i < n → (zG l i).single ∧ zA3 (y5 (l.take i) (zG l i).edge) (zG l i)
abbrev xD (l : List CallD) : Prop := SoundTo l l.length
instance (l : List CallD) (n : Nat) : Decidable (SoundTo l n) := by unfold SoundTo; infer_instance
theorem SoundTo.start (l : List CallD) : SoundTo l 0 := fun i hi => absurd hi (Nat.not_lt_zero i)
theorem SoundTo.next {l : List CallD} {n : Nat} (h : SoundTo l n) (h1 : (zG l n).single) (h2 : zA3 (y5 (l.take n) (zG l n).edge) (zG l n)) : SoundTo l (n + 1) := fun i hi => by
  rcases Nat.lt_succ_iff_lt_or_eq.1 hi with q | rfl
  · exact h i q
  · exact ⟨h1, h2⟩
structure LinS where
  t : RL
  done : List Bool
def jI (l : List CallD) (done : List Bool) (c : CallD) : Prop := ∃ i, i < l.length ∧ zG done i = false ∧ 0 ≤ (zG l i).fin ∧ (zG l i).fin < c.beg
instance (l : List CallD) (done : List Bool) (c : CallD) : Decidable (jI l done c) := by unfold jI; infer_instance
def Whole (l : List CallD) (done : List Bool) : Prop := ∀ i, i < l.length → 0 ≤ (zG l i).fin → zG done i = true
instance (l : List CallD) (done : List Bool) : Decidable (Whole l done) := by unfold Whole; infer_instance
def kS (t : RL) (d : Int) : RL := ⟨zBA t.now d, t.cnt, t.bs, zBw t.now d t.ls, t.rs⟩
def xY (t : RL) (c : CallD) : Bool × RL :=
  if c.look = true then (decide (c.fin < 0 ∨ (c.cap = yO c.key t.bs ∧ c.lent = yF c.key t.ls)), t)
  else (decide (c.fin < 0 ∨ (doF t c.cmd).1.1 = c.reply), (doF t c.cmd).2)
def zz (l : List CallD) (s : LinS) (m : MovD) : Int × LinS :=
  if (((l.length : Nat) : Int) ≤ m.call ∨ m.delta < 0) ∨ 1099511627776 < m.delta then (1, s)
  else if 0 ≤ m.call ∧ zG s.done m.call.toNat = true then (9, s)
  else if 0 ≤ m.call ∧ jI l s.done (zG l m.call.toNat) then (20, s)
  else if yt s.t.now m.delta ≠ 0 then (yt s.t.now m.delta, s)
  else if m.call < 0 then (0, ⟨kS s.t m.delta, s.done⟩)
  else (if (xY (kS s.t m.delta) (zG l m.call.toNat)).1 = true then 0 else 18, ⟨(xY (kS s.t m.delta) (zG l m.call.toNat)).2, s.done.set m.call.toNat true⟩)
def jU (l : List CallD) : LinS := ⟨⟨0, 0, [], [], []⟩, List.replicate l.length false⟩
def zAP (l : List CallD) : LinS → List MovD → Nat → Nat × Int
  | s, [], i => (i, if Whole l s.done then 0 else 8)
  | s, m :: ms, i => if (zz l s m).1 ≠ 0 then (i, (zz l s m).1) else zAP l (zz l s m).2 ms (i + 1)
def checkF (l : List CallD) (ms : List MovD) : Nat × Int := if xD l then zAP l (jU l) ms 0 else (0, 2)
def ya (l : List CallD) : Nat → LinS → Option (List Nat)
  | 0, s => if Whole l s.done then some [] else none
  | n + 1, s => if Whole l s.done then some [] else (List.range l.length).findSome? fun (k : Nat) => if (zz l s ⟨(k : Int), 0⟩).1 = 0 then (ya l n (zz l s ⟨(k : Int), 0⟩).2).map (k :: ·) else none
def yf (done : List Bool) : Nat := (done.filter (! ·)).length
structure LinOk (l : List CallD) (s : LinS) : Prop where
  len : s.done.length = l.length
  led : LOkR s.t.now s.t.cnt s.t.bs s.t.ls s.t.rs
theorem je {l : List CallD} {s : LinS} {m : MovD} : (zz l s m).2.done.length = s.done.length := by
  unfold zz
  repeat' split
  all_goals first | rfl | simp
theorem zBb {l : List CallD} {s : LinS} {m : MovD} (h : (zz l s m).1 = 0) (hm : 0 ≤ m.call) (hl : s.done.length = l.length) : m.call.toNat < l.length ∧ zG s.done m.call.toNat = false ∧ (zz l s m).2.done = s.done.set m.call.toNat true ∧ ¬ jI l s.done (zG l m.call.toNat)
    ∧ (xY (kS s.t m.delta) (zG l m.call.toNat)).1 = true ∧ (zz l s m).2.t = (xY (kS s.t m.delta) (zG l m.call.toNat)).2 := by
  unfold zz at h ⊢
  split at h
  · exact absurd h (by show ¬ (1 : Int) = 0; decide)
  · rename_i h1
    split at h
    · exact absurd h (by show ¬ (9 : Int) = 0; decide)
    · rename_i h2
      split at h
      · exact absurd h (by show ¬ (20 : Int) = 0; decide)
      · rename_i h3
        split at h
        · rename_i h4; exact absurd h h4
        · rename_i h4
          split at h
          · rename_i h5; omega
          · rename_i h5
            dsimp only at h
            split at h
            · rename_i h6
              rw [if_neg h1, if_neg h2, if_neg h3, if_neg h4, if_neg h5]
              refine ⟨by omega, ?_, rfl, fun q => h3 ⟨hm, q⟩, h6, rfl⟩
              cases hd : zG s.done m.call.toNat with
              | false => rfl
              | true => exact absurd ⟨hm, hd⟩ h2
            · exact absurd h (by show ¬ (18 : Int) = 0; decide)
theorem zBX : ∀ {d : List Bool} {k : Nat}, k < d.length → zG d k = false → yf (d.set k true) + 1 = yf d
  | b :: d, 0, _, h => by
    have : b = false := h
    subst this; simp [yf]
  | b :: d, k + 1, hk, h => by
    have ih := zBX (d := d) (k := k) (by simpa using hk) h
    unfold yf at ih ⊢
    rw [List.set_cons_succ, List.filter_cons, List.filter_cons]
    split
    · simp only [List.length_cons]; omega
    · exact ih
theorem zFu {d : List Bool} (h : yf d = 0) : ∀ i, i < d.length → zG d i = true := fun i hi => by
  have hm := yR hi
  cases hb : zG d i with
  | true => rfl
  | false =>
    have : zG d i ∈ d.filter (! ·) := List.mem_filter.2 ⟨hm, by rw [hb]; rfl⟩
    rw [List.eq_nil_of_length_eq_zero h] at this; cases this
def zC2 (l : List CallD) (dn : List Bool) (c : CallD) (n : Nat) : Prop := ∃ i, i < n ∧ zG dn i = false ∧ 0 ≤ (zG l i).fin ∧ (zG l i).fin < c.beg
def zCm (l : List CallD) (dn : List Bool) (n : Nat) : Prop := ∀ i, i < n → 0 ≤ (zG l i).fin → zG dn i = true
theorem zEa {l : List CallD} {dn : List Bool} {c : CallD} {i : Nat} (h : ¬ zC2 l dn c i) (h2 : ¬ ((zG dn i = false ∧ 0 ≤ (zG l i).fin) ∧ (zG l i).fin < c.beg)) : ¬ zC2 l dn c (i + 1) := by
  rintro ⟨j, hj, h3, h4, h5⟩
  rcases Nat.lt_succ_iff_lt_or_eq.1 hj with q | rfl
  · exact h ⟨j, q, h3, h4, h5⟩
  · exact h2 ⟨⟨h3, h4⟩, h5⟩
theorem zEd {l : List CallD} {dn : List Bool} {i : Nat} (h : zCm l dn i) (h2 : ¬ (0 ≤ (zG l i).fin ∧ zG dn i = false)) : zCm l dn (i + 1) := fun j hj h3 => by
  rcases Nat.lt_succ_iff_lt_or_eq.1 hj with q | rfl
  · exact h j q h3
  · cases hd : zG dn j with
    | true => rfl
    | false => exact absurd ⟨h3, hd⟩ h2
theorem zME {b : Bool} (h : (!b) = false) : b = true := by cases b <;> simp_all
theorem notFi {b : Bool} : (!b) = true ↔ b = false := by cases b <;> simp
theorem zDN (t : RL) (c : CallD) : (xY t c).2.cnt ≤ t.cnt + 1 := by
  unfold xY
  split
  · exact Nat.le_succ _
  · unfold doF
    split
    · exact Nat.le_succ _
    · show (jn t c.cmd).2.cnt ≤ _
      unfold jn
      repeat' split
      all_goals first | exact Nat.le_succ _ | (unfold zAU; dsimp only; split <;> omega)
section
variable {l : List CallD} {s : LinS} {m : MovD} {P : Prop} {e : Int} {s' : LinS}
theorem zDf (h : zz l s m = (e, s')) : (Value.int .i64 e) = Vi (zz l s m).1 := by rw [h]
theorem zFY (h : zz l s m = (e, s')) (he : e ≠ 0) : (zz l s m).1 = 0 → P := by rw [h]; exact fun q => absurd q he
theorem mv1 (c : (((l.length : Nat) : Int) ≤ m.call ∨ m.delta < 0) ∨ 1099511627776 < m.delta) : zz l s m = (1, s) := if_pos c
theorem mv9 (c : ¬ ((((l.length : Nat) : Int) ≤ m.call ∨ m.delta < 0) ∨ 1099511627776 < m.delta)) (h : 0 ≤ m.call) (hd : zG s.done m.call.toNat = true) : zz l s m = (9, s) := by
  unfold zz; rw [if_neg c, if_pos ⟨h, hd⟩]
theorem zK2 (c : ¬ ((((l.length : Nat) : Int) ≤ m.call ∨ m.delta < 0) ∨ 1099511627776 < m.delta)) (h : 0 ≤ m.call) (hd : zG s.done m.call.toNat = false) (he : jI l s.done (zG l m.call.toNat)) : zz l s m = (20, s) := by
  unfold zz; rw [if_neg c, if_neg (fun q => by rw [hd] at q; cases q.2), if_pos ⟨h, he⟩]
theorem mvE (c : ¬ ((((l.length : Nat) : Int) ≤ m.call ∨ m.delta < 0) ∨ 1099511627776 < m.delta)) (h : 0 ≤ m.call → zG s.done m.call.toNat = false ∧ ¬ jI l s.done (zG l m.call.toNat)) (he : yt s.t.now m.delta ≠ 0) : zz l s m = (yt s.t.now m.delta, s) := by
  unfold zz; rw [if_neg c, if_neg (fun q => by have := (h q.1).1; rw [this] at q; cases q.2), if_neg (fun q => (h q.1).2 q.2), if_pos he]
theorem mvN (c : ¬ ((((l.length : Nat) : Int) ≤ m.call ∨ m.delta < 0) ∨ 1099511627776 < m.delta)) (h : ¬ 0 ≤ m.call) (he : ¬ yt s.t.now m.delta ≠ 0) : zz l s m = (0, ⟨kS s.t m.delta, s.done⟩) := by
  unfold zz; rw [if_neg c, if_neg (fun q => h q.1), if_neg (fun q => h q.1), if_neg he, if_pos (by omega)]
theorem mvC (c : ¬ ((((l.length : Nat) : Int) ≤ m.call ∨ m.delta < 0) ∨ 1099511627776 < m.delta)) (h0 : 0 ≤ m.call) (h : zG s.done m.call.toNat = false ∧ ¬ jI l s.done (zG l m.call.toNat)) (he : ¬ yt s.t.now m.delta ≠ 0) :
    zz l s m = (if (xY (kS s.t m.delta) (zG l m.call.toNat)).1 = true then 0 else 18, ⟨(xY (kS s.t m.delta) (zG l m.call.toNat)).2, s.done.set m.call.toNat true⟩) := by
  unfold zz; rw [if_neg c, if_neg (fun q => by have := h.1; rw [this] at q; cases q.2), if_neg (fun q => h.2 q.2), if_neg he, if_neg (by omega)]
end
theorem zGx (l : List CallD) (s : LinS) (m : MovD) : (zz l s m).2.t.cnt ≤ s.t.cnt + 1 := by
  unfold zz
  repeat' split
  all_goals first | exact Nat.le_succ _ | exact zDN (kS s.t m.delta) _
theorem zEo {α : Type} {f : Nat → Option α} {n : Nat} (h : ∀ j, j < n → f j = none) : (List.range n).findSome? f = none := by
  rw [List.findSome?_eq_none_iff]
  exact fun j hj => h j (List.mem_range.1 hj)
theorem zIj {α : Type} {f : Nat → Option α} {n k : Nat} {r : α} (h : ∀ j, j < k → f j = none) (hk : k < n) (hr : f k = some r) : (List.range n).findSome? f = some r := by
  have e : List.range n = List.range k ++ (k :: (List.range' (k + 1) (n - k - 1))) := by
    rw [List.range_eq_range', List.range_eq_range', show n = k + ((n - k - 1) + 1) by omega, ← List.range'_append_1, Nat.zero_add, show k + (n - k - 1 + 1) - k - 1 = n - k - 1 by omega, List.range'_succ]
  rw [e, List.findSome?_append, zEo h, List.findSome?_cons, hr]; rfl
def zAQ (l : List CallD) (s : LinS) (k : Nat) : Option (List Nat) := if (zz l s ⟨(k : Int), 0⟩).1 = 0 then (ya l (yf s.done - 1) (zz l s ⟨(k : Int), 0⟩).2).map (k :: ·) else none
theorem zHd {l : List CallD} {s : LinS} (hl : s.done.length = l.length) (h : ¬ Whole l s.done) : 0 < yf s.done := Nat.pos_of_ne_zero fun q => h fun i hi _ => zFu q i (by omega)
theorem zC5 {l : List CallD} {s : LinS} (n : Nat) (h : Whole l s.done) : ya l n s = some [] := by
  cases n <;> (unfold ya; rw [if_pos h])
theorem zBE {l : List CallD} {s : LinS} (hl : s.done.length = l.length) (h : ¬ Whole l s.done) : ya l (yf s.done) s = (List.range l.length).findSome? (zAQ l s) := by
  have hp := zHd hl h
  obtain ⟨m, hm⟩ : ∃ m, yf s.done = m + 1 := ⟨yf s.done - 1, by omega⟩
  rw [hm]
  show (if Whole l s.done then some [] else _) = _
  rw [if_neg h]
  have e : zAQ l s = fun (k : Nat) => if (zz l s ⟨(k : Int), 0⟩).1 = 0 then (ya l m (zz l s ⟨(k : Int), 0⟩).2).map (k :: ·) else none := by
    funext k; unfold zAQ; rw [hm]; rfl
  rw [e]
def xb (l : List CallD) (s : LinS) (al rl : List Int) (found : Bool) : Prop :=
  (∃ r : List Nat, ya l (yf s.done) s = some r ∧ found = true ∧ rl = al ++ r.map fun (k : Nat) => (k : Int)) ∨ (ya l (yf s.done) s = none ∧ found = false ∧ rl = [])
theorem zIF {l : List CallD} {s : LinS} {k : Nat} (h : (zz l s ⟨(k : Int), 0⟩).1 ≠ 0) : zAQ l s k = none := if_neg h
theorem zDZ {l : List CallD} {s : LinS} {k : Nat} (h : (zz l s ⟨(k : Int), 0⟩).1 = 0) (hl : s.done.length = l.length) : yf (zz l s ⟨(k : Int), 0⟩).2.done + 1 = yf s.done := by
  obtain ⟨h1, h2, h3, _⟩ := zBb h (Int.natCast_nonneg k) hl
  rw [h3]; exact zBX (by rw [hl]; exact h1) h2
theorem zDd {l : List CallD} {s : LinS} {k : Nat} (h : (zz l s ⟨(k : Int), 0⟩).1 = 0) (hl : s.done.length = l.length) : zAQ l s k = (ya l (yf (zz l s ⟨(k : Int), 0⟩).2.done) (zz l s ⟨(k : Int), 0⟩).2).map (k :: ·) := by
  unfold zAQ
  rw [if_pos h, show yf s.done - 1 = yf (zz l s ⟨(k : Int), 0⟩).2.done by have := zDZ h hl; omega]
theorem zAy {α : Type} {f : Nat → Option α} {k : Nat} (h : ∀ j, j < k → f j = none) (h2 : f k = none) : ∀ j, j < k + 1 → f j = none := fun j hj => by
  rcases Nat.lt_succ_iff_lt_or_eq.1 hj with q | rfl
  · exact h j q
  · exact h2
section
variable {l : List CallD} {t : RL} {dn dn' : List Bool} {k : Nat} {al rl : List Int} {found : Bool}
theorem zB8 (hd : dn.length = l.length) (hw : ¬ Whole l dn) (hN : ∀ j, j < k → zAQ l ⟨t, dn⟩ j = none) (hk : k < l.length) (hz : (zz l ⟨t, dn⟩ ⟨(k : Int), 0⟩).1 = 0) (hm : dn' = (zz l ⟨t, dn⟩ ⟨(k : Int), 0⟩).2.done)
    (h : xb l ⟨(zz l ⟨t, dn⟩ ⟨(k : Int), 0⟩).2.t, dn'⟩ (al ++ [(k : Int)]) rl found) (hf : found = true) : xb l ⟨t, dn⟩ al rl true := by
  subst hm
  rcases h with ⟨r, h1, _, h3⟩ | ⟨_, h2, _⟩
  · refine .inl ⟨k :: r, ?_, rfl, by rw [h3]; simp⟩
    rw [zBE hd hw]
    exact zIj hN hk (by rw [zDd hz hd]; exact congrArg (Option.map _) h1)
  · rw [hf] at h2; cases h2
theorem zDe (hd : dn.length = l.length) (hz : (zz l ⟨t, dn⟩ ⟨(k : Int), 0⟩).1 = 0) (hm : dn' = (zz l ⟨t, dn⟩ ⟨(k : Int), 0⟩).2.done)
    (h : xb l ⟨(zz l ⟨t, dn⟩ ⟨(k : Int), 0⟩).2.t, dn'⟩ (al ++ [(k : Int)]) rl found) (hf : found = false) : zAQ l ⟨t, dn⟩ k = none := by
  subst hm
  rcases h with ⟨_, _, h2, _⟩ | ⟨h1, _, _⟩
  · rw [hf] at h2; cases h2
  · rw [zDd hz hd]; exact congrArg (Option.map _) h1
end
theorem zAL (n : Nat) : yf (List.replicate n false) = n := by simp [yf]
theorem zLa {l : List CallD} {rl : List Int} {found : Bool} (h : xb l (jU l) [] rl found) (hf : found = false) : ya l l.length (jU l) = none := by
  unfold xb jU at h
  rw [zAL] at h
  rcases h with ⟨_, _, h2, _⟩ | ⟨h1, _, _⟩
  · rw [hf] at h2; cases h2
  · exact h1
theorem zJg {l : List CallD} {rl : List Int} {found : Bool} (h : xb l (jU l) [] rl found) (hf : found = true) : ∃ r : List Nat, ya l l.length (jU l) = some r ∧ (0 : Int) = 0 ∧ rl = r.map fun (k : Nat) => (k : Int) := by
  unfold xb jU at h
  rw [zAL] at h
  rcases h with ⟨r, h1, _, h3⟩ | ⟨_, h2, _⟩
  · exact ⟨r, h1, rfl, by rw [h3]; simp⟩
  · rw [hf] at h2; cases h2
end Go.Proofs.YtcdiehplbmkmeaaGreat
