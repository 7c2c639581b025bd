import Derived.Test.YtcdiehplbmkmeaaGreatLedF
set_option linter.unusedSectionVars false
set_option linter.unusedSimpArgs false
set_option linter.unusedVariables false
set_option maxRecDepth 10000
namespace Go.Proofs.YtcdiehplbmkmeaaGreat
open Go Go.Sc Go.Proofs
structure CallD where
  edge : Int
  look : Bool
  lazy : Bool
  cmd : CmdD
  key : ByteArray
  beg : Int
  fin : Int
  reply : RepD
  cap : Int
  lent : Int
  deriving DecidableEq
instance : Inhabited CallD := ⟨⟨0, false, false, zIg, ⟨#[]⟩, 0, 0, repZ, 0, 0⟩⟩
def CallD.cells (x : CallD) : List Value := [.int .i64 x.edge, .bool x.look, .bool x.lazy] ++ (x.cmd.cells ++ ([.string x.key, .int .i64 x.beg, .int .i64 x.fin] ++ (x.reply.cells ++ [.int .i64 x.cap, .int .i64 x.lent])))
structure CallD.wf (x : CallD) : Prop where
  edge : yw x.edge
  cmd : x.cmd.wf
  key : x.key.size ≤ 1048576
  beg : yw x.beg
  fin : yw x.fin
  reply : x.reply.wf
structure MovD where
  call : Int
  delta : Int
  deriving DecidableEq
instance : Inhabited MovD := ⟨⟨0, 0⟩⟩
def MovD.cells (x : MovD) : List Value := [.int .i64 x.call, .int .i64 x.delta]
def CallD.single (c : CallD) : Prop := ¬ (c.beg < 0 ∨ (0 ≤ c.fin ∧ c.fin < c.beg)) ∧ if c.look = true then c.cmd = zIg else ((c.cmd.ok ∧ c.cmd.session ≠ 0) ∧ c.cmd.seq ≠ 0) ∧ c.key = ⟨#[]⟩
instance (c : CallD) : Decidable c.single := by unfold CallD.single; infer_instance
def xt (l : List CallD) (e : Int) : Option CallD := l.reverse.find? fun c => decide (c.edge = e)
theorem zBB (l : List CallD) (c : CallD) (e : Int) : xt (l ++ [c]) e = if c.edge = e then some c else xt l e := by
  unfold xt
  rw [List.reverse_append, List.reverse_singleton, List.singleton_append, List.find?_cons]
  by_cases h : c.edge = e
  · rw [if_pos h, decide_eq_true h]
  · rw [if_neg h, decide_eq_false h]
def zB9 (o : Option CallD) (c : CallD) : Prop := match o with | none => True | some p => ¬ (p.fin < 0 ∨ c.beg ≤ p.fin)
instance (o : Option CallD) (c : CallD) : Decidable (zB9 o c) := by unfold zB9; cases o <;> infer_instance
def SoundTo (l : List CallD) (n : Nat) : Prop := ∀ i, i < n → (zH l i).single ∧ zB9 (xt (l.take i) (zH l i).edge) (zH l i)
abbrev xE (l : List CallD) : Prop := SoundTo l l.length
instance (l : List CallD) (n : Nat) : Decidable (SoundTo l n) := by unfold SoundTo; infer_instance
theorem SoundTo.start (l : List CallD) : SoundTo l 0 := fun i hi => absurd hi (Nat.not_lt_zero i)
theorem SoundTo.next {l : List CallD} {n : Nat} (h : SoundTo l n) (h1 : (zH l n).single) (h2 : zB9 (xt (l.take n) (zH l n).edge) (zH l n)) : SoundTo l (n + 1) := fun i hi => by
  rcases Nat.lt_succ_iff_lt_or_eq.1 hi with q | rfl
  · exact h i q
  · exact ⟨h1, h2⟩
structure LinS where
  t : RL
  done : List Bool
def jQ (l : List CallD) (done : List Bool) (c : CallD) : Prop := ∃ i, i < l.length ∧ zH done i = false ∧ 0 ≤ (zH l i).fin ∧ (zH l i).fin < c.beg
instance (l : List CallD) (done : List Bool) (c : CallD) : Decidable (jQ l done c) := by unfold jQ; infer_instance
def Whole (l : List CallD) (done : List Bool) : Prop := ∀ i, i < l.length → 0 ≤ (zH l i).fin → zH done i = true
instance (l : List CallD) (done : List Bool) : Decidable (Whole l done) := by unfold Whole; infer_instance
def xm (t : RL) (d : Int) : RL := ⟨ju t.now d, t.cnt, t.bs, zAY t.now d t.ls, t.rs⟩
def xN (t : RL) (c : CallD) : Bool × RL :=
  if c.look = true then (decide (c.fin < 0 ∨ (c.cap = yR c.key t.bs ∧ c.lent = yF c.key t.ls)), t)
  else (decide (c.fin < 0 ∨ (doF t c.cmd).1.1 = c.reply), (doF t c.cmd).2)
def zy (l : List CallD) (s : LinS) (m : MovD) : Int × LinS :=
  if (((l.length : Nat) : Int) ≤ m.call ∨ m.delta < 0) ∨ 1099511627776 < m.delta then (1, s)
  else if 0 ≤ m.call ∧ zH s.done m.call.toNat = true then (9, s)
  else if 0 ≤ m.call ∧ jQ l s.done (zH l m.call.toNat) then (20, s)
  else if yn s.t.now m.delta ≠ 0 then (yn s.t.now m.delta, s)
  else if m.call < 0 then (0, ⟨xm s.t m.delta, s.done⟩)
  else (if (xN (xm s.t m.delta) (zH l m.call.toNat)).1 = true then 0 else 18, ⟨(xN (xm s.t m.delta) (zH l m.call.toNat)).2, s.done.set m.call.toNat true⟩)
def kj (l : List CallD) : LinS := ⟨⟨0, 0, [], [], []⟩, List.replicate l.length false⟩
def kT (l : List CallD) : LinS → List MovD → Nat → Nat × Int
  | s, [], i => (i, if Whole l s.done then 0 else 8)
  | s, m :: ms, i => if (zy l s m).1 ≠ 0 then (i, (zy l s m).1) else kT l (zy l s m).2 ms (i + 1)
def yl (l : List CallD) (ms : List MovD) : Nat × Int := if xE l then kT l (kj l) ms 0 else (0, 2)
theorem zCF {l : List CallD} {s : LinS} {ms : List MovD} {i : Nat} (hi : i < ms.length) : kT l s (ms.drop i) i = if (zy l s (zH ms i)).1 ≠ 0 then (i, (zy l s (zH ms i)).1) else kT l (zy l s (zH ms i)).2 (ms.drop (i + 1)) (i + 1) := by
  rw [zH3 hi]; rfl
theorem zDu {l : List CallD} {s : LinS} {ms : List MovD} {i : Nat} (hi : ms.length ≤ i) : kT l s (ms.drop i) i = (i, if Whole l s.done then 0 else 8) := by
  rw [List.drop_of_length_le hi]; rfl
def yK (l : List CallD) : Nat → LinS → Option (List Nat)
  | 0, s => if Whole l s.done then some [] else none
  | n + 1, s => if Whole l s.done then some [] else (List.range l.length).findSome? fun (k : Nat) => if (zy l s ⟨(k : Int), 0⟩).1 = 0 then (yK l n (zy l s ⟨(k : Int), 0⟩).2).map (k :: ·) else none
def yd (done : List Bool) : Nat := (done.filter (! ·)).length
structure LinOk (l : List CallD) (s : LinS) : Prop where
  len : s.done.length = l.length
  led : LOkR s.t.now s.t.cnt s.t.bs s.t.ls s.t.rs
theorem jn {l : List CallD} {s : LinS} {m : MovD} : (zy l s m).2.done.length = s.done.length := by
  unfold zy
  repeat' split
  all_goals first | rfl | simp
theorem zB5 {l : List CallD} {s : LinS} {m : MovD} (h : (zy l s m).1 = 0) (hm : 0 ≤ m.call) (hl : s.done.length = l.length) : m.call.toNat < l.length ∧ zH s.done m.call.toNat = false ∧ (zy l s m).2.done = s.done.set m.call.toNat true ∧ ¬ jQ l s.done (zH l m.call.toNat)
    ∧ (xN (xm s.t m.delta) (zH l m.call.toNat)).1 = true ∧ (zy l s m).2.t = (xN (xm s.t m.delta) (zH l m.call.toNat)).2 := by
  unfold zy at h ⊢
  split at h
  · exact absurd h (by show ¬ (1 : Int) = 0; decide)
  · rename_i h1
    split at h
    · exact absurd h (by show ¬ (9 : Int) = 0; decide)
    · rename_i h2
      split at h
      · exact absurd h (by show ¬ (20 : Int) = 0; decide)
      · rename_i h3
        split at h
        · rename_i h4; exact absurd h h4
        · rename_i h4
          split at h
          · rename_i h5; omega
          · rename_i h5
            dsimp only at h
            split at h
            · rename_i h6
              rw [if_neg h1, if_neg h2, if_neg h3, if_neg h4, if_neg h5]
              refine ⟨by omega, ?_, rfl, fun q => h3 ⟨hm, q⟩, h6, rfl⟩
              cases hd : zH s.done m.call.toNat with
              | false => rfl
              | true => exact absurd ⟨hm, hd⟩ h2
            · exact absurd h (by show ¬ (18 : Int) = 0; decide)
theorem zBr : ∀ {d : List Bool} {k : Nat}, k < d.length → zH d k = false → yd (d.set k true) + 1 = yd d
  | b :: d, 0, _, h => by
    have : b = false := h
    subst this; simp [yd]
  | b :: d, k + 1, hk, h => by
    have ih := zBr (d := d) (k := k) (by simpa using hk) h
    unfold yd at ih ⊢
    rw [List.set_cons_succ, List.filter_cons, List.filter_cons]
    split
    · simp only [List.length_cons]; omega
    · exact ih
theorem zFl {d : List Bool} (h : yd d = 0) : ∀ i, i < d.length → zH d i = true := fun i hi => by
  have hm := yT hi
  cases hb : zH d i with
  | true => rfl
  | false =>
    have : zH d i ∈ d.filter (! ·) := List.mem_filter.2 ⟨hm, by rw [hb]; rfl⟩
    rw [List.eq_nil_of_length_eq_zero h] at this; cases this
def zC7 (l : List CallD) (dn : List Bool) (c : CallD) (n : Nat) : Prop := ∃ i, i < n ∧ zH dn i = false ∧ 0 ≤ (zH l i).fin ∧ (zH l i).fin < c.beg
def zCt (l : List CallD) (dn : List Bool) (n : Nat) : Prop := ∀ i, i < n → 0 ≤ (zH l i).fin → zH dn i = true
theorem zEk {l : List CallD} {dn : List Bool} {c : CallD} {i : Nat} (h : ¬ zC7 l dn c i) (h2 : ¬ ((zH dn i = false ∧ 0 ≤ (zH l i).fin) ∧ (zH l i).fin < c.beg)) : ¬ zC7 l dn c (i + 1) := by
  rintro ⟨j, hj, h3, h4, h5⟩
  rcases Nat.lt_succ_iff_lt_or_eq.1 hj with q | rfl
  · exact h ⟨j, q, h3, h4, h5⟩
  · exact h2 ⟨⟨h3, h4⟩, h5⟩
theorem zEK {l : List CallD} {dn : List Bool} {i : Nat} (h : zCt l dn i) (h2 : ¬ (0 ≤ (zH l i).fin ∧ zH dn i = false)) : zCt l dn (i + 1) := fun j hj h3 => by
  rcases Nat.lt_succ_iff_lt_or_eq.1 hj with q | rfl
  · exact h j q h3
  · cases hd : zH dn j with
    | true => rfl
    | false => exact absurd ⟨h3, hd⟩ h2
theorem zMF {b : Bool} (h : (!b) = false) : b = true := by cases b <;> simp_all
theorem notFi {b : Bool} : (!b) = true ↔ b = false := by cases b <;> simp
theorem zDS (t : RL) (c : CallD) : (xN t c).2.cnt ≤ t.cnt + 1 := by
  unfold xN
  split
  · exact Nat.le_succ _
  · unfold doF
    split
    · exact Nat.le_succ _
    · show (zAR t c.cmd).2.cnt ≤ _
      unfold zAR
      repeat' split
      all_goals first | exact Nat.le_succ _ | (unfold zAk; dsimp only; split <;> omega)
section
variable {l : List CallD} {s : LinS} {m : MovD} {P : Prop} {e : Int} {s' : LinS}
theorem zDk (h : zy l s m = (e, s')) : (Value.int .i64 e) = Vi (zy l s m).1 := by rw [h]
theorem zF0 (h : zy l s m = (e, s')) (he : e ≠ 0) : (zy l s m).1 = 0 → P := by rw [h]; exact fun q => absurd q he
theorem mv1 (c : (((l.length : Nat) : Int) ≤ m.call ∨ m.delta < 0) ∨ 1099511627776 < m.delta) : zy l s m = (1, s) := if_pos c
theorem mv9 (c : ¬ ((((l.length : Nat) : Int) ≤ m.call ∨ m.delta < 0) ∨ 1099511627776 < m.delta)) (h : 0 ≤ m.call) (hd : zH s.done m.call.toNat = true) : zy l s m = (9, s) := by
  unfold zy; rw [if_neg c, if_pos ⟨h, hd⟩]
theorem zLg (c : ¬ ((((l.length : Nat) : Int) ≤ m.call ∨ m.delta < 0) ∨ 1099511627776 < m.delta)) (h : 0 ≤ m.call) (hd : zH s.done m.call.toNat = false) (he : jQ l s.done (zH l m.call.toNat)) : zy l s m = (20, s) := by
  unfold zy; rw [if_neg c, if_neg (fun q => by rw [hd] at q; cases q.2), if_pos ⟨h, he⟩]
theorem mvE (c : ¬ ((((l.length : Nat) : Int) ≤ m.call ∨ m.delta < 0) ∨ 1099511627776 < m.delta)) (h : 0 ≤ m.call → zH s.done m.call.toNat = false ∧ ¬ jQ l s.done (zH l m.call.toNat)) (he : yn s.t.now m.delta ≠ 0) : zy l s m = (yn s.t.now m.delta, s) := by
  unfold zy; rw [if_neg c, if_neg (fun q => by have := (h q.1).1; rw [this] at q; cases q.2), if_neg (fun q => (h q.1).2 q.2), if_pos he]
theorem mvN (c : ¬ ((((l.length : Nat) : Int) ≤ m.call ∨ m.delta < 0) ∨ 1099511627776 < m.delta)) (h : ¬ 0 ≤ m.call) (he : ¬ yn s.t.now m.delta ≠ 0) : zy l s m = (0, ⟨xm s.t m.delta, s.done⟩) := by
  unfold zy; rw [if_neg c, if_neg (fun q => h q.1), if_neg (fun q => h q.1), if_neg he, if_pos (by omega)]
theorem mvC (c : ¬ ((((l.length : Nat) : Int) ≤ m.call ∨ m.delta < 0) ∨ 1099511627776 < m.delta)) (h0 : 0 ≤ m.call) (h : zH s.done m.call.toNat = false ∧ ¬ jQ l s.done (zH l m.call.toNat)) (he : ¬ yn s.t.now m.delta ≠ 0) :
    zy l s m = (if (xN (xm s.t m.delta) (zH l m.call.toNat)).1 = true then 0 else 18, ⟨(xN (xm s.t m.delta) (zH l m.call.toNat)).2, s.done.set m.call.toNat true⟩) := by
  unfold zy; rw [if_neg c, if_neg (fun q => by have := h.1; rw [this] at q; cases q.2), if_neg (fun q => h.2 q.2), if_neg he, if_neg (by omega)]
end
theorem zDd (l : List CallD) (s : LinS) (m : MovD) : (zy l s m).2.t.cnt ≤ s.t.cnt + 1 := by
  unfold zy
  repeat' split
  all_goals first | exact Nat.le_succ _ | exact zDS (xm s.t m.delta) _
theorem zFV {α : Type} {f : Nat → Option α} {n : Nat} (h : ∀ j, j < n → f j = none) : (List.range n).findSome? f = none := by
  rw [List.findSome?_eq_none_iff]
  exact fun j hj => h j (List.mem_range.1 hj)
theorem zIj {α : Type} {f : Nat → Option α} {n k : Nat} {r : α} (h : ∀ j, j < k → f j = none) (hk : k < n) (hr : f k = some r) : (List.range n).findSome? f = some r := by
  have e : List.range n = List.range k ++ (k :: (List.range' (k + 1) (n - k - 1))) := by
    rw [List.range_eq_range', List.range_eq_range', show n = k + ((n - k - 1) + 1) by omega, ← List.range'_append_1, Nat.zero_add, show k + (n - k - 1 + 1) - k - 1 = n - k - 1 by omega, List.range'_succ]
  rw [e, List.findSome?_append, zFV h, List.findSome?_cons, hr]; rfl
def zAU (l : List CallD) (s : LinS) (k : Nat) : Option (List Nat) := if (zy l s ⟨(k : Int), 0⟩).1 = 0 then (yK l (yd s.done - 1) (zy l s ⟨(k : Int), 0⟩).2).map (k :: ·) else none
theorem zGM {l : List CallD} {s : LinS} (hl : s.done.length = l.length) (h : ¬ Whole l s.done) : 0 < yd s.done := Nat.pos_of_ne_zero fun q => h fun i hi _ => zFl q i (by omega)
theorem zDA {l : List CallD} {s : LinS} (n : Nat) (h : Whole l s.done) : yK l n s = some [] := by
  cases n <;> (unfold yK; rw [if_pos h])
theorem zBD {l : List CallD} {s : LinS} (hl : s.done.length = l.length) (h : ¬ Whole l s.done) : yK l (yd s.done) s = (List.range l.length).findSome? (zAU l s) := by
  have hp := zGM hl h
  obtain ⟨m, hm⟩ : ∃ m, yd s.done = m + 1 := ⟨yd s.done - 1, by omega⟩
  rw [hm]
  show (if Whole l s.done then some [] else _) = _
  rw [if_neg h]
  have e : zAU l s = fun (k : Nat) => if (zy l s ⟨(k : Int), 0⟩).1 = 0 then (yK l m (zy l s ⟨(k : Int), 0⟩).2).map (k :: ·) else none := by
    funext k; unfold zAU; rw [hm]; rfl
  rw [e]
def xb (l : List CallD) (s : LinS) (al rl : List Int) (found : Bool) : Prop :=
  (∃ r : List Nat, yK l (yd s.done) s = some r ∧ found = true ∧ rl = al ++ r.map fun (k : Nat) => (k : Int)) ∨ (yK l (yd s.done) s = none ∧ found = false ∧ rl = [])
theorem zIu {l : List CallD} {s : LinS} {k : Nat} (h : (zy l s ⟨(k : Int), 0⟩).1 ≠ 0) : zAU l s k = none := if_neg h
theorem zDM {l : List CallD} {s : LinS} {k : Nat} (h : (zy l s ⟨(k : Int), 0⟩).1 = 0) (hl : s.done.length = l.length) : yd (zy l s ⟨(k : Int), 0⟩).2.done + 1 = yd s.done := by
  obtain ⟨h1, h2, h3, _⟩ := zB5 h (Int.natCast_nonneg k) hl
  rw [h3]; exact zBr (by rw [hl]; exact h1) h2
theorem zED {l : List CallD} {s : LinS} {k : Nat} (h : (zy l s ⟨(k : Int), 0⟩).1 = 0) (hl : s.done.length = l.length) : zAU l s k = (yK l (yd (zy l s ⟨(k : Int), 0⟩).2.done) (zy l s ⟨(k : Int), 0⟩).2).map (k :: ·) := by
  unfold zAU
  rw [if_pos h, show yd s.done - 1 = yd (zy l s ⟨(k : Int), 0⟩).2.done by have := zDM h hl; omega]
theorem zAz {α : Type} {f : Nat → Option α} {k : Nat} (h : ∀ j, j < k → f j = none) (h2 : f k = none) : ∀ j, j < k + 1 → f j = none := fun j hj => by
  rcases Nat.lt_succ_iff_lt_or_eq.1 hj with q | rfl
  · exact h j q
  · exact h2
section
variable {l : List CallD} {t : RL} {dn dn' : List Bool} {k : Nat} {al rl : List Int} {found : Bool}
theorem zCg (hd : dn.length = l.length) (hw : ¬ Whole l dn) (hN : ∀ j, j < k → zAU l ⟨t, dn⟩ j = none) (hk : k < l.length) (hz : (zy l ⟨t, dn⟩ ⟨(k : Int), 0⟩).1 = 0) (hm : dn' = (zy l ⟨t, dn⟩ ⟨(k : Int), 0⟩).2.done)
    (h : xb l ⟨(zy l ⟨t, dn⟩ ⟨(k : Int), 0⟩).2.t, dn'⟩ (al ++ [(k : Int)]) rl found) (hf : found = true) : xb l ⟨t, dn⟩ al rl true := by
  subst hm
  rcases h with ⟨r, h1, _, h3⟩ | ⟨_, h2, _⟩
  · refine .inl ⟨k :: r, ?_, rfl, by rw [h3]; simp⟩
    rw [zBD hd hw]
    exact zIj hN hk (by rw [zED hz hd]; exact congrArg (Option.map _) h1)
  · rw [hf] at h2; cases h2
theorem zDO (hd : dn.length = l.length) (hz : (zy l ⟨t, dn⟩ ⟨(k : Int), 0⟩).1 = 0) (hm : dn' = (zy l ⟨t, dn⟩ ⟨(k : Int), 0⟩).2.done)
    (h : xb l ⟨(zy l ⟨t, dn⟩ ⟨(k : Int), 0⟩).2.t, dn'⟩ (al ++ [(k : Int)]) rl found) (hf : found = false) : zAU l ⟨t, dn⟩ k = none := by
  subst hm
  rcases h with ⟨_, _, h2, _⟩ | ⟨h1, _, _⟩
  · rw [hf] at h2; cases h2
  · rw [zED hz hd]; exact congrArg (Option.map _) h1
end
theorem zAc (n : Nat) : yd (List.replicate n false) = n := by simp [yd]
theorem zK6 {l : List CallD} {rl : List Int} {found : Bool} (h : xb l (kj l) [] rl found) (hf : found = false) : yK l l.length (kj l) = none := by
  unfold xb kj at h
  rw [zAc] at h
  rcases h with ⟨_, _, h2, _⟩ | ⟨h1, _, _⟩
  · rw [hf] at h2; cases h2
  · exact h1
theorem zJl {l : List CallD} {rl : List Int} {found : Bool} (h : xb l (kj l) [] rl found) (hf : found = true) : ∃ r : List Nat, yK l l.length (kj l) = some r ∧ (0 : Int) = 0 ∧ rl = r.map fun (k : Nat) => (k : Int) := by
  unfold xb kj at h
  rw [zAc] at h
  rcases h with ⟨r, h1, _, h3⟩ | ⟨_, h2, _⟩
  · exact ⟨r, h1, rfl, by rw [h3]; simp⟩
  · rw [hf] at h2; cases h2
end Go.Proofs.YtcdiehplbmkmeaaGreat
