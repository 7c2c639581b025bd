import Derived.Test.YtcdiehplbmkmeaaGreatLinR
import Derived.Test.YtcdiehplbmkmeaaGreatLinP
set_option linter.unusedSectionVars false
set_option linter.unusedSimpArgs false
set_option linter.unusedVariables false
set_option maxRecDepth 10000
namespace Go.Proofs.YtcdiehplbmkmeaaGreat
open Go Go.Sc Go.Proofs
section
variable {l : List CallD} {t t' : RL} {dn dn' : List Bool} {k : Nat} {rl : List Int} {found : Bool}
end
def RSearchC (n : Nat) : Prop := ∀ (v bv lv rv dv : Value) (l : List CallD) (t : RL) (dn : List Bool) (w : World) (hn : yf dn < n) (hL : LOkR t.now t.cnt t.bs t.ls t.rs) (hcw : ∀ c ∈ l, c.wf) (hc : t.cnt + yf dn ≤ 100000000) (hl : l.length ≤ 10000000) (hd : dn.length = l.length) (hv : Rd w [] (Res.sl v l.length (l.flatMap CallD.cells))) (hb : Rd w [] (Res.sl bv t.bs.length (t.bs.flatMap BudD.cells))) (hlv : Rd w [] (Res.sl lv t.ls.length (t.ls.flatMap LeaD.cells))) (hr : Rd w [] (Res.sl rv t.rs.length (t.rs.flatMap RepD.cells))) (hdv : Rd w [] (Res.sl dv dn.length (dn.flatMap B1))), Rets Tryz.prog 10 #[v, .agg #[Vi t.now, Vn t.cnt, bv, lv, rv, Vn 0, dv]] w fun u_ w' => ∃ (ov : Value) (rl : List Int) (found : Bool), u_ = .tuple #[ov, .bool found] ∧ xb l ⟨t, dn⟩ [] rl found ∧ rl.length ≤ yf dn ∧ Own w [] [Res.vec 3 1 ov rl.length (rl.flatMap I1)] w'
structure Eas (c d : CallD) : Prop where
  look : d.look = c.look
  cmd : d.cmd = c.cmd
  key : d.key = c.key
  reply : d.reply = c.reply
  cap : d.cap = c.cap
  lent : d.lent = c.lent
  beg : d.beg ≤ c.beg
  fin : d.fin = c.fin ∨ d.fin < 0
theorem Eas.refl (c : CallD) : Eas c c := ⟨rfl, rfl, rfl, rfl, rfl, rfl, Int.le_refl _, .inl rfl⟩
theorem zIS {l : List CallD} {s : LinS} {m : MovD} (h : (zz l s m).1 = 0) : ¬ ((((l.length : Nat) : Int) ≤ m.call ∨ m.delta < 0) ∨ 1099511627776 < m.delta) ∧ ¬ yt s.t.now m.delta ≠ 0 ∧ (m.call < 0 ∨ (0 ≤ m.call ∧ (zG s.done m.call.toNat = false ∧ ¬ jI l s.done (zG l m.call.toNat)) ∧ (xY (kS s.t m.delta) (zG l m.call.toNat)).1 = true)) := by
  unfold zz at h
  split at h
  · exact absurd h (by show ¬ (1 : Int) = 0; decide)
  · rename_i h1
    split at h
    · exact absurd h (by show ¬ (9 : Int) = 0; decide)
    · rename_i h2
      split at h
      · exact absurd h (by show ¬ (20 : Int) = 0; decide)
      · rename_i h3
        split at h
        · rename_i h4; exact absurd h h4
        · rename_i h4
          refine ⟨h1, h4, ?_⟩
          split at h
          · rename_i h5; exact .inl h5
          · rename_i h5
            have h0 : 0 ≤ m.call := by omega
            refine .inr ⟨h0, ⟨?_, fun q => h3 ⟨h0, q⟩⟩, ?_⟩
            · cases hd : zG s.done m.call.toNat with
              | false => rfl
              | true => exact absurd ⟨h0, hd⟩ h2
            · dsimp only at h
              split at h
              · rename_i h6; exact h6
              · exact absurd h (by show ¬ (18 : Int) = 0; decide)
theorem zGq {l : List CallD} {s : LinS} {m : MovD} {ms : List MovD} {i : Nat} (h : (zAP l s (m :: ms) i).2 = 0) : (zz l s m).1 = 0 ∧ (zAP l (zz l s m).2 ms (i + 1)).2 = 0 := by
  unfold zAP at h
  split at h
  · rename_i h1; exact absurd h h1
  · rename_i h1; exact ⟨Decidable.not_not.1 h1, h⟩
theorem zIr {l : List CallD} {s : LinS} {i : Nat} (h : (zAP l s [] i).2 = 0) : Whole l s.done := by
  unfold zAP at h
  dsimp only at h
  split at h
  · rename_i h1; exact h1
  · exact absurd h (by decide)
theorem zDr {l : List CallD} {s : LinS} {i : Nat} (h : Whole l s.done) : (zAP l s [] i).2 = 0 := by
  unfold zAP; exact if_pos h
theorem zFz {l : List CallD} {s : LinS} {m : MovD} {ms : List MovD} {i : Nat} (h : (zz l s m).1 = 0) (h2 : (zAP l (zz l s m).2 ms (i + 1)).2 = 0) : (zAP l s (m :: ms) i).2 = 0 := by
  unfold zAP; rw [if_neg (fun q => q h)]; exact h2
section
variable {l l' : List CallD}
end
theorem zCy {α : Type} [Inhabited α] {l : List α} {k i : Nat} {x : α} (hk : k < l.length) : zG (l.set k x) i = if i = k then x else zG l i := by
  unfold zG
  rw [List.getElem?_set]
  by_cases h : k = i
  · subst h; rw [if_pos rfl, if_pos rfl, if_pos hk]; rfl
  · rw [if_neg h, if_neg fun q => h q.symm]
theorem zIO {α : Type} {P : List α → Prop} (h0 : P []) (h1 : ∀ l c, P l → P (l ++ [c])) (l : List α) : P l := by
  have h : ∀ m : List α, P m.reverse := fun m => by
    induction m with
    | nil => exact h0
    | cons c m ih => rw [List.reverse_cons]; exact h1 _ _ ih
  have h2 := h l.reverse
  rwa [List.reverse_reverse] at h2
theorem take_set {α : Type} {l : List α} {k i : Nat} {x : α} : (l.set k x).take i = (l.take i).set k x := List.take_set
def early0 (c : CallD) : CallD := { c with beg := 0 }
def open0 (c : CallD) : CallD := { c with beg := 0, fin := -1 }
def zMB (t : Int) (c : CallD) : CallD := if t < c.fin then { c with fin := -1 } else c
def zFK (t : Int) (c : CallD) : Bool := decide (c.beg ≤ t)
def piC (t : Int) (l : List CallD) (i : Nat) : Nat := ((l.take i).filter (zFK t)).length
def zMD (t : Int) (l : List CallD) : List CallD := (l.filter (zFK t)).map (zMB t)
def cutM (t : Int) (l : List CallD) (m : MovD) : MovD := if m.call < 0 then m else { m with call := (piC t l m.call.toNat : Int) }
def KeptM (t : Int) (l : List CallD) (m : MovD) : Prop := m.call < 0 ∨ zFK t (zG l m.call.toNat) = true
section
variable {t : Int} {l : List CallD}
structure CutR (t : Int) (l : List CallD) (s s' : LinS) : Prop where
  led : s'.t = s.t
  len : s.done.length = l.length
  len' : s'.done.length = (zMD t l).length
  kept : ∀ i, i < l.length → zFK t (zG l i) = true → zG s'.done (piC t l i) = zG s.done i
end
end Go.Proofs.YtcdiehplbmkmeaaGreat
