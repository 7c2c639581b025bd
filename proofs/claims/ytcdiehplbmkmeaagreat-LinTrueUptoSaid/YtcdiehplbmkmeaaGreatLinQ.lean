import Derived.Test.YtcdiehplbmkmeaaGreatLinR
import Derived.Test.YtcdiehplbmkmeaaGreatLinP
set_option linter.unusedSectionVars false
set_option linter.unusedSimpArgs false
set_option linter.unusedVariables false
set_option maxRecDepth 10000
namespace Go.Proofs.YtcdiehplbmkmeaaGreat
open Go Go.Sc Go.Proofs
section
variable {l : List CallD} {t t' : RL} {dn dn' : List Bool} {k : Nat} {rl : List Int} {found : Bool}
end
def RSearchC (n : Nat) : Prop := ∀ (v bv lv rv dv : Value) (l : List CallD) (t : RL) (dn : List Bool) (w : World) (hn : yd dn < n) (hL : LOkR t.now t.cnt t.bs t.ls t.rs) (hcw : ∀ c ∈ l, c.wf) (hc : t.cnt + yd dn ≤ 100000000) (hl : l.length ≤ 10000000) (hd : dn.length = l.length) (hv : Rd w [] (Res.sl v l.length (l.flatMap CallD.cells))) (hb : Rd w [] (Res.sl bv t.bs.length (t.bs.flatMap BudD.cells))) (hlv : Rd w [] (Res.sl lv t.ls.length (t.ls.flatMap LeaD.cells))) (hr : Rd w [] (Res.sl rv t.rs.length (t.rs.flatMap RepD.cells))) (hdv : Rd w [] (Res.sl dv dn.length (dn.flatMap B1))), Rets Tryz.prog 10 #[v, .agg #[Vi t.now, Vn t.cnt, bv, lv, rv, Vn 0, dv]] w fun u_ w' => ∃ (ov : Value) (rl : List Int) (found : Bool), u_ = .tuple #[ov, .bool found] ∧ xb l ⟨t, dn⟩ [] rl found ∧ rl.length ≤ yd dn ∧ Own w [] [Res.vec 3 1 ov rl.length (rl.flatMap I1)] w'
structure Eas (c d : CallD) : Prop where
  look : d.look = c.look
  cmd : d.cmd = c.cmd
  key : d.key = c.key
  reply : d.reply = c.reply
  cap : d.cap = c.cap
  lent : d.lent = c.lent
  beg : d.beg ≤ c.beg
  fin : d.fin = c.fin ∨ d.fin < 0
theorem Eas.refl (c : CallD) : Eas c c := ⟨rfl, rfl, rfl, rfl, rfl, rfl, Int.le_refl _, .inl rfl⟩
theorem zIR {l : List CallD} {s : LinS} {m : MovD} (h : (zy l s m).1 = 0) : ¬ ((((l.length : Nat) : Int) ≤ m.call ∨ m.delta < 0) ∨ 1099511627776 < m.delta) ∧ ¬ yn s.t.now m.delta ≠ 0 ∧ (m.call < 0 ∨ (0 ≤ m.call ∧ (zH s.done m.call.toNat = false ∧ ¬ jQ l s.done (zH l m.call.toNat)) ∧ (xN (xm s.t m.delta) (zH l m.call.toNat)).1 = true)) := by
  unfold zy at h
  split at h
  · exact absurd h (by show ¬ (1 : Int) = 0; decide)
  · rename_i h1
    split at h
    · exact absurd h (by show ¬ (9 : Int) = 0; decide)
    · rename_i h2
      split at h
      · exact absurd h (by show ¬ (20 : Int) = 0; decide)
      · rename_i h3
        split at h
        · rename_i h4; exact absurd h h4
        · rename_i h4
          refine ⟨h1, h4, ?_⟩
          split at h
          · rename_i h5; exact .inl h5
          · rename_i h5
            have h0 : 0 ≤ m.call := by omega
            refine .inr ⟨h0, ⟨?_, fun q => h3 ⟨h0, q⟩⟩, ?_⟩
            · cases hd : zH s.done m.call.toNat with
              | false => rfl
              | true => exact absurd ⟨h0, hd⟩ h2
            · dsimp only at h
              split at h
              · rename_i h6; exact h6
              · exact absurd h (by show ¬ (18 : Int) = 0; decide)
theorem zGr {l : List CallD} {s : LinS} {m : MovD} {ms : List MovD} {i : Nat} (h : (kT l s (m :: ms) i).2 = 0) : (zy l s m).1 = 0 ∧ (kT l (zy l s m).2 ms (i + 1)).2 = 0 := by
  unfold kT at h
  split at h
  · rename_i h1; exact absurd h h1
  · rename_i h1; exact ⟨Decidable.not_not.1 h1, h⟩
theorem zFL {l : List CallD} {s : LinS} {i : Nat} (h : (kT l s [] i).2 = 0) : Whole l s.done := by
  unfold kT at h
  dsimp only at h
  split at h
  · rename_i h1; exact h1
  · exact absurd h (by decide)
theorem zBg {l : List CallD} {s : LinS} {i : Nat} (h : Whole l s.done) : (kT l s [] i).2 = 0 := by
  unfold kT; exact if_pos h
theorem zCo {l : List CallD} {s : LinS} {m : MovD} {ms : List MovD} {i : Nat} (h : (zy l s m).1 = 0) (h2 : (kT l (zy l s m).2 ms (i + 1)).2 = 0) : (kT l s (m :: ms) i).2 = 0 := by
  unfold kT; rw [if_neg (fun q => q h)]; exact h2
section
variable {l l' : List CallD}
end
theorem zJz {α : Type} [Inhabited α] {l : List α} {k i : Nat} {x : α} (hk : k < l.length) : zH (l.set k x) i = if i = k then x else zH l i := by
  unfold zH
  rw [List.getElem?_set]
  by_cases h : k = i
  · subst h; rw [if_pos rfl, if_pos rfl, if_pos hk]; rfl
  · rw [if_neg h, if_neg fun q => h q.symm]
theorem take_set {α : Type} {l : List α} {k i : Nat} {x : α} : (l.set k x).take i = (l.take i).set k x := List.take_set
theorem zCP {l : List CallD} {ms : List MovD} (hS : xE l) (h : (kT l (kj l) ms 0).2 = 0) : (yl l ms).2 = 0 := by
  unfold yl; rw [if_pos hS]; exact h
def early0 (c : CallD) : CallD := { c with beg := 0 }
def open0 (c : CallD) : CallD := { c with beg := 0, fin := -1 }
def zL5 (t : Int) (c : CallD) : CallD := if t < c.fin then { c with fin := -1 } else c
def zFN (t : Int) (c : CallD) : Bool := decide (c.beg ≤ t)
def piC (t : Int) (l : List CallD) (i : Nat) : Nat := ((l.take i).filter (zFN t)).length
def zL6 (t : Int) (l : List CallD) : List CallD := (l.filter (zFN t)).map (zL5 t)
def cutM (t : Int) (l : List CallD) (m : MovD) : MovD := if m.call < 0 then m else { m with call := (piC t l m.call.toNat : Int) }
def KeptM (t : Int) (l : List CallD) (m : MovD) : Prop := m.call < 0 ∨ zFN t (zH l m.call.toNat) = true
section
variable {t : Int} {l : List CallD}
structure CutR (t : Int) (l : List CallD) (s s' : LinS) : Prop where
  led : s'.t = s.t
  len : s.done.length = l.length
  len' : s'.done.length = (zL6 t l).length
  kept : ∀ i, i < l.length → zFN t (zH l i) = true → zH s'.done (piC t l i) = zH s.done i
end
end Go.Proofs.YtcdiehplbmkmeaaGreat
