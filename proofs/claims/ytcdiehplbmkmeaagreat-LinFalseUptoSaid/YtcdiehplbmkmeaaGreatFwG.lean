import Derived.Test.YtcdiehplbmkmeaaGreatFwR
import Derived.Test.YtcdiehplbmkmeaaGreatFwT
import Derived.RangeFuncRecord
import Derived.TacticsIn
import Derived.Below
set_option linter.unusedSimpArgs false
set_option linter.unusedVariables false
set_option linter.unusedSectionVars false
namespace Go.Sc
theorem zDG : ∀ (L Ls : List Res), (List.range' Ls.length L.length).mapM (fun i => (Ls ++ L)[i]?) = some L
  | [], Ls => rfl
  | r :: L, Ls => by
    have ih := zDG L (Ls ++ [r])
    rw [List.length_cons, List.range'_succ, List.mapM_cons]
    have h0 : (Ls ++ r :: L)[Ls.length]? = some r := by simp
    rw [h0]
    simp only [List.append_assoc, List.cons_append, List.nil_append, List.length_append, List.length_cons, List.length_nil] at ih
    simp only [Option.bind_eq_bind, Option.bind_some]
    rw [ih]
    rfl
theorem zAj : ∀ (n k : Nat), (List.range' k n).Nodup
  | 0, k => by simp
  | n + 1, k => by
    rw [List.range'_succ, List.nodup_cons]
    exact ⟨fun h => by have := (List.mem_range'_1.1 h).1; omega, zAj n (k + 1)⟩
section
variable {w0 w w' : World} {S : List Nat} {L L' Ls : List Res}
theorem Own.giveEnd (h : Own w0 S (Ls ++ L) w) : Own w (x6 L) L w := h.give _ (zDG L Ls) (zAj _ _)
theorem Own.all (h : Own w0 S L w) : Own w (x6 L) L w := Own.giveEnd (Ls := []) h
def Res.obj (b : Nat) (o : Obj) : Res where
  fp := [b]
  φ w := w.heap[b]? = some o
  st w w' h hb := by show w'.heap[b]? = _; rw [hb b (by simp)]; exact h
  lt w h b' hb' := by simp at hb'; subst hb'; exact (Array.getElem?_eq_some_iff.1 h).1
end
def Wd (ro : Option Nat) : Fence := { Fence.wide with round := ro }
def noDefer (l : List Oper) : Bool := l.all fun o => match o.op with | .defer _ => false | _ => true
section
variable {P : Program} {n : Nat} {ops : Array Oper}
def zJ0 {α : Type} (P : Program) (l : Nat) (enc : α → Value) (N : Nat) (J : List α → List Res → Prop) : Prop :=
  ∀ pre x L w, J pre L → pre.length < N → Own w (x6 L) L w → ∃ fn tmps asg body, (Instr.yield l #[enc x]).run P w = .ok (.round l fn tmps asg body) w ∧
    RoundIn Fence.wide 0 P l fn tmps asg body w fun e w' => e = .returned (.bool true) ∧ ∃ L', J (pre ++ [x]) L' ∧ Own w (x6 L) L' w'
def SeqC {α : Type} (P : Program) (g : FuncId) (lb : List Value) (enc : α → Value) (Sx : List α → Prop) (N : Nat) (Ls : List Res) : Prop :=
  ∀ (l : Nat) (J : List α → List Res → Prop) (L : List Res) (w : World), zJ0 P l enc N J → J [] L → Own w (x6 (Ls ++ L)) (Ls ++ L) w →
    Rets P g (.func (.yield l) #[] #[] :: lb).toArray w fun _ w' => ∃ xs L', Sx xs ∧ J xs L' ∧ Own w (x6 (Ls ++ L)) (Ls ++ L') w'
def RepD (n : Nat) (ds : List Deferred) (f : Nat → Value) (a : Act) : Prop := Rep n f { a with defers := [] } ∧ a.defers = ds
theorem RepD.of {f : Nat → Value} {a : Act} (h : Rep n f a) : RepD n [] f a := ⟨by have := h.defers; cases a; simp only at this; subst this; exact h, h.defers⟩
theorem RepD.eval {f : Nat → Value} {a : Act} {ds : List Deferred} (h : RepD n ds f a) : a.eval = ev f := h.1.eval (a := { a with defers := [] })
theorem RepD.put {f : Nat → Value} {a : Act} {ds : List Deferred} (h : RepD n ds f a) {d : Nat} (hd : d < n) (v : Value) : RepD n ds (upd f d v) (a.put (some d) v) := ⟨h.1.put hd v, h.2⟩
def zLp (n : Nat) (ds : List Deferred) (N : K) : Exit → Act → World → Prop
  | .normal, a, w => ∃ f, RepD n ds f a ∧ N f w
  | _, _, _ => False
def IL (P : Program) (n : Nat) (ds : List Deferred) (ops : Array Oper) (l : List Oper) (N : K) (f : Nat → Value) (A : World → Prop) : Prop := ∀ w, A w → ∀ a, RepD n ds f a → wpListIn (Wd none) 0 P ops (zLp n ds N) l a w
variable {f : Nat → Value} {A : World → Prop} {rest : List Oper} {d : Nat} {ty : TypeId} {p : String} {af : Array Edge} {N R : K} {X : List (Nat × K)} {ds : List Deferred}
end
section
variable {w0 w w' : World} {S : List Nat} {L L' Ls : List Res}
theorem Own.swapAt (Lp : List Res) (r s : Res) (L : List Res) (h : Own w0 S (Lp ++ r :: s :: L) w) : Own w0 S (Lp ++ s :: r :: L) w := by
  have at0 : ∀ (x y : Res) (i : Nat), (Lp ++ x :: y :: L)[i]? = if i < Lp.length then Lp[i]? else if i = Lp.length then some x else if i = Lp.length + 1 then some y else L[i - Lp.length - 2]? := by
    intro x y i
    rw [List.getElem?_append]
    split
    · rfl
    · cases hi : i - Lp.length with
      | zero => rw [if_pos (by omega)]; rfl
      | succ k =>
        rw [if_neg (by omega)]
        cases k with
        | zero => rw [if_pos (by omega)]; rfl
        | succ k => rw [if_neg (by omega), show k + 1 + 1 - 2 = k by omega]; rfl
  refine h.pick (fun i => if i = Lp.length then Lp.length + 1 else if i = Lp.length + 1 then Lp.length else i) ?_ ?_
  · intro i x hx
    rw [at0] at hx ⊢
    by_cases h1 : i = Lp.length
    · rw [if_neg (by omega), if_pos h1] at hx
      rw [if_pos h1, if_neg (by omega), if_neg (by omega), if_pos rfl]; exact hx
    · rw [if_neg h1]
      by_cases h2 : i = Lp.length + 1
      · rw [if_neg (by omega), if_neg (by omega), if_pos h2] at hx
        rw [if_pos h2, if_neg (by omega), if_pos rfl]; exact hx
      · rw [if_neg h2]
        rw [if_neg h1, if_neg h2] at hx
        rw [if_neg h1, if_neg h2]; exact hx
  · intro i j _ _ hij
    split at hij <;> split at hij <;> (try split at hij) <;> (try split at hij) <;> omega
theorem Own.perm (hp : L.Perm L') (h : Own w0 S L w) : Own w0 S L' w := by
  suffices ∀ {L L' : List Res}, L.Perm L' → ∀ Lp, Own w0 S (Lp ++ L) w → Own w0 S (Lp ++ L') w from this hp [] h
  intro L L' hp
  induction hp with
  | nil => exact fun _ h => h
  | cons x _ ih => intro Lp h; have := ih (Lp ++ [x]) (by simpa using h); simpa using this
  | swap x y l => intro Lp h; exact h.swapAt
  | trans _ _ ih1 ih2 => exact fun Lp h => ih2 Lp (ih1 Lp h)
end
section
variable {P : Program} {n : Nat} {fn : Func} {g : FuncId}
def RF (P : Program) (fn : Func) (n : Nat) (c1 c2 : Code) (R : Value → World → Prop) : K := fun f w => ∀ a, Rep n f a →
  c1.wpIn Fence.wide 0 P (Exit.then (c2.wpIn Fence.wide 0 P (bodyPostM Fence.wide 0 P fn fun e w' => ∃ v, e = .returned v ∧ R v w')) (bodyPostM Fence.wide 0 P fn fun e w' => ∃ v, e = .returned v ∧ R v w')) a w
end
end Go.Sc
