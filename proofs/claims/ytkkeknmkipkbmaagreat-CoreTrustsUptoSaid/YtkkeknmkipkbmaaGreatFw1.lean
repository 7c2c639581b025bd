import Derived.Deep.Quiet
import Derived.StillTail
import Derived.Laws.AppendOwn
set_option linter.unusedSectionVars false
set_option linter.unusedSimpArgs false
set_option linter.unusedVariables false
namespace Go.Sc
def upd (f : Nat → Value) (d : Nat) (v : Value) : Nat → Value := fun i => bif Nat.beq i d then v else f i
def ev (f : Nat → Value) : Operand → Value
  | .tmp t => f t
  | .const v => v
  | .global g => .pointer (some ⟨g, 0, none⟩)
  | .func g => .func (.func g) #[] #[]
def ini : List Value → Nat → Value
  | [], _ => undef
  | v :: _, 0 => v
  | _ :: vs, i + 1 => ini vs i
structure Rep (n : Nat) (f : Nat → Value) (a : Act) : Prop where
  size : a.tmps.size = n
  defers : a.defers = []
  get : ∀ t, a.tmps.getD t undef = f t
theorem Rep.eval {n f a} (h : Rep n f a) : a.eval = ev f := by
  funext x
  cases x <;> simp [Act.eval, ev, h.get]
theorem j9 (f : Nat → Value) (d : Nat) (v : Value) : upd f d v d = v := by simp [upd]
theorem jF (f : Nat → Value) {d i : Nat} (v : Value) (h : i ≠ d) : upd f d v i = f i := by
  have : Nat.beq i d = false := by
    cases hb : Nat.beq i d
    · rfl
    · exact absurd (Nat.eq_of_beq_eq_true hb) h
  simp [upd, this]
theorem Rep.put {n f a} (h : Rep n f a) {d : Nat} (hd : d < n) (v : Value) : Rep n (upd f d v) (a.put (some d) v) := by
  refine ⟨by simp [Act.put, h.size], by simp [Act.put, h.defers], fun t => ?_⟩
  have hs := h.size
  by_cases ht : t = d
  · subst ht
    simp [Act.put, j9, Array.getD, hs, hd]
  · rw [jF _ _ ht, ← h.get t]
    have : d ≠ t := fun e => ht e.symm
    simp [Act.put, Array.getD_eq_getD_getElem?, Array.getElem?_setIfInBounds_ne this]
theorem Rep.put_none {n f a} (h : Rep n f a) (v : Value) : Rep n f (a.put none v) := h
abbrev K := (Nat → Value) → World → Prop
section
variable {P : Program} {n : Nat} {ops : Array Oper} {N : K} {f : Nat → Value} {w : World} {rest : List Oper}
def xf (n : Nat) (N : K) : Exit → Act → World → Prop
  | .normal, a, w => ∃ f, Rep n f a ∧ N f w
  | _, _, _ => False
def WL (P : Program) (n : Nat) (ops : Array Oper) (l : List Oper) (N : K) (f : Nat → Value) (w : World) : Prop :=
  ∀ a, Rep n f a → wpList P ops (xf n N) l a w
theorem zGS (h : N f w) : WL P n ops [] N f w := fun a ha => ⟨f, ha, h⟩
theorem kJ {w' : World} {d : Nat} {op : Op} {ty : TypeId} {p : String} {af : Array Edge} {v : Value}
    (hr : (execOp (ev f) ⟨some d, op, ty, p, af, none⟩).run P w = .ok (.value v) w') (hd : Nat.blt d n = true)
    (k : WL P n ops rest N (upd f d v) w') : WL P n ops (⟨some d, op, ty, p, af, none⟩ :: rest) N f w := by
  intro a ha
  refine wpList_plain rfl fun K hK => ?_
  unfold Oper.wp
  rw [ha.eval, hr]
  exact hK _ _ (k _ (ha.put (by simpa [Nat.blt_eq] using hd) v))
theorem zCr {w' : World} {op : Op} {ty : TypeId} {p : String} {af : Array Edge}
    (hr : (execOp (ev f) ⟨none, op, ty, p, af, none⟩).run P w = .ok .skip w')
    (k : WL P n ops rest N f w') : WL P n ops (⟨none, op, ty, p, af, none⟩ :: rest) N f w := by
  intro a ha
  refine wpList_plain rfl fun K hK => ?_
  unfold Oper.wp
  rw [ha.eval, hr]
  exact hK _ _ (k _ (ha.put_none undef))
def Rets (P : Program) (g : FuncId) (args : Array Value) (w : World) (R : Value → World → Prop) : Prop :=
  Calls P g args w fun e w' => ∃ v, e = .returned v ∧ R v w'
theorem Rets.mono {g : FuncId} {args : Array Value} {R R' : Value → World → Prop} (h : Rets P g args w R) (hr : ∀ v w', R v w' → R' v w') : Rets P g args w R' :=
  Calls.mono h fun _ _ ⟨v, e, r⟩ => ⟨v, e, hr _ _ r⟩
theorem zDQ {w' : World} {d : Nat} {op : Op} {ty : TypeId} {p : String} {af : Array Edge} {g : FuncId} {args : Array Value}
    (hr : (execOp (ev f) ⟨some d, op, ty, p, af, none⟩).run P w = .ok (.enter g args) w') (hd : Nat.blt d n = true)
    (k : Rets P g args w' fun v w'' => WL P n ops rest N (upd f d v) w'') : WL P n ops (⟨some d, op, ty, p, af, none⟩ :: rest) N f w := by
  intro a ha
  refine wpList_plain rfl fun K hK => ?_
  unfold Oper.wp
  rw [ha.eval, hr]
  refine Calls.mono k fun e w'' ⟨v, e1, r⟩ => ?_
  subst e1
  exact hK _ _ (r _ (ha.put (by simpa [Nat.blt_eq] using hd) v))
def ye (ops : Array Oper) (j : Nat) : Option Nat := (ops[j]?).bind (·.dst)
theorem xc {j d : Nat} {b : Bool} {a : Act} (ha : Rep n f a) (hj : ye ops j = some d) (hb : f d = .bool b) : yielded ops a.tmps j = some b := by
  have h := ha.get d
  unfold ye at hj
  simp only [yielded, hj, Option.bind_some]
  rw [Array.getD_eq_getD_getElem?, hb] at h
  cases hx : a.tmps[d]? with
  | none => rw [hx] at h; simp [undef] at h
  | some x => rw [hx] at h; simp at h; subst h; rfl
theorem zGj {j d : Nat} {b : Bool} {dst : Option Tmp} {op : Op} {ty : TypeId} {p : String} {af : Array Edge} (hj : ye ops j = some d) (hb : f d = .bool b)
    (k : WL P n ops (⟨dst, op, ty, p, af, none⟩ :: rest) N f w) : WL P n ops (⟨dst, op, ty, p, af, some (j, b)⟩ :: rest) N f w := by
  intro a ha
  have h := k a ha
  unfold wpList at h ⊢
  have hy := xc ha hj hb
  rw [if_pos (by simp [Region.wanted, hy])]
  rw [if_pos (by simp [Region.wanted])] at h
  exact h
theorem zJD {j d e : Nat} {b b' : Bool} {op : Op} {ty : TypeId} {p : String} {af : Array Edge} (hj : ye ops j = some d) (hb : f d = .bool b') (hne : (b' == b) = false) (hd : Nat.blt e n = true)
    (k : WL P n ops rest N (upd f e undef) w) : WL P n ops (⟨some e, op, ty, p, af, some (j, b)⟩ :: rest) N f w := by
  intro a ha
  unfold wpList
  have hy := xc ha hj hb
  rw [if_neg (by simp [Region.wanted, hy]; simpa using hne)]
  exact k _ (ha.put (by simpa [Nat.blt_eq] using hd) undef)
end
def zDV : Nat → List (Nat × K) → Option K
  | _, [] => none
  | i, (j, k) :: r => bif Nat.beq i j then some k else zDV i r
def post (n : Nat) (N R : K) (X : List (Nat × K)) : Exit → Act → World → Prop
  | .normal, a, w => ∃ f, Rep n f a ∧ N f w
  | .ret, a, w => ∃ f, Rep n f a ∧ R f w
  | .exit id, a, w => ∃ f, Rep n f a ∧ ∃ k, zDV id X = some k ∧ k f w
  | _, _, _ => False
def W (P : Program) (n : Nat) (c : Code) (N R : K) (X : List (Nat × K)) (f : Nat → Value) (w : World) : Prop :=
  ∀ a, Rep n f a → c.wp P (post n N R X) a w
section
variable {P : Program} {n : Nat} {N R : K} {X : List (Nat × K)} {f : Nat → Value} {w : World}
theorem zGE {N' R' : K} (hN : ∀ f w, N f w → N' f w) (hR : ∀ f w, R f w → R' f w) : ∀ e a w, post n N R X e a w → post n N' R' X e a w := by
  intro e a w h
  cases e <;> first | exact h.elim | exact h | (obtain ⟨f, r, q⟩ := h; first | exact ⟨f, r, hN _ _ q⟩ | exact ⟨f, r, hR _ _ q⟩)
theorem kG {c : Code} {N' : K} (h : W P n c N R X f w) (hN : ∀ f w, N f w → N' f w) : W P n c N' R X f w :=
  fun a ha => wp_mono (h a ha) (zGE hN fun _ _ h => h)
theorem zG7 (h : N f w) : W P n .skip N R X f w := fun a ha => wp_skip ⟨f, ha, h⟩
theorem zKn (h : R f w) : W P n .ret N R X f w := fun a ha => wp_ret ⟨f, ha, h⟩
theorem zGJ {id : Nat} {k : K} (hk : zDV id X = some k) (h : k f w) : W P n (.exit id) N R X f w := fun a ha => wp_exit ⟨f, ha, k, hk, h⟩
theorem zHU {x y : Code} (h : W P n x (fun f w => W P n y N R X f w) R X f w) : W P n (.seq x y) N R X f w := by
  intro a ha
  refine wp_seq (wp_mono (h a ha) ?_)
  intro e a w hq
  cases e with
  | normal => obtain ⟨g, hr, hw⟩ := hq; exact hw a hr
  | exit id => exact hq
  | ret => exact hq
  | goto l => exact hq
  | panic c => exact hq
  | outgrown => exact hq
theorem zKe {x y : Code} (I : K) (h : W P n x I R X f w) (hy : ∀ f w, I f w → W P n y N R X f w) : W P n (.seq x y) N R X f w :=
  zHU (kG h hy)
theorem zI0 {c : Operand} {x y : Code} {b : Bool} (hc : ev f c = .bool b) (h1 : b = true → W P n x N R X f w) (h2 : b = false → W P n y N R X f w) : W P n (.cond c x y) N R X f w := by
  intro a ha
  refine wp_cond_split (t := b) (by rw [ha.eval]; exact hc) (fun h => h1 h a ha) (fun h => h2 h a ha)
theorem zKd {c : Operand} {x y : Code} (hc : ev f c = .bool true) (h1 : W P n x N R X f w) : W P n (.cond c x y) N R X f w :=
  zI0 hc (fun _ => h1) (fun h => by cases h)
theorem zLB {c : Operand} {x y : Code} (hc : ev f c = .bool false) (h1 : W P n y N R X f w) : W P n (.cond c x y) N R X f w :=
  zI0 hc (fun h => by cases h) (fun _ => h1)
theorem zIQ {id : Nat} {c : Code} (h : W P n c N R ((id, N) :: X) f w) : W P n (.block id c) N R X f w := by
  intro a ha
  refine wp_block (wp_mono (h a ha) ?_)
  intro e a w hq
  cases e with
  | normal => exact hq
  | ret => exact hq
  | exit id' =>
    obtain ⟨g, hr, k, hk, hw⟩ := hq
    simp only [Exit.inBlock]
    by_cases hid : id' = id
    · rw [if_pos hid]
      subst hid
      simp only [zDV, Nat.beq_refl, cond_true, Option.some.injEq] at hk
      subst hk
      exact ⟨g, hr, hw⟩
    · rw [if_neg hid]
      have hb : Nat.beq id' id = false := by
        cases hb : Nat.beq id' id
        · rfl
        · exact absurd (Nat.eq_of_beq_eq_true hb) hid
      simp only [zDV, hb, cond_false] at hk
      exact ⟨g, hr, k, hk, hw⟩
  | goto l => exact hq
  | panic c => exact hq
  | outgrown => exact hq
theorem zDT {id : Nat} {l : List Oper} (h : WL P n l.toArray l N f w) : W P n (.region id l.toArray false) N R X f w := by
  intro a ha
  refine wp_mono (wp_region_lit (h a ha)) ?_
  intro e a w hq
  cases e <;> first | exact hq.elim | exact hq
def drawn (w : World) : World := { w with drawn := w.drawn + 1 }
def SL (P : Program) (n : Nat) (ops : Array Oper) (w : World) (N : (Nat → Value) → Prop) (l : List Oper) (f : Nat → Value) : Prop :=
  ∀ a, Rep n f a → wpStill P ops w (fun a => ∃ f, Rep n f a ∧ N f) l a
theorem zBT {id : Nat} {l : List Oper} (hm : P.follows .mixedOrders = true) (hB : Region.lexB .any l.toArray = true)
    (h : SL P n l.toArray (drawn w) (fun f => N f (drawn w)) l f) : W P n (.region id l.toArray true) N R X f w := by
  intro a ha
  refine wp_mono (wp_region_still_lit (Q := xf n N) hm hB (h a ha)) ?_
  intro e a w hq
  cases e <;> first | exact hq.elim | exact hq
variable {ops : Array Oper} {M : (Nat → Value) → Prop} {rest : List Oper}
theorem zHC (h : M f) : SL P n ops w M [] f := fun _ ha => ⟨f, ha, h⟩
theorem zEL {d : Nat} {op : Op} {ty : TypeId} {p : String} {af : Array Edge} {v : Value}
    (hr : (execOp (ev f) ⟨some d, op, ty, p, af, none⟩).run P w = .ok (.value v) w) (hd : Nat.blt d n = true)
    (k : SL P n ops w M rest (upd f d v)) : SL P n ops w M (⟨some d, op, ty, p, af, none⟩ :: rest) f := by
  intro a ha
  unfold wpStill
  rw [if_pos (by simp [Region.wanted])]
  unfold Oper.still
  rw [ha.eval, hr, Oper.stillUpon_value]
  exact k _ (ha.put (by simpa [Nat.blt_eq] using hd) v)
theorem zGs {j d : Nat} {b : Bool} {dst : Option Tmp} {op : Op} {ty : TypeId} {p : String} {af : Array Edge} (hj : ye ops j = some d) (hb : f d = .bool b)
    (k : SL P n ops w M (⟨dst, op, ty, p, af, none⟩ :: rest) f) : SL P n ops w M (⟨dst, op, ty, p, af, some (j, b)⟩ :: rest) f := by
  intro a ha
  have h := k a ha
  unfold wpStill at h ⊢
  have hy := xc ha hj hb
  rw [if_pos (by simp [Region.wanted, hy])]
  rw [if_pos (by simp [Region.wanted])] at h
  exact h
end
theorem zF1 {P : Program} {g : FuncId} {fn : Func} {c : Code} {args : List Value} {w : World} {R : Value → World → Prop}
    (hf : P.funcs[g]? = some fn) (hb : fn.body = some c) (hn : args.length ≤ fn.ntmps)
    (h : W P fn.ntmps c (fun f w => ∃ v, (∀ a, Rep fn.ntmps f a → (results fn a.tmps).run P w = .ok v w) ∧ R v w)
      (fun f w => ∃ v, (∀ a, Rep fn.ntmps f a → (results fn a.tmps).run P w = .ok v w) ∧ R v w) [] (ini args) w) : Rets P g args.toArray w R := by
  refine calls_of_wp hf hb ?_
  have hrep : Rep fn.ntmps (ini args) { tmps := args.toArray ++ Array.replicate (fn.ntmps - args.toArray.size) undef, defers := [] } := by
    refine ⟨by simp; omega, rfl, fun t => ?_⟩
    simp only [Array.getD_eq_getD_getElem?]
    have : ∀ (l : List Value) (m t : Nat), ((l.toArray ++ Array.replicate m undef)[t]?).getD undef = ini l t := by
      intro l
      induction l with
      | nil => intro m t; simp [ini, Array.getElem?_replicate]; split <;> rfl
      | cons v l ih =>
        intro m t
        cases t with
        | zero => simp [ini, Array.getElem?_append]
        | succ t =>
          have := ih m t
          simp only [ini]
          rw [← this]
          simp [Array.getElem?_append]
    exact this _ _ _
  refine wp_mono (h _ hrep) ?_
  intro e a w hq
  cases e with
  | normal => obtain ⟨f, hr, v, hv, hR⟩ := hq; exact ⟨hr.defers, v, hv a hr, v, rfl, hR⟩
  | ret => obtain ⟨f, hr, v, hv, hR⟩ := hq; exact ⟨hr.defers, v, hv a hr, v, rfl, hR⟩
  | exit id => obtain ⟨f, hr, k, hk, _⟩ := hq; simp [zDV] at hk
  | goto l => exact hq.elim
  | panic c => exact hq.elim
  | outgrown => exact hq.elim
end Go.Sc
