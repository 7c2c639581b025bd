import Derived.Test.YtkkeknmkipkbmaaGreatFw6
import Derived.OrdersHeld
set_option linter.unusedSectionVars false
set_option linter.unusedSimpArgs false
set_option linter.unusedVariables false
namespace Go.Sc
section
variable {P : Program} {n : Nat} {ops : Array Oper} {N R : K} {X : List (Nat × K)} {f : Nat → Value} {S : World → Prop} {w : World}
variable {d : Nat} {ty : TypeId} {p : String} {af : Array Edge} {fuel : Nat} {listed : Array Bool}
def HL (P : Program) (n : Nat) (ops : Array Oper) (S : World → Prop) (N : K) (fuel : Nat) (listed : Array Bool) (f : Nat → Value) (w : World) : Prop :=
  ∀ a, Rep n f a → wpAnyH P .any ops (yt n N) S fuel listed a w
theorem jU {id : Nat} {l : List Oper} (S : World → Prop) (hm : P.follows .mixedOrders = true) (hS : S (drawn w))
    (h : HL P n l.toArray S N l.length (Array.replicate l.length false) f (drawn w)) : W P n (.region id l.toArray true) N R X f w := by
  intro a ha
  refine wp_mono (wp_region_any (Q := yt n N) hm (wpAny_of_held (S := S) _ _ _ _ ?_)) ?_
  · have h1 := h a ha
    show wpAnyH P .any l.toArray (yt n N) S l.toArray.size (Array.replicate l.toArray.size false) a (drawn w)
    rw [List.size_toArray]
    exact h1
  · intro e a w hq
    cases e <;> first | exact hq.elim | exact hq
theorem zEW (i : Nat) {op : Op} {v : Value} (hi : ops[i]? = some ⟨some d, op, ty, p, af, none⟩) (hs : Region.noSelect ops = true) (hf : Region.free .any ops listed i = true) (hr : (Region.ready .any ops listed).contains i = true)
    (hv : RV P f ⟨some d, op, ty, p, af, none⟩ S v) (hd : Nat.blt d n = true) (hS : S w) (k : HL P n ops S N fuel (listed.setIfInBounds i true) (upd f d v) w) : HL P n ops S N (fuel + 1) listed f w := by
  intro a ha
  refine wpAnyH_take (v := v) hi hs hf hr (fun c a w h => h.elim) (.inl ⟨by simp [Region.wanted], fun w' hw' => ?_⟩) hS (k _ (ha.put (by simpa [Nat.blt_eq] using hd) v))
  rw [ha.eval]
  exact hv w' hw'
theorem zDQ (i : Nat) {op : Op} {v : Value} {j e : Nat} {b : Bool} (hi : ops[i]? = some ⟨some d, op, ty, p, af, some (j, b)⟩) (hj : yF ops j = some e) (hb : f e = .bool b) (hs : Region.noSelect ops = true) (hf : Region.free .any ops listed i = true) (hr : (Region.ready .any ops listed).contains i = true)
    (hv : RV P f ⟨some d, op, ty, p, af, none⟩ S v) (hd : Nat.blt d n = true) (hS : S w) (k : HL P n ops S N fuel (listed.setIfInBounds i true) (upd f d v) w) : HL P n ops S N (fuel + 1) listed f w := by
  intro a ha
  refine wpAnyH_take (v := v) hi hs hf hr (fun c a w h => h.elim) (.inl ⟨by simp [Region.wanted, xG ha hj hb], fun w' hw' => ?_⟩) hS (k _ (ha.put (by simpa [Nat.blt_eq] using hd) v))
  rw [ha.eval]
  exact hv w' hw'
theorem zEH (i : Nat) {op : Op} {j e : Nat} {b b' : Bool} (hi : ops[i]? = some ⟨some d, op, ty, p, af, some (j, b)⟩) (hj : yF ops j = some e) (hb : f e = .bool b') (hne : (b' == b) = false) (hs : Region.noSelect ops = true) (hf : Region.free .any ops listed i = true) (hr : (Region.ready .any ops listed).contains i = true)
    (hd : Nat.blt d n = true) (hS : S w) (k : HL P n ops S N fuel (listed.setIfInBounds i true) (upd f d undef) w) : HL P n ops S N (fuel + 1) listed f w := by
  intro a ha
  refine wpAnyH_take (v := undef) hi hs hf hr (fun c a w h => h.elim) (.inr ⟨by simp [Region.wanted, xG ha hj hb]; simpa using hne, rfl⟩) hS (k _ (ha.put (by simpa [Nat.blt_eq] using hd) undef))
theorem zEm (hr : Region.ready .any ops listed = []) (h : N f w) : HL P n ops S N fuel listed f w := by
  intro a ha
  cases fuel with
  | zero => exact ⟨hr, f, ha, h⟩
  | succ fuel => exact ⟨fun _ => ⟨f, ha, h⟩, fun i hi => by rw [hr] at hi; cases hi⟩
theorem zEr {A : World → Prop} {id : Nat} {l : List Oper} (S : World → Prop) (hm : P.follows .mixedOrders = true) (hS : ∀ w, A w → S (drawn w))
    (h : ∀ w, A w → HL P n l.toArray S N l.length (Array.replicate l.length false) f (drawn w)) : C P n (.region id l.toArray true) N R X f A := fun w hw => jU S hm (hS w hw) (h w hw)
end
end Go.Sc
