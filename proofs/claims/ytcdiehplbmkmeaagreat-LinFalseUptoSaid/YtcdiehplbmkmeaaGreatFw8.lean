import Derived.Test.YtcdiehplbmkmeaaGreatFw6
import Derived.OrdersHeld
import Derived.KernelRfl
set_option linter.unusedSectionVars false
set_option linter.unusedSimpArgs false
set_option linter.unusedVariables false
namespace Go.Sc
section
variable {P : Program} {n : Nat} {ops : Array Oper} {N R : K} {X : List (Nat × K)} {f : Nat → Value} {S : World → Prop} {w : World}
variable {d : Nat} {ty : TypeId} {p : String} {af : Array Edge} {fuel : Nat} {listed : Array Bool}
def HL (P : Program) (n : Nat) (ops : Array Oper) (S : World → Prop) (N : K) (fuel : Nat) (listed : Array Bool) (f : Nat → Value) (w : World) : Prop :=
  ∀ a, Rep n f a → wpAnyH P .any ops (k7 n N) S fuel listed a w
theorem zBy {id : Nat} {l : List Oper} (S : World → Prop) (hm : P.follows .mixedOrders = true) (hS : S (drawn w))
    (h : HL P n l.toArray S N l.length (Array.replicate l.length false) f (drawn w)) : W P n (.region id l.toArray true) N R X f w := by
  intro a ha
  refine wp_mono (wp_region_any (Q := k7 n N) hm (wpAny_of_held (S := S) _ _ _ _ ?_)) ?_
  · have h1 := h a ha
    show wpAnyH P .any l.toArray (k7 n N) S l.toArray.size (Array.replicate l.toArray.size false) a (drawn w)
    rw [List.size_toArray]
    exact h1
  · intro e a w hq
    cases e <;> first | exact hq.elim | exact hq
theorem zo (i : Nat) {op : Op} {v : Value} (hi : ops[i]? = some ⟨some d, op, ty, p, af, none⟩) (hs : Region.noSelect ops = true) (hf : Region.free .any ops listed i = true) (hr : (Region.ready .any ops listed).contains i = true)
    (hv : RV P f ⟨some d, op, ty, p, af, none⟩ S v) (hd : Nat.blt d n = true) (hS : S w) (k : HL P n ops S N fuel (listed.setIfInBounds i true) (upd f d v) w) : HL P n ops S N (fuel + 1) listed f w := by
  intro a ha
  refine wpAnyH_take (v := v) hi hs hf hr (fun c a w h => h.elim) (.inl ⟨by simp [Region.wanted], fun w' hw' => ?_⟩) hS (k _ (ha.put (by simpa [Nat.blt_eq] using hd) v))
  rw [ha.eval]
  exact hv w' hw'
theorem zIa (i : Nat) {op : Op} {v : Value} {j e : Nat} {b : Bool} (hi : ops[i]? = some ⟨some d, op, ty, p, af, some (j, b)⟩) (hj : yQ ops j = some e) (hb : f e = .bool b) (hs : Region.noSelect ops = true) (hf : Region.free .any ops listed i = true) (hr : (Region.ready .any ops listed).contains i = true)
    (hv : RV P f ⟨some d, op, ty, p, af, none⟩ S v) (hd : Nat.blt d n = true) (hS : S w) (k : HL P n ops S N fuel (listed.setIfInBounds i true) (upd f d v) w) : HL P n ops S N (fuel + 1) listed f w := by
  intro a ha
  refine wpAnyH_take (v := v) hi hs hf hr (fun c a w h => h.elim) (.inl ⟨by simp [Region.wanted, xW ha hj hb], fun w' hw' => ?_⟩) hS (k _ (ha.put (by simpa [Nat.blt_eq] using hd) v))
  rw [ha.eval]
  exact hv w' hw'
theorem zKJ (i : Nat) {op : Op} {j e : Nat} {b b' : Bool} (hi : ops[i]? = some ⟨some d, op, ty, p, af, some (j, b)⟩) (hj : yQ ops j = some e) (hb : f e = .bool b') (hne : (b' == b) = false) (hs : Region.noSelect ops = true) (hf : Region.free .any ops listed i = true) (hr : (Region.ready .any ops listed).contains i = true)
    (hd : Nat.blt d n = true) (hS : S w) (k : HL P n ops S N fuel (listed.setIfInBounds i true) (upd f d undef) w) : HL P n ops S N (fuel + 1) listed f w := by
  intro a ha
  refine wpAnyH_take (v := undef) hi hs hf hr (fun c a w h => h.elim) (.inr ⟨by simp [Region.wanted, xW ha hj hb]; simpa using hne, rfl⟩) hS (k _ (ha.put (by simpa [Nat.blt_eq] using hd) undef))
theorem xU (hr : Region.ready .any ops listed = []) (h : N f w) : HL P n ops S N fuel listed f w := by
  intro a ha
  cases fuel with
  | zero => exact ⟨hr, f, ha, h⟩
  | succ fuel => exact ⟨fun _ => ⟨f, ha, h⟩, fun i hi => by rw [hr] at hi; cases hi⟩
theorem zJ8 {A : World → Prop} {id : Nat} {l : List Oper} (S : World → Prop) (hm : P.follows .mixedOrders = true) (hS : ∀ w, A w → S (drawn w))
    (h : ∀ w, A w → HL P n l.toArray S N l.length (Array.replicate l.length false) f (drawn w)) : C P n (.region id l.toArray true) N R X f A := fun w hw => zBy S hm (hS w hw) (h w hw)
end
def zC6 (P : Program) (fn : Func) (n : Nat) (R : Value → World → Prop) : K := fun f w => ∃ v, (∀ a, Rep n f a → (results fn a.tmps).run P w = .ok v w) ∧ R v w
section
variable {P : Program} {n : Nat} {fn : Func} {g : FuncId} {c : Code} {args : List Value} {w0 w : World} {R : Value → World → Prop} {S : List Nat} {L : List Res} {A : World → Prop} {f : Nat → Value}
theorem xe (hf : P.funcs[g]? = some fn) (hb : fn.body = some c) (hn : fn.ntmps = n) (hl : Nat.ble args.length n = true) (hA : A w) (h : C P n c (zC6 P fn n R) (zC6 P fn n R) [] (ini args) A) : Rets P g args.toArray w R := by
  subst hn
  exact zFy hf hb (Nat.le_of_ble_eq_true hl) (h w hA)
theorem j8 (hr : fn.results = #[]) (h : ∀ w, A w → R (.tuple #[]) w) : ∀ w, A w → zC6 P fn n R f w :=
  fun w hw => ⟨_, fun a ha => results_none hr a.tmps P w, h w hw⟩
theorem z4 {t : Tmp} {v : Value} (hr : fn.results = #[.tmp t]) (hv : f t = v) (h : ∀ w, A w → R v w) : ∀ w, A w → zC6 P fn n R f w :=
  fun w hw => ⟨v, fun a ha => by rw [results_tmp hr, ha.get, hv], h w hw⟩
theorem yo {t u : Tmp} {v v' : Value} (hr : fn.results = #[.tmp t, .tmp u]) (hv : f t = v) (hv' : f u = v') (h : ∀ w, A w → R (.tuple #[v, v']) w) : ∀ w, A w → zC6 P fn n R f w :=
  fun w hw => ⟨_, fun a ha => by rw [results_tmp2 hr, ha.get, ha.get, hv, hv'], h w hw⟩
theorem zCx {t : Tmp} {T : TypeId} {b : Nat} {cs : List Value} (hr : fn.results = #[.cell t T]) (hv : f t = .pointer (some ⟨b, 0, none⟩)) (ht : jL P T = some cs.length) (hc : ∀ w, A w → ∀ i u, cs[i]? = some u → w.cell? ⟨b, 0 + i, none⟩ = some u)
    (h : ∀ w, A w → R (.agg cs.toArray) w) : ∀ w, A w → zC6 P fn n R f w :=
  fun w hw => ⟨_, fun a ha => by
    have := kE (P := P) ht (hc w hw)
    simp [results, hr, ha.get, hv, asAddr, this], h w hw⟩
theorem zy {t u : Tmp} {T : TypeId} {b : Nat} {cs : List Value} {v : Value} (hr : fn.results = #[.cell t T, .tmp u]) (hv : f t = .pointer (some ⟨b, 0, none⟩)) (hv' : f u = v) (ht : jL P T = some cs.length) (hc : ∀ w, A w → ∀ i u, cs[i]? = some u → w.cell? ⟨b, 0 + i, none⟩ = some u)
    (h : ∀ w, A w → R (.tuple #[.agg cs.toArray, v]) w) : ∀ w, A w → zC6 P fn n R f w :=
  fun w hw => ⟨_, fun a ha => by
    have := kE (P := P) ht (hc w hw)
    simp [results, hr, ha.get, hv, hv', asAddr, this], h w hw⟩
theorem Own.rowCells {i b : Nat} {e : TypeId} {cs : List Value} (hL : L[i]? = some (Res.row b e cs)) : ∀ w, Own w0 S L w → ∀ j u, cs[j]? = some u → w.cell? ⟨b, 0 + j, none⟩ = some u :=
  fun w hw j u hu => by rw [Nat.zero_add]; exact hw.rowCell hL hu
end
def Agr (f : Nat → Value) : List (Nat × Value) → Prop
  | [] => True
  | (i, v) :: r => f i = v ∧ Agr f r
def zAF (g : Nat → Value) : List (Nat × Value) → Nat → Value
  | [] => g
  | (i, v) :: r => upd (zAF g r) i v
theorem zBf {g : Nat → Value} : ∀ {l : List (Nat × Value)}, Agr g l → zAF g l = g
  | [], _ => rfl
  | (i, v) :: r, h => by
    simp only [zAF]
    rw [zBf h.2]
    funext j
    by_cases hj : j = i
    · subst hj; rw [zAk]; exact h.1.symm
    · rw [jG _ _ hj]
section
variable {P : Program} {n : Nat} {N R : K} {X : List (Nat × K)} {f : Nat → Value} {w0 : World} {S : List Nat} {A : World → Prop}
def zMJ (σ : Type) (sl : σ → List (Nat × Value)) (B : σ → World → Prop) : K := fun f w => ∃ s : σ, Agr f (sl s) ∧ B s w
theorem zF4 {c : Code} {Q : Exit → Act → World → Prop} {a : Act} {w : World} {σ : Type} (J : σ → Act → World → Prop) (μ : σ → Nat) (s0 : σ) (h0 : J s0 a w)
    (round : ∀ s a w, J s a w → c.wp P (Exit.then (fun a' w' => ∃ s', J s' a' w' ∧ μ s' < μ s) Q) a w) : (Code.loop c).wp P Q a w := by
  intro b k cs
  have key : ∀ m s a w, μ s = m → J s a w → ∃ e a' w', Q e a' w' ∧ Arrives P (lone (b.at a (.code c :: .inLoop c :: k)) cs w) b k cs e a' w' := by
    intro m
    induction m using Nat.strongRecOn with
    | _ m ih =>
      intro s a w hm hJ
      obtain ⟨e, a₁, w₁, hq, harr⟩ := round s a w hJ b (.inLoop c :: k) cs
      cases e with
      | normal =>
        obtain ⟨s', hJ', hlt⟩ := hq
        obtain ⟨e₂, a₂, w₂, hq₂, harr₂⟩ := ih (μ s') (hm ▸ hlt) s' a₁ w₁ rfl hJ'
        exact ⟨e₂, a₂, w₂, hq₂, .of_steps (Steps.trans harr (.one step_inLoop)) harr₂⟩
      | exit id => exact ⟨_, a₁, w₁, hq, .pass (x := .inLoop c) rfl (fun _ _ => .inl (by simp)) harr⟩
      | goto l => exact ⟨_, a₁, w₁, hq, .pass (x := .inLoop c) rfl (fun _ _ => .inl (by simp)) harr⟩
      | ret => exact ⟨_, a₁, w₁, hq, .pass (x := .inLoop c) rfl (fun _ _ => .inl (by simp)) harr⟩
      | panic ch => exact ⟨_, a₁, w₁, hq, .pass (x := .inLoop c) rfl (fun _ _ => .inl (by simp)) harr⟩
      | outgrown => exact ⟨_, a₁, w₁, hq, .pass (x := .inLoop c) rfl (fun _ _ => .inl (by simp)) harr⟩
  obtain ⟨e, a', w', hq, harr⟩ := key _ s0 a w rfl h0
  exact ⟨e, a', w', hq, .of_steps (.one step_loop) harr⟩
theorem zJs {c : Code} (σ : Type) (sl : σ → List (Nat × Value)) (B : σ → World → Prop) (μ : σ → Nat) (h0 : ∀ w, A w → zMJ σ sl B f w)
    (round : ∀ (s : σ) (g : Nat → Value), C P n c (fun f' w' => ∃ s' : σ, Agr f' (sl s') ∧ B s' w' ∧ μ s' < μ s) R X (zAF g (sl s)) (B s)) : C P n (.loop c) N R X f A := by
  intro w hw a ha
  obtain ⟨s0, ha0, hb0⟩ := h0 w hw
  refine zF4 (fun s a w => ∃ f, Rep n f a ∧ Agr f (sl s) ∧ B s w) μ s0 ⟨f, ha, ha0, hb0⟩ ?_
  rintro s a w ⟨f, ha, hag, hb⟩
  have h1 := round s f w hb
  rw [zBf hag] at h1
  refine wp_mono (h1 a ha) ?_
  intro e a' w' hq
  cases e with
  | normal =>
    obtain ⟨g, hr, s', h1, h2, h3⟩ := hq
    exact ⟨s', ⟨g, hr, h1, h2⟩, h3⟩
  | exit id => exact hq
  | ret => exact hq
  | goto l => exact hq
  | panic c => exact hq
  | outgrown => exact hq
end
theorem zh {a : Int} (h : -9223372036854775808 ≤ a ∧ a ≤ 9223372036854775807) : IntKind.i64.wrap a = a := by
  unfold IntKind.wrap
  simp [IntKind.bits, IntKind.signed]
  split <;> omega
theorem zAt {a : Int} (h : 0 ≤ a ∧ a ≤ 18446744073709551615) : IntKind.u64.wrap a = a := by
  unfold IntKind.wrap
  simp [IntKind.bits, IntKind.signed]
  omega
theorem wu8 {a : Int} : IntKind.u8.wrap a = a % 256 := by
  simp [IntKind.wrap, IntKind.bits, IntKind.signed]
theorem zBF {a : Int} (h : 0 ≤ a ∧ a ≤ 255) : IntKind.u8.wrap a = a := by rw [wu8]; omega
end Go.Sc
