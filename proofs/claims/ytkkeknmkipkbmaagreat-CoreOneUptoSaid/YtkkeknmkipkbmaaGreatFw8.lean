import Derived.Test.YtkkeknmkipkbmaaGreatFw7
import Derived.KernelRfl
set_option linter.unusedSectionVars false
set_option linter.unusedSimpArgs false
set_option linter.unusedVariables false
namespace Go.Sc
def ka (P : Program) (fn : Func) (n : Nat) (R : Value → World → Prop) : K := fun f w => ∃ v, (∀ a, Rep n f a → (results fn a.tmps).run P w = .ok v w) ∧ R v w
section
variable {P : Program} {n : Nat} {fn : Func} {g : FuncId} {c : Code} {args : List Value} {w0 w : World} {R : Value → World → Prop} {S : List Nat} {L : List Res} {A : World → Prop} {f : Nat → Value}
theorem yc (hf : P.funcs[g]? = some fn) (hb : fn.body = some c) (hn : fn.ntmps = n) (hl : Nat.ble args.length n = true) (hA : A w) (h : C P n c (ka P fn n R) (ka P fn n R) [] (ini args) A) : Rets P g args.toArray w R := by
  subst hn
  exact zBb hf hb (Nat.le_of_ble_eq_true hl) (h w hA)
theorem yb (hr : fn.results = #[]) (h : ∀ w, A w → R (.tuple #[]) w) : ∀ w, A w → ka P fn n R f w :=
  fun w hw => ⟨_, fun a ha => results_none hr a.tmps P w, h w hw⟩
theorem zx {t : Tmp} {v : Value} (hr : fn.results = #[.tmp t]) (hv : f t = v) (h : ∀ w, A w → R v w) : ∀ w, A w → ka P fn n R f w :=
  fun w hw => ⟨v, fun a ha => by rw [results_tmp hr, ha.get, hv], h w hw⟩
theorem yj {t u : Tmp} {v v' : Value} (hr : fn.results = #[.tmp t, .tmp u]) (hv : f t = v) (hv' : f u = v') (h : ∀ w, A w → R (.tuple #[v, v']) w) : ∀ w, A w → ka P fn n R f w :=
  fun w hw => ⟨_, fun a ha => by rw [results_tmp2 hr, ha.get, ha.get, hv, hv'], h w hw⟩
theorem jz {t u s : Tmp} {v v' v'' : Value} (hr : fn.results = #[.tmp t, .tmp u, .tmp s]) (hv : f t = v) (hv' : f u = v') (hv'' : f s = v'') (h : ∀ w, A w → R (.tuple #[v, v', v'']) w) : ∀ w, A w → ka P fn n R f w :=
  fun w hw => ⟨_, fun a ha => by simp [results, hr, ha.get, hv, hv', hv''], h w hw⟩
theorem xp {t : Tmp} {T : TypeId} {b : Nat} {cs : List Value} (hr : fn.results = #[.cell t T]) (hv : f t = .pointer (some ⟨b, 0, none⟩)) (ht : xB P T = some cs.length) (hc : ∀ w, A w → ∀ i u, cs[i]? = some u → w.cell? ⟨b, 0 + i, none⟩ = some u)
    (h : ∀ w, A w → R (.agg cs.toArray) w) : ∀ w, A w → ka P fn n R f w :=
  fun w hw => ⟨_, fun a ha => by
    have := yL (P := P) ht (hc w hw)
    simp [results, hr, ha.get, hv, asAddr, this], h w hw⟩
theorem zAC {t u : Tmp} {T : TypeId} {b : Nat} {cs : List Value} {v : Value} (hr : fn.results = #[.cell t T, .tmp u]) (hv : f t = .pointer (some ⟨b, 0, none⟩)) (hv' : f u = v) (ht : xB P T = some cs.length) (hc : ∀ w, A w → ∀ i u, cs[i]? = some u → w.cell? ⟨b, 0 + i, none⟩ = some u)
    (h : ∀ w, A w → R (.tuple #[.agg cs.toArray, v]) w) : ∀ w, A w → ka P fn n R f w :=
  fun w hw => ⟨_, fun a ha => by
    have := yL (P := P) ht (hc w hw)
    simp [results, hr, ha.get, hv, hv', asAddr, this], h w hw⟩
theorem Own.rowCells {i b : Nat} {e : TypeId} {cs : List Value} (hL : L[i]? = some (Res.row b e cs)) : ∀ w, Own w0 S L w → ∀ j u, cs[j]? = some u → w.cell? ⟨b, 0 + j, none⟩ = some u :=
  fun w hw j u hu => by rw [Nat.zero_add]; exact hw.rowCell hL hu
end
def Agr (f : Nat → Value) : List (Nat × Value) → Prop
  | [] => True
  | (i, v) :: r => f i = v ∧ Agr f r
def kZ (g : Nat → Value) : List (Nat × Value) → Nat → Value
  | [] => g
  | (i, v) :: r => upd (kZ g r) i v
theorem x3 {g : Nat → Value} : ∀ {l : List (Nat × Value)}, Agr g l → kZ g l = g
  | [], _ => rfl
  | (i, v) :: r, h => by
    simp only [kZ]
    rw [x3 h.2]
    funext j
    by_cases hj : j = i
    · subst hj; rw [jD]; exact h.1.symm
    · rw [kN _ _ hj]
section
variable {P : Program} {n : Nat} {N R : K} {X : List (Nat × K)} {f : Nat → Value} {w0 : World} {S : List Nat} {A : World → Prop}
def zFf (σ : Type) (sl : σ → List (Nat × Value)) (B : σ → World → Prop) : K := fun f w => ∃ s : σ, Agr f (sl s) ∧ B s w
theorem zBm {c : Code} {Q : Exit → Act → World → Prop} {a : Act} {w : World} {σ : Type} (J : σ → Act → World → Prop) (μ : σ → Nat) (s0 : σ) (h0 : J s0 a w)
    (round : ∀ s a w, J s a w → c.wp P (Exit.then (fun a' w' => ∃ s', J s' a' w' ∧ μ s' < μ s) Q) a w) : (Code.loop c).wp P Q a w := by
  intro b k cs
  have key : ∀ m s a w, μ s = m → J s a w → ∃ e a' w', Q e a' w' ∧ Arrives P (lone (b.at a (.code c :: .inLoop c :: k)) cs w) b k cs e a' w' := by
    intro m
    induction m using Nat.strongRecOn with
    | _ m ih =>
      intro s a w hm hJ
      obtain ⟨e, a₁, w₁, hq, harr⟩ := round s a w hJ b (.inLoop c :: k) cs
      cases e with
      | normal =>
        obtain ⟨s', hJ', hlt⟩ := hq
        obtain ⟨e₂, a₂, w₂, hq₂, harr₂⟩ := ih (μ s') (hm ▸ hlt) s' a₁ w₁ rfl hJ'
        exact ⟨e₂, a₂, w₂, hq₂, .of_steps (Steps.trans harr (.one step_inLoop)) harr₂⟩
      | exit id => exact ⟨_, a₁, w₁, hq, .pass (x := .inLoop c) rfl (fun _ _ => .inl (by simp)) harr⟩
      | goto l => exact ⟨_, a₁, w₁, hq, .pass (x := .inLoop c) rfl (fun _ _ => .inl (by simp)) harr⟩
      | ret => exact ⟨_, a₁, w₁, hq, .pass (x := .inLoop c) rfl (fun _ _ => .inl (by simp)) harr⟩
      | panic ch => exact ⟨_, a₁, w₁, hq, .pass (x := .inLoop c) rfl (fun _ _ => .inl (by simp)) harr⟩
      | outgrown => exact ⟨_, a₁, w₁, hq, .pass (x := .inLoop c) rfl (fun _ _ => .inl (by simp)) harr⟩
  obtain ⟨e, a', w', hq, harr⟩ := key _ s0 a w rfl h0
  exact ⟨e, a', w', hq, .of_steps (.one step_loop) harr⟩
theorem zEo {c : Code} (σ : Type) (sl : σ → List (Nat × Value)) (B : σ → World → Prop) (μ : σ → Nat) (h0 : ∀ w, A w → zFf σ sl B f w)
    (round : ∀ (s : σ) (g : Nat → Value), C P n c (fun f' w' => ∃ s' : σ, Agr f' (sl s') ∧ B s' w' ∧ μ s' < μ s) R X (kZ g (sl s)) (B s)) : C P n (.loop c) N R X f A := by
  intro w hw a ha
  obtain ⟨s0, ha0, hb0⟩ := h0 w hw
  refine zBm (fun s a w => ∃ f, Rep n f a ∧ Agr f (sl s) ∧ B s w) μ s0 ⟨f, ha, ha0, hb0⟩ ?_
  rintro s a w ⟨f, ha, hag, hb⟩
  have h1 := round s f w hb
  rw [x3 hag] at h1
  refine wp_mono (h1 a ha) ?_
  intro e a' w' hq
  cases e with
  | normal =>
    obtain ⟨g, hr, s', h1, h2, h3⟩ := hq
    exact ⟨s', ⟨g, hr, h1, h2⟩, h3⟩
  | exit id => exact hq
  | ret => exact hq
  | goto l => exact hq
  | panic c => exact hq
  | outgrown => exact hq
end
theorem zo {a : Int} (h : -9223372036854775808 ≤ a ∧ a ≤ 9223372036854775807) : IntKind.i64.wrap a = a := by
  unfold IntKind.wrap
  simp [IntKind.bits, IntKind.signed]
  split <;> omega
theorem yn {a : Int} (h : 0 ≤ a ∧ a ≤ 18446744073709551615) : IntKind.u64.wrap a = a := by
  unfold IntKind.wrap
  simp [IntKind.bits, IntKind.signed]
  omega
theorem wu8 {a : Int} : IntKind.u8.wrap a = a % 256 := by
  simp [IntKind.wrap, IntKind.bits, IntKind.signed]
theorem zD8 {a : Int} (h : 0 ≤ a ∧ a ≤ 255) : IntKind.u8.wrap a = a := by rw [wu8]; omega
end Go.Sc
