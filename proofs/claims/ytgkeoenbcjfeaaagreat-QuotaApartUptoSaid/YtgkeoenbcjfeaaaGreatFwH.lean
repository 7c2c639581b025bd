/-
  RANGES OVER FUNCTIONS whose elements are kept in blocks of their own.
-/
import Derived.Test.YtgkeoenbcjfeaaaGreatFwG
set_option linter.unusedVariables false
set_option linter.unusedSectionVars false
namespace Go.Sc

section
variable {P : Program} {n : Nat} {fn : Func} {g : FuncId}
theorem Own.dropAt {w0 w : World} {S : List Nat} (Lp : List Res) {r : Res} {L : List Res} (h : Own w0 S (Lp ++ r :: L) w) : Own w0 S (Lp ++ L) w := (h.perm List.perm_middle).tail
theorem Own.inTail {w0 w : World} {S : List Nat} (Lp : List Res) {r : Res} {L : List Res} (h : Own w0 S (Lp ++ L ++ [r]) w) : Own w0 S (Lp ++ r :: L) w := h.perm (by rw [List.append_assoc]; exact List.Perm.append_left _ (List.perm_append_comm (l₁ := L) (l₂ := [r])))
theorem rf_rule2 {α : Type} {enc : α → Value} {Sx : List α → Prop} {N s p i2 b0 b1 i3 : Nat} {sg : FuncId} {lb : List Value} {Ls Lu : List Res} {Ju : List α → List Res → Prop} {l2 l3 : List Oper} {f : Nat → Value} {w0 w : World} {S : List Nat} {c2 : Code} {R : Value → World → Prop}
    (hs : f s = .func (.func sg) #[] lb.toArray) (hcall : callable P sg = true) (hseq : SeqC P sg lb enc Sx N Ls) (h0 : Ju [] Lu) (hw : Own w0 S (Ls ++ Lu) w) (hp : Nat.blt p n = true) (hd2 : noDefer l2 = true) (hd3 : noDefer l3 = true)
    {Mid : List α → α → (Nat → Value) → List Res → Prop}
    (hround2 : ∀ pre x L w, Ju pre L → pre.length < N → CL P n l2.toArray l2 (fun f' w' => ∃ L2, Mid pre x f' L2 ∧ Own w (fps L) L2 w') (upd f p (enc x)) (Own w (fps L) L))
    (hround3 : ∀ pre x f' L w, Mid pre x f' L → pre.length < N → CL P n l3.toArray l3 (fun _ w' => ∃ L', Ju (pre ++ [x]) L' ∧ Own w (fps L) L' w') f' (Own w (fps L) L))
    (hdone : ∀ xs L' D w', Sx xs → Ju xs L' → Own w0 S (Res.obj D (.deferred (some [])) :: (Ls ++ L')) w' → ∀ a, RepD n [{ target := .collected D, args := #[] }] f a → c2.wpIn Fence.wide 0 P (bodyPostM Fence.wide 0 P fn fun e w' => ∃ v, e = .returned v ∧ R v w') a w') :
    RF P fn n (.block b0 (.rangeFunc (.tmp s) #[p] (.region i2 l2.toArray false) (.block b1 (.region i3 l3.toArray false)))) c2 R f w := by
  intro a ha
  refine wpIn_block ?_
  refine wpIn_rangeFunc ?_
  intro fid _
  obtain ⟨rc, hrc⟩ : ∃ rc : LoopState → Option Code → Loop, rc = fun st pe => { state := st, pending := pe, fn := fid, tmps := a.tmps, params := #[p], assign := .region i2 l2.toArray false, body := .block b1 (.region i3 l3.toArray false), defers := w.heap.size } := ⟨_, rfl⟩
  have hO1 : Own w0 S (Res.obj w.heap.size (.deferred (some [])) :: (Ls ++ Res.obj (w.heap.size + 1) (.loop (rc .ready none)) :: Lu)) ((w.alloc (.deferred (some []))).alloc (.loop (rc .ready none))) := by
    have h1 := (hw.newObj (.deferred (some []))).newObj (.loop (rc .ready none))
    rw [World.size_alloc] at h1
    refine h1.perm ?_
    rw [List.append_assoc]
    exact List.perm_append_comm.trans (List.Perm.cons _ (show (Res.obj (w.heap.size + 1) (.loop (rc .ready none)) :: (Ls ++ Lu)).Perm _ from List.perm_middle.symm))
  refine ⟨w.heap.size + 1, [{ target := .collected w.heap.size, args := #[] }], (w.alloc (.deferred (some []))).alloc (.loop (rc .ready none)), { target := .fn (.func sg) lb.toArray, args := #[.func (.yield (w.heap.size + 1)) #[] #[]] }, (w.alloc (.deferred (some []))).alloc (.loop (rc .ready none)), sg, #[.func (.yield (w.heap.size + 1)) #[] #[]] ++ lb.toArray, (w.alloc (.deferred (some []))).alloc (.loop (rc .ready none)),
    by rw [hrc]; exact run_enterLoop_outer _ _ _ _ _, ?_, fun _ _ => trivial, ?_, fun q => by simp [Fence.wide] at q, ?_⟩
  · simp [resolve, ha.eval, ev, hs, Deferred.ofValue]
  · have := callable_spec hcall ((w.alloc (.deferred (some []))).alloc (.loop (rc .ready none))) (#[.func (.yield (w.heap.size + 1)) #[] #[]] ++ lb.toArray)
    simp only [invoke]
    exact this
  · rw [show (#[Value.func (.yield (w.heap.size + 1)) #[] #[]] ++ lb.toArray) = (.func (.yield (w.heap.size + 1)) #[] #[] :: lb).toArray by simp]
    have hO1' : Own w0 S ([Res.obj w.heap.size (.deferred (some []))] ++ (Ls ++ Res.obj (w.heap.size + 1) (.loop (rc .ready none)) :: Lu)) ((w.alloc (.deferred (some []))).alloc (.loop (rc .ready none))) := hO1
    refine callsIn_wide.2 (Calls.mono (hseq (w.heap.size + 1) (fun pre L => ∃ L1, L = Res.obj (w.heap.size + 1) (.loop (rc .ready none)) :: L1 ∧ Ju pre L1) _ _ ?_ ⟨Lu, rfl, h0⟩ hO1'.giveEnd) ?_)
    · -- a round
      rintro pre x L w1 ⟨L1, rfl, hJ⟩ hlen hO
      have hl : w1.heap[w.heap.size + 1]? = some (.loop (rc .ready none)) := hO.holds 0 _ rfl
      have hy : (Instr.yield (w.heap.size + 1) #[enc x]).run P w1 = .ok (.round (w.heap.size + 1) fid (a.tmps.setIfInBounds p (enc x)) (.region i2 l2.toArray false) (.block b1 (.region i3 l3.toArray false))) w1 := by
        have h := run_yield (P := P) (args := #[enc x]) hl (by rw [hrc]; rfl)
        rw [h, hrc]
        simp
      refine ⟨_, _, _, _, hy, ?_⟩
      have hrep : Rep n (upd f p (enc x)) { tmps := a.tmps.setIfInBounds p (enc x), defers := [] } := by
        have h1 := ha.put (by simpa [Nat.blt_eq] using hp) (enc x)
        have h2 := ha.defers
        cases a
        simp only at h2; subst h2
        exact h1
      have hO' : Own w1 (fps (Res.obj (w.heap.size + 1) (.loop (rc .ready none)) :: L1)) ([Res.obj (w.heap.size + 1) (.loop (rc .ready none))] ++ L1) w1 := hO
      refine roundIn_of_wpIn trivial (wpIn_mono (regionIn_of (ro := some (w.heap.size + 1)) (m := 0) hd2 (hround2 pre x L1 w1 hJ hlen _ hO'.giveEnd) _ hrep) ?_)
      intro e a2 w2 hq
      cases e <;> first | exact hq.elim | skip
      obtain ⟨f', hr', L2, hM, hOm⟩ := hq
      have hO1 := hO'.frameEnd hOm
      have hl : w2.heap[w.heap.size + 1]? = some (.loop (rc .ready none)) := hO1.holds 0 _ rfl
      have hO2 := hO1.putObj (i := 0) (.loop { rc .ready none with state := .busy }) rfl
      have hO2' : Own w1 (fps (Res.obj (w.heap.size + 1) (.loop (rc .ready none)) :: L1)) ([Res.obj (w.heap.size + 1) (.loop { rc .ready none with state := .busy })] ++ L2) (w2.putObj (w.heap.size + 1) (.loop { rc .ready none with state := .busy })) := hO2
      refine ⟨_, run_beginRound hl (by rw [hrc]), ?_⟩
      refine wpIn_block (wpIn_mono (regionIn_of (ro := some (w.heap.size + 1)) (m := 0) hd3 (hround3 pre x f' L2 _ hM hlen _ hO2'.giveEnd) a2 hr') ?_)
      intro e a3 w3 hq
      cases e <;> first | exact hq.elim | skip
      obtain ⟨f3, hr3, L', hJ', hO3⟩ := hq
      have hO4 := hO2'.frameEnd hO3
      have hl3 : w3.heap[w.heap.size + 1]? = some (.loop { rc .ready none with state := .busy }) := hO4.holds 0 _ rfl
      have he := run_endRound (P := P) none hl3
      refine ⟨_, _, he, rfl, Res.obj (w.heap.size + 1) (.loop (rc .ready none)) :: L', ⟨L', rfl, hJ'⟩, ?_⟩
      have hO5 := hO4.putObj (i := 0) (.loop (rc .ready none)) rfl
      have e1 : (.loop { { rc .ready none with state := .busy } with state := if (none : Option Code).isNone then .ready else .done, pending := none } : Obj) = .loop (rc .ready none) := by rw [hrc]; rfl
      rw [e1]
      exact hO5
    · rintro _ w2 ⟨v, rfl, xs, L', hS, ⟨L1, rfl, hJ⟩, hO⟩
      have hO2 := (show Own w0 S _ _ from hO1'.frameEnd hO).perm (show ([Res.obj w.heap.size (.deferred (some []))] ++ (Ls ++ Res.obj (w.heap.size + 1) (.loop (rc .ready none)) :: L1)).Perm (Res.obj (w.heap.size + 1) (.loop (rc .ready none)) :: Res.obj w.heap.size (.deferred (some [])) :: (Ls ++ L1)) from
        (List.Perm.cons _ List.perm_middle).trans (.swap _ _ _))
      have hl : w2.heap[w.heap.size + 1]? = some (.loop (rc .ready none)) := hO2.holds 0 _ rfl
      refine ⟨none, w2.putObj (w.heap.size + 1) (.loop (rc .exhausted none)), by rw [run_endLoop (P := P) hl (by rw [hrc]; simp), hrc], ?_⟩
      have hO3 := (hO2.putObj (i := 0) (.loop (rc .exhausted none)) rfl).tail
      show Exit.inBlock b0 _ .normal _ _
      refine hdone xs L1 w.heap.size _ hS hJ hO3 _ ⟨?_, ?_⟩
      · have h2 := ha.defers
        cases a
        simp only at h2; subst h2
        exact ha
      · show _ ++ a.defers = _
        rw [ha.defers]; rfl

end
end Go.Sc
