import Derived.Test.YtkkeknmkipkbmaaGreatFwH
set_option linter.unusedSimpArgs false
set_option linter.unusedVariables false
set_option linter.unusedSectionVars false
namespace Go.Sc
def zBI {α : Type} (P : Program) (l : Nat) (e1 e2 : α → Value) (Q : α → Prop) (N : Nat) (J : List α → List Res → Prop) : Prop :=
  ∀ pre x L w, J pre L → Q x → pre.length < N → Own w (y1 L) L w → ∃ fn tmps asg body, (Instr.yield l #[e1 x, e2 x]).run P w = .ok (.round l fn tmps asg body) w ∧
    RoundIn Fence.wide 0 P l fn tmps asg body w fun e w' => e = .returned (.bool true) ∧ ∃ L', J (pre ++ [x]) L' ∧ Own w (y1 L) L' w'
def zDq {α : Type} (P : Program) (g : FuncId) (lb : List Value) (e1 e2 : α → Value) (Q : α → Prop) (Sx : List α → Prop) (N : Nat) (Ls : List Res) : Prop :=
  ∀ (l : Nat) (J : List α → List Res → Prop) (L : List Res) (w : World), zBI P l e1 e2 Q N J → J [] L → Own w (y1 (Ls ++ L)) (Ls ++ L) w →
    Rets P g (.func (.yield l) #[] #[] :: lb).toArray w fun _ w' => ∃ xs L', Sx xs ∧ J xs L' ∧ Own w (y1 (Ls ++ L)) (Ls ++ L') w'
section
variable {P : Program} {n : Nat} {ops : Array Oper} {f : Nat → Value} {A : World → Prop} {rest : List Oper} {d : Nat} {ty : TypeId} {p : String} {af : Array Edge} {N R : K} {X : List (Nat × K)} {ds : List Deferred} {fn : Func} {g : FuncId}
theorem zCD {α : Type} {e1 e2 : α → Value} {Q : α → Prop} {s l M : Nat} {x y : Operand} {ats : Array TypeId} {J : List α → List Res → Prop} {w0 : World} {S : List Nat} {L : List Res} {pre : List α} (Ls : List Res) (e : α) (Y : zBI P l e1 e2 Q M J) (hf : f s = .func (.yield l) #[] #[]) (hx : ev f x = e1 e) (hy : ev f y = e2 e)
    (hJ : J pre L) (hQ : Q e) (hM : pre.length < M) (hd : Nat.blt d n = true) (k : ∀ L', J (pre ++ [e]) L' → IL P n ds ops rest N (upd f d (.bool true)) (Own w0 S (Ls ++ L'))) : IL P n ds ops (⟨some d, .call ⟨.value (.tmp s), #[x, y], ats⟩, ty, p, af, none⟩ :: rest) N f (Own w0 S (Ls ++ L)) := by
  intro w hw a ha
  unfold wpListIn
  rw [if_pos (by simp [Region.wanted])]
  refine ⟨fun _ _ => trivial, ?_⟩
  have hs : ∀ o, Oper.semAt (Wd none).round a.eval o = execOp a.eval o := fun _ => rfl
  rw [hs]
  obtain ⟨fn, tmps, asg, body, hy2, hr⟩ := Y pre e L w hJ hQ hM hw.giveEnd
  have he : (execOp (ev f) ⟨some d, .call ⟨.value (.tmp s), #[x, y], ats⟩, ty, p, af, none⟩).run P w = .ok (.round l fn tmps asg body) w := by
    simp [execOp, resolve, show ev f (.tmp s) = f s from rfl, hf, Deferred.ofValue, invoke, hx, hy, hy2]
  rw [ha.eval, he]
  refine ⟨fun q => by simp [Wd, Fence.wide] at q, RoundIn.mono (F := Fence.wide) hr ?_⟩
  rintro _ w' ⟨rfl, L', hJ', hO⟩
  exact k L' hJ' w' (hw.frameEnd hO) _ (ha.put (by simpa [Nat.blt_eq] using hd) _)
def RC (P : Program) (n l : Nat) (c : Code) (f : Nat → Value) (A B : World → Prop) : Prop := ∀ a w, Rep n f a → A w → c.wpIn (Wd (some l)) 0 P (yt n fun _ w' => B w') a w
theorem zFG {l i : Nat} {lo : List Oper} {c : Operand} {x : Code} {B : World → Prop} (hn : yW lo = true) (h : CL P n lo.toArray lo (fun f' w' => ev f' c = .bool false ∧ B w') f A) : RC P n l (.seq (.region i lo.toArray false) (.cond c x .skip)) f A B := fun a w ha hw => by
  refine wpIn_seq (wpIn_mono (ye hn (h w hw) a ha) ?_)
  intro e a w hq
  cases e <;> first | exact hq.elim | skip
  obtain ⟨f', hr, hc, hB⟩ := hq
  exact wpIn_cond_false (by rw [hr.eval]; exact hc) (wpIn_skip ⟨f', hr, hB⟩)
theorem zB1 {r0 r1 r2 blk c2 : Code} {args : List Value} {w : World} {R : Value → World → Prop} (hf : P.funcs[g]? = some fn) (hb : fn.body = some (.seq r0 (.seq r1 (.seq (.seq r2 blk) c2)))) (hn : fn.ntmps = n) (hl : Nat.ble args.length n = true) (hA : A w)
    (h : C P n r0 (fun f w => W P n r1 (fun f w => W P n r2 (RF P fn n blk c2 R) (fun _ _ => False) [] f w) (fun _ _ => False) [] f w) (fun _ _ => False) [] (ini args) A) : Rets P g args.toArray w R := by
  subst hn
  refine callsIn_wide (n := 0).1 (callsIn_of_wp_marks hf hb trivial ?_)
  have out : ∀ {N : K} {e : Exit} {a : Act} {w : World}, post fn.ntmps N (fun _ _ => False) [] e a w → e = .normal ∧ ∃ f, Rep fn.ntmps f a ∧ N f w := by
    intro N e a w hq
    cases e with
    | normal => exact ⟨rfl, hq⟩
    | ret => obtain ⟨_, _, h⟩ := hq; exact h.elim
    | exit id => obtain ⟨_, _, _, h, _⟩ := hq; cases h
    | _ => exact hq.elim
  refine wpIn_seq (wpIn_mono (wpIn_wide.2 (h w hA _ (zBR args fn.ntmps (Nat.le_of_ble_eq_true hl)))) ?_)
  intro e a w hq
  obtain ⟨rfl, f, hr, hw⟩ := out hq
  refine wpIn_seq (wpIn_mono (wpIn_wide.2 (hw a hr)) ?_)
  intro e a w hq
  obtain ⟨rfl, f, hr, hw⟩ := out hq
  refine wpIn_seq (wpIn_seq (wpIn_mono (wpIn_wide.2 (hw a hr)) ?_))
  intro e a w hq
  obtain ⟨rfl, f, hr, hw⟩ := out hq
  refine wpIn_mono (hw a hr) ?_
  intro e a w hq
  cases e <;> exact hq
theorem zCU {α : Type} {e1 e2 : α → Value} {Q : α → Prop} {Sx : List α → Prop} {N s p1 p2 i2 b0 b1 : Nat} {sg : FuncId} {lb : List Value} {Ls Lu : List Res} {Ju : List α → List Res → Prop} {l2 : List Oper} {c3 : Code} {f : Nat → Value} {w0 w : World} {S : List Nat} {c2 : Code} {R : Value → World → Prop}
    (hs : f s = .func (.func sg) #[] lb.toArray) (hcall : yh P sg = true) (hseq : zDq P sg lb e1 e2 Q Sx N Ls) (h0 : Ju [] Lu) (hw : Own w0 S (Ls ++ Lu) w) (hp1 : Nat.blt p1 n = true) (hp2 : Nat.blt p2 n = true) (hd2 : yW l2 = true)
    {Mid : List α → α → (Nat → Value) → List Res → Prop}
    (hround2 : ∀ pre x L w, Ju pre L → Q x → pre.length < N → CL P n l2.toArray l2 (fun f' w' => ∃ L2, Mid pre x f' L2 ∧ Own w (y1 L) L2 w') (upd (upd f p1 (e1 x)) p2 (e2 x)) (Own w (y1 L) L))
    (hround3 : ∀ l pre x f' L w, Mid pre x f' L → Q x → pre.length < N → RC P n l c3 f' (Own w (y1 L) L) (fun w' => ∃ L', Ju (pre ++ [x]) L' ∧ Own w (y1 L) L' w'))
    (hdone : ∀ xs L' D w', Sx xs → Ju xs L' → Own w0 S (Res.obj D (.deferred (some [])) :: (Ls ++ L')) w' → ∀ a, RepD n [{ target := .collected D, args := #[] }] f a → c2.wpIn Fence.wide 0 P (bodyPostM Fence.wide 0 P fn fun e w' => ∃ v, e = .returned v ∧ R v w') a w') :
    RF P fn n (.block b0 (.rangeFunc (.tmp s) #[p1, p2] (.region i2 l2.toArray false) (.block b1 c3))) c2 R f w := by
  intro a ha
  refine wpIn_block ?_
  refine wpIn_rangeFunc ?_
  intro fid _
  obtain ⟨rc, hrc⟩ : ∃ rc : LoopState → Option Code → Loop, rc = fun st pe => { state := st, pending := pe, fn := fid, tmps := a.tmps, params := #[p1, p2], assign := .region i2 l2.toArray false, body := .block b1 c3, defers := w.heap.size } := ⟨_, rfl⟩
  have hO1 : Own w0 S (Res.obj w.heap.size (.deferred (some [])) :: (Ls ++ Res.obj (w.heap.size + 1) (.loop (rc .ready none)) :: Lu)) ((w.alloc (.deferred (some []))).alloc (.loop (rc .ready none))) := by
    have h1 := (hw.newObj (.deferred (some []))).newObj (.loop (rc .ready none))
    rw [World.size_alloc] at h1
    refine h1.perm ?_
    rw [List.append_assoc]
    exact List.perm_append_comm.trans (List.Perm.cons _ (show (Res.obj (w.heap.size + 1) (.loop (rc .ready none)) :: (Ls ++ Lu)).Perm _ from List.perm_middle.symm))
  refine ⟨w.heap.size + 1, [{ target := .collected w.heap.size, args := #[] }], (w.alloc (.deferred (some []))).alloc (.loop (rc .ready none)), { target := .fn (.func sg) lb.toArray, args := #[.func (.yield (w.heap.size + 1)) #[] #[]] }, (w.alloc (.deferred (some []))).alloc (.loop (rc .ready none)), sg, #[.func (.yield (w.heap.size + 1)) #[] #[]] ++ lb.toArray, (w.alloc (.deferred (some []))).alloc (.loop (rc .ready none)),
    by rw [hrc]; exact run_enterLoop_outer _ _ _ _ _, ?_, fun _ _ => trivial, ?_, fun q => by simp [Fence.wide] at q, ?_⟩
  · simp [resolve, ha.eval, ev, hs, Deferred.ofValue]
  · have := yo hcall ((w.alloc (.deferred (some []))).alloc (.loop (rc .ready none))) (#[.func (.yield (w.heap.size + 1)) #[] #[]] ++ lb.toArray)
    simp only [invoke]
    exact this
  · rw [show (#[Value.func (.yield (w.heap.size + 1)) #[] #[]] ++ lb.toArray) = (.func (.yield (w.heap.size + 1)) #[] #[] :: lb).toArray by simp]
    have hO1' : Own w0 S ([Res.obj w.heap.size (.deferred (some []))] ++ (Ls ++ Res.obj (w.heap.size + 1) (.loop (rc .ready none)) :: Lu)) ((w.alloc (.deferred (some []))).alloc (.loop (rc .ready none))) := hO1
    refine callsIn_wide.2 (Calls.mono (hseq (w.heap.size + 1) (fun pre L => ∃ L1, L = Res.obj (w.heap.size + 1) (.loop (rc .ready none)) :: L1 ∧ Ju pre L1) _ _ ?_ ⟨Lu, rfl, h0⟩ hO1'.giveEnd) ?_)
    · rintro pre x L w1 ⟨L1, rfl, hJ⟩ hQ hlen hO
      have hl : w1.heap[w.heap.size + 1]? = some (.loop (rc .ready none)) := hO.holds 0 _ rfl
      have hy : (Instr.yield (w.heap.size + 1) #[e1 x, e2 x]).run P w1 = .ok (.round (w.heap.size + 1) fid ((a.tmps.setIfInBounds p1 (e1 x)).setIfInBounds p2 (e2 x)) (.region i2 l2.toArray false) (.block b1 c3)) w1 := by
        have h := run_yield (P := P) (args := #[e1 x, e2 x]) hl (by rw [hrc]; rfl)
        rw [h, hrc]
        simp
      refine ⟨_, _, _, _, hy, ?_⟩
      have hrep : Rep n (upd (upd f p1 (e1 x)) p2 (e2 x)) { tmps := (a.tmps.setIfInBounds p1 (e1 x)).setIfInBounds p2 (e2 x), defers := [] } := by
        have h1 := (ha.put (by simpa [Nat.blt_eq] using hp1) (e1 x)).put (by simpa [Nat.blt_eq] using hp2) (e2 x)
        have h2 := ha.defers
        cases a
        simp only at h2; subst h2
        exact h1
      have hO2 := hO.putObj (i := 0) (.loop { rc .ready none with state := .busy }) rfl
      refine roundIn_of_wpIn trivial (wpIn_mono (ye (ro := some (w.heap.size + 1)) (m := 0) hd2 (hround2 pre x L1 w1 hJ hQ hlen w1 (show Own w1 (y1 L1) L1 w1 from (show Own w1 _ ([Res.obj (w.heap.size + 1) (.loop (rc .ready none))] ++ L1) w1 from hO).giveEnd)) _ hrep) ?_)
      intro e a2 w2 hq
      cases e <;> first | exact hq.elim | skip
      obtain ⟨f', hr', L2, hmid, hOm⟩ := hq
      have hOa : Own w1 (y1 (Res.obj (w.heap.size + 1) (.loop (rc .ready none)) :: L1)) ([Res.obj (w.heap.size + 1) (.loop (rc .ready none))] ++ L2) w2 := (show Own w1 _ ([Res.obj (w.heap.size + 1) (.loop (rc .ready none))] ++ L1) w1 from hO).frameEnd hOm
      have hl2 : w2.heap[w.heap.size + 1]? = some (.loop (rc .ready none)) := hOa.holds 0 _ rfl
      have hOb := hOa.putObj (i := 0) (.loop { rc .ready none with state := .busy }) rfl
      refine ⟨_, run_beginRound hl2 (by rw [hrc]), ?_⟩
      have hOb' : Own w1 (y1 (Res.obj (w.heap.size + 1) (.loop (rc .ready none)) :: L1)) ([Res.obj (w.heap.size + 1) (.loop { rc .ready none with state := .busy })] ++ L2) (w2.putObj (w.heap.size + 1) (.loop { rc .ready none with state := .busy })) := hOb
      refine wpIn_block (wpIn_mono (hround3 (w.heap.size + 1) pre x f' L2 _ hmid hQ hlen a2 _ hr' hOb'.giveEnd) ?_)
      intro e a3 w3 hq
      cases e <;> first | exact hq.elim | skip
      obtain ⟨f3, hr3, L', hJ', hO3⟩ := hq
      have hO4 := hOb'.frameEnd hO3
      have hl3 : w3.heap[w.heap.size + 1]? = some (.loop { rc .ready none with state := .busy }) := hO4.holds 0 _ rfl
      have he := run_endRound (P := P) none hl3
      refine ⟨_, _, he, rfl, Res.obj (w.heap.size + 1) (.loop (rc .ready none)) :: L', ⟨L', rfl, hJ'⟩, ?_⟩
      have hO5 := hO4.putObj (i := 0) (.loop (rc .ready none)) rfl
      have e1 : (.loop { { rc .ready none with state := .busy } with state := if (none : Option Code).isNone then .ready else .done, pending := none } : Obj) = .loop (rc .ready none) := by rw [hrc]; rfl
      rw [e1]
      exact hO5
    · rintro _ w2 ⟨v, rfl, xs, L', hS, ⟨L1, rfl, hJ⟩, hO⟩
      have hO2 := (show Own w0 S _ _ from hO1'.frameEnd hO).perm (show ([Res.obj w.heap.size (.deferred (some []))] ++ (Ls ++ Res.obj (w.heap.size + 1) (.loop (rc .ready none)) :: L1)).Perm (Res.obj (w.heap.size + 1) (.loop (rc .ready none)) :: Res.obj w.heap.size (.deferred (some [])) :: (Ls ++ L1)) from
        (List.Perm.cons _ List.perm_middle).trans (.swap _ _ _))
      have hl : w2.heap[w.heap.size + 1]? = some (.loop (rc .ready none)) := hO2.holds 0 _ rfl
      refine ⟨none, w2.putObj (w.heap.size + 1) (.loop (rc .exhausted none)), by rw [run_endLoop (P := P) hl (by rw [hrc]; simp), hrc], ?_⟩
      have hO3 := (hO2.putObj (i := 0) (.loop (rc .exhausted none)) rfl).tail
      show Exit.inBlock b0 _ .normal _ _
      refine hdone xs L1 w.heap.size _ hS hJ hO3 _ ⟨?_, ?_⟩
      · have h2 := ha.defers
        cases a
        simp only at h2; subst h2
        exact ha
      · show _ ++ a.defers = _
        rw [ha.defers]; rfl
theorem zCf : ∀ (Q Q' : Exit → Act → World → Prop), (∀ e a w, Q e a w → Q' e a w) → ∀ (l : List Oper) (a : Act) (w : World), wpList P ops Q l a w → wpList P ops Q' l a w := by
  intro Q Q' hq l
  induction l with
  | nil => intro a w h; exact hq _ _ _ h
  | cons o l ih =>
    intro a w h
    unfold wpList at h ⊢
    split
    · rename_i hw
      rw [if_pos hw] at h
      rcases h with h | ⟨h1, a1, w1, h2⟩
      · left
        unfold Oper.wp at *
        generalize (execOp a.eval o).run P w = r at *
        cases r with
        | ok nx w' =>
          cases nx <;> simp only [Oper.upon] at h ⊢ <;>
            first
              | exact ih _ _ h
              | exact Calls.mono h (fun e w'' he => by
                  cases e with
                  | returned v => exact ih _ _ he
                  | panicked c => exact hq _ _ _ he
                  | outgrown => obtain ⟨a2, w2, h2⟩ := he; exact ⟨a2, w2, hq _ _ _ h2⟩)
              | exact Rows.mono h (fun _ _ he => ih _ _ he)
        | halt x w' => cases x <;> simp only [Oper.upon] at h ⊢ <;> exact hq _ _ _ h
      · exact .inr ⟨h1, a1, w1, hq _ _ _ h2⟩
    · rename_i hw
      rw [if_neg hw] at h
      exact ih _ _ h
def wd (a : Act) (ds : List Deferred) : Act := { a with defers := a.defers ++ ds }
theorem jn {Q : Exit → Act → World → Prop} {ds : List Deferred} (hq : ¬ LetsOut fun e a w => Q e (wd a ds) w) : ∀ (l : List Oper) (a : Act) (w : World), yW l = true → wpList P ops (fun e a w => Q e (wd a ds) w) l a w → wpListIn (Wd none) 0 P ops Q l (wd a ds) w
  | [], a, w, _, h => h
  | o :: l, a, w, hn, h => by
    simp only [yW, List.all_cons, Bool.and_eq_true] at hn
    have ih : ∀ (d : Option Nat) (v : Value) (w : World), wpList P ops (fun e a w => Q e (wd a ds) w) l (a.put d v) w → wpListIn (Wd none) 0 P ops Q l ((wd a ds).put d v) w := fun d v w h => by
      have e : wd (a.put d v) ds = (wd a ds).put d v := by cases d <;> rfl
      have := jn hq l (a.put d v) w hn.2 h
      rwa [e] at this
    have ihd : ∀ (x : Deferred) (d : Option Nat) (v : Value) (w : World), wpList P ops (fun e a w => Q e (wd a ds) w) l (({ a with defers := x :: a.defers } : Act).put d v) w → wpListIn (Wd none) 0 P ops Q l (({ wd a ds with defers := x :: (wd a ds).defers } : Act).put d v) w := fun x d v w h => by
      have e : wd (({ a with defers := x :: a.defers } : Act).put d v) ds = ({ wd a ds with defers := x :: (wd a ds).defers } : Act).put d v := by cases d <;> rfl
      have := jn hq l _ w hn.2 h
      rwa [e] at this
    unfold wpList at h
    unfold wpListIn
    split
    · rename_i hw
      have hw : Region.wanted o (yielded ops a.tmps) = true := hw
      rw [if_pos hw] at h
      have h := h.resolve_right fun q => hq q.2
      refine ⟨fun _ _ => trivial, ?_⟩
      rw [Oper.semAt_eq _ _ _ (fun c hc => by rw [hc] at hn; simp at hn)]
      unfold Oper.wp at h
      have ee : (wd a ds).eval = a.eval := rfl
      rw [ee]
      generalize (execOp a.eval o).run P w = r at h ⊢
      cases r with
      | ok nx w' =>
        cases nx <;> simp only [Oper.upon, Oper.uponIn] at h ⊢ <;>
          first
            | exact h.elim
            | exact ih _ _ _ h
            | exact ihd _ _ _ _ h
            | exact ⟨fun q => by simp [Wd, Fence.wide] at q, (jM h).mono fun e w'' he => by
                cases e with
                | returned v => exact ih _ _ _ he
                | panicked c => exact he
                | outgrown => exact absurd he hq⟩
            | exact ⟨fun q => by simp [Wd, Fence.wide] at q, (jg h).mono fun v w'' he => ih _ _ _ he⟩
      | halt x w' => cases x <;> simp only [Oper.upon, Oper.uponIn] at h ⊢ <;> exact h
    · rename_i hw
      have hw : ¬ Region.wanted o (yielded ops a.tmps) = true := hw
      rw [if_neg hw] at h
      exact ⟨fun _ _ => trivial, ih _ _ _ h⟩
theorem zAg {N : K} {l : List Oper} {a : Act} {w : World} (hn : yW l = true) (h : wpList P ops (yt n N) l { a with defers := [] } w) : wpListIn (Wd none) 0 P ops (zBJ n a.defers N) l a w := by
  have hm : wpList P ops (fun e b w => zBJ n a.defers N e (wd b a.defers) w) l { a with defers := [] } w := zCf _ _ (fun e b w q => by
    cases e <;> first | exact q | skip
    obtain ⟨f, hr, hN⟩ := q
    refine ⟨f, ⟨?_, ?_⟩, hN⟩
    · have h2 := hr.defers
      cases b
      simp only at h2; subst h2
      exact hr
    · show b.defers ++ a.defers = a.defers
      rw [hr.defers]; rfl) _ _ _ h
  exact jn (fun q => by obtain ⟨_, _, q⟩ := q; exact q) l { a with defers := [] } w hn hm
theorem zDf {i4 t4 t5 D : Nat} {T4 T5 : TypeId} {l4 : List Oper} {f : Nat → Value} {w0 w : World} {S : List Nat} {L : List Res} {R : Value → World → Prop} (hr : fn.results = #[.cell t4 T4, .cell t5 T5]) (h5 : one P T5 = true) (hn : yW l4 = true)
    (h : CL P n l4.toArray l4 (fun f' w' => ∃ (L' : List Res) (cs : List Value) (v : Value) (b4 b5 j4 j5 : Nat), (f' t4 = .pointer (some ⟨b4, 0, none⟩) ∧ f' t5 = .pointer (some ⟨b5, 0, none⟩)) ∧ (L'[j4]? = some (Res.row b4 T4 cs) ∧ L'[j5]? = some (Res.row b5 T5 [v])) ∧ xB P T4 = some cs.length
      ∧ Own w0 S (Res.obj D (.deferred (some [])) :: L') w' ∧ ∀ w'', Own w0 S L' w'' → R (.tuple #[.agg cs.toArray, v]) w'') f (Own w0 S (Res.obj D (.deferred (some [])) :: L))) (hw : Own w0 S (Res.obj D (.deferred (some [])) :: L) w) :
    ∀ a, RepD n [{ target := .collected D, args := #[] }] f a → (Code.seq (.region i4 l4.toArray false) .ret).wpIn Fence.wide 0 P (bodyPostM Fence.wide 0 P fn fun e w' => ∃ v, e = .returned v ∧ R v w') a w := by
  intro a ha
  have h1 := zAg (a := a) hn (h w hw _ ha.1)
  rw [ha.2] at h1
  refine wpIn_seq (wpIn_mono (wpIn_region_lit (F := Fence.wide) (n := 0) h1) ?_)
  intro e a w hq
  cases e <;> first | exact hq.elim | skip
  obtain ⟨f', hr', L', cs, v, b4, b5, j4, j5, ⟨e4, e5⟩, ⟨q4, q5⟩, hT, hO, hR⟩ := hq
  refine wpIn_ret ?_
  show LeavesInM Fence.wide 0 P fn a.tmps _ a.defers .returning w
  rw [hr'.2]
  refine ⟨by simp, .inl ⟨D, _, rfl, run_takeDeferred (hO.holds 0 _ rfl), ?_⟩⟩
  have hO2 := (hO.putObj (i := 0) (.deferred none) rfl).tail
  refine ⟨_, ?_, _, rfl, hR _ hO2⟩
  have g : ∀ t, a.tmps.getD t undef = f' t := hr'.1.get
  have r4 := yL (P := P) hT (hO2.rowCells q4)
  have r5 := xF (P := P) h5 (hO2.rowCell q5 (off := 0) (v := v) rfl)
  simp [results, hr, g, e4, e5, asAddr, r4, r5]
end
end Go.Sc
