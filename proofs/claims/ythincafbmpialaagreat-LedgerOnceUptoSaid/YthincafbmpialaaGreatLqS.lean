import Derived.Test.YthincafbmpialaaGreatFwG
import Derived.Test.YthincafbmpialaaGreatFwR
import Derived.Laws.Externs
import Derived.Test.YthincafbmpialaaGreatLeaK
import Derived.Test.YthincafbmpialaaGreatQuotaW
/-
  RANGES OVER FUNCTIONS whose elements are kept in blocks of their own.
-/
set_option linter.unusedVariables false
set_option linter.unusedSectionVars false
namespace Go.Sc

section
variable {P : Program} {n : Nat} {fn : Func} {g : FuncId}
theorem Own.dropAt {w0 w : World} {S : List Nat} (Lp : List Res) {r : Res} {L : List Res} (h : Own w0 S (Lp ++ r :: L) w) : Own w0 S (Lp ++ L) w := (h.perm List.perm_middle).tail
theorem Own.inTail {w0 w : World} {S : List Nat} (Lp : List Res) {r : Res} {L : List Res} (h : Own w0 S (Lp ++ L ++ [r]) w) : Own w0 S (Lp ++ r :: L) w := h.perm (by rw [List.append_assoc]; exact List.Perm.append_left _ (List.perm_append_comm (l₁ := L) (l₂ := [r])))
theorem rf_rule2 {α : Type} {enc : α → Value} {Sx : List α → Prop} {N s p i2 b0 b1 i3 : Nat} {sg : FuncId} {lb : List Value} {Ls Lu : List Res} {Ju : List α → List Res → Prop} {l2 l3 : List Oper} {f : Nat → Value} {w0 w : World} {S : List Nat} {c2 : Code} {R : Value → World → Prop}
    (hs : f s = .func (.func sg) #[] lb.toArray) (hcall : callable P sg = true) (hseq : SeqC P sg lb enc Sx N Ls) (h0 : Ju [] Lu) (hw : Own w0 S (Ls ++ Lu) w) (hp : Nat.blt p n = true) (hd2 : noDefer l2 = true) (hd3 : noDefer l3 = true)
    {Mid : List α → α → (Nat → Value) → List Res → Prop}
    (hround2 : ∀ pre x L w, Ju pre L → pre.length < N → CL P n l2.toArray l2 (fun f' w' => ∃ L2, Mid pre x f' L2 ∧ Own w (fps L) L2 w') (upd f p (enc x)) (Own w (fps L) L))
    (hround3 : ∀ pre x f' L w, Mid pre x f' L → pre.length < N → CL P n l3.toArray l3 (fun _ w' => ∃ L', Ju (pre ++ [x]) L' ∧ Own w (fps L) L' w') f' (Own w (fps L) L))
    (hdone : ∀ xs L' D w', Sx xs → Ju xs L' → Own w0 S (Res.obj D (.deferred (some [])) :: (Ls ++ L')) w' → ∀ a, RepD n [{ target := .collected D, args := #[] }] f a → c2.wpIn Fence.wide 0 P (bodyPostM Fence.wide 0 P fn fun e w' => ∃ v, e = .returned v ∧ R v w') a w') :
    RF P fn n (.block b0 (.rangeFunc (.tmp s) #[p] (.region i2 l2.toArray false) (.block b1 (.region i3 l3.toArray false)))) c2 R f w := by
  intro a ha
  refine wpIn_block ?_
  refine wpIn_rangeFunc ?_
  intro fid _
  obtain ⟨rc, hrc⟩ : ∃ rc : LoopState → Option Code → Loop, rc = fun st pe => { state := st, pending := pe, fn := fid, tmps := a.tmps, params := #[p], assign := .region i2 l2.toArray false, body := .block b1 (.region i3 l3.toArray false), defers := w.heap.size } := ⟨_, rfl⟩
  have hO1 : Own w0 S (Res.obj w.heap.size (.deferred (some [])) :: (Ls ++ Res.obj (w.heap.size + 1) (.loop (rc .ready none)) :: Lu)) ((w.alloc (.deferred (some []))).alloc (.loop (rc .ready none))) := by
    have h1 := (hw.newObj (.deferred (some []))).newObj (.loop (rc .ready none))
    rw [World.size_alloc] at h1
    refine h1.perm ?_
    rw [List.append_assoc]
    exact List.perm_append_comm.trans (List.Perm.cons _ (show (Res.obj (w.heap.size + 1) (.loop (rc .ready none)) :: (Ls ++ Lu)).Perm _ from List.perm_middle.symm))
  refine ⟨w.heap.size + 1, [{ target := .collected w.heap.size, args := #[] }], (w.alloc (.deferred (some []))).alloc (.loop (rc .ready none)), { target := .fn (.func sg) lb.toArray, args := #[.func (.yield (w.heap.size + 1)) #[] #[]] }, (w.alloc (.deferred (some []))).alloc (.loop (rc .ready none)), sg, #[.func (.yield (w.heap.size + 1)) #[] #[]] ++ lb.toArray, (w.alloc (.deferred (some []))).alloc (.loop (rc .ready none)),
    by rw [hrc]; exact run_enterLoop_outer _ _ _ _ _, ?_, fun _ _ => trivial, ?_, fun q => by simp [Fence.wide] at q, ?_⟩
  · simp [resolve, ha.eval, ev, hs, Deferred.ofValue]
  · have := callable_spec hcall ((w.alloc (.deferred (some []))).alloc (.loop (rc .ready none))) (#[.func (.yield (w.heap.size + 1)) #[] #[]] ++ lb.toArray)
    simp only [invoke]
    exact this
  · rw [show (#[Value.func (.yield (w.heap.size + 1)) #[] #[]] ++ lb.toArray) = (.func (.yield (w.heap.size + 1)) #[] #[] :: lb).toArray by simp]
    have hO1' : Own w0 S ([Res.obj w.heap.size (.deferred (some []))] ++ (Ls ++ Res.obj (w.heap.size + 1) (.loop (rc .ready none)) :: Lu)) ((w.alloc (.deferred (some []))).alloc (.loop (rc .ready none))) := hO1
    refine callsIn_wide.2 (Calls.mono (hseq (w.heap.size + 1) (fun pre L => ∃ L1, L = Res.obj (w.heap.size + 1) (.loop (rc .ready none)) :: L1 ∧ Ju pre L1) _ _ ?_ ⟨Lu, rfl, h0⟩ hO1'.giveEnd) ?_)
    · -- a round
      rintro pre x L w1 ⟨L1, rfl, hJ⟩ hlen hO
      have hl : w1.heap[w.heap.size + 1]? = some (.loop (rc .ready none)) := hO.holds 0 _ rfl
      have hy : (Instr.yield (w.heap.size + 1) #[enc x]).run P w1 = .ok (.round (w.heap.size + 1) fid (a.tmps.setIfInBounds p (enc x)) (.region i2 l2.toArray false) (.block b1 (.region i3 l3.toArray false))) w1 := by
        have h := run_yield (P := P) (args := #[enc x]) hl (by rw [hrc]; rfl)
        rw [h, hrc]
        simp
      refine ⟨_, _, _, _, hy, ?_⟩
      have hrep : Rep n (upd f p (enc x)) { tmps := a.tmps.setIfInBounds p (enc x), defers := [] } := by
        have h1 := ha.put (by simpa [Nat.blt_eq] using hp) (enc x)
        have h2 := ha.defers
        cases a
        simp only at h2; subst h2
        exact h1
      have hO' : Own w1 (fps (Res.obj (w.heap.size + 1) (.loop (rc .ready none)) :: L1)) ([Res.obj (w.heap.size + 1) (.loop (rc .ready none))] ++ L1) w1 := hO
      refine roundIn_of_wpIn trivial (wpIn_mono (regionIn_of (ro := some (w.heap.size + 1)) (m := 0) hd2 (hround2 pre x L1 w1 hJ hlen _ hO'.giveEnd) _ hrep) ?_)
      intro e a2 w2 hq
      cases e <;> first | exact hq.elim | skip
      obtain ⟨f', hr', L2, hM, hOm⟩ := hq
      have hO1 := hO'.frameEnd hOm
      have hl : w2.heap[w.heap.size + 1]? = some (.loop (rc .ready none)) := hO1.holds 0 _ rfl
      have hO2 := hO1.putObj (i := 0) (.loop { rc .ready none with state := .busy }) rfl
      have hO2' : Own w1 (fps (Res.obj (w.heap.size + 1) (.loop (rc .ready none)) :: L1)) ([Res.obj (w.heap.size + 1) (.loop { rc .ready none with state := .busy })] ++ L2) (w2.putObj (w.heap.size + 1) (.loop { rc .ready none with state := .busy })) := hO2
      refine ⟨_, run_beginRound hl (by rw [hrc]), ?_⟩
      refine wpIn_block (wpIn_mono (regionIn_of (ro := some (w.heap.size + 1)) (m := 0) hd3 (hround3 pre x f' L2 _ hM hlen _ hO2'.giveEnd) a2 hr') ?_)
      intro e a3 w3 hq
      cases e <;> first | exact hq.elim | skip
      obtain ⟨f3, hr3, L', hJ', hO3⟩ := hq
      have hO4 := hO2'.frameEnd hO3
      have hl3 : w3.heap[w.heap.size + 1]? = some (.loop { rc .ready none with state := .busy }) := hO4.holds 0 _ rfl
      have he := run_endRound (P := P) none hl3
      refine ⟨_, _, he, rfl, Res.obj (w.heap.size + 1) (.loop (rc .ready none)) :: L', ⟨L', rfl, hJ'⟩, ?_⟩
      have hO5 := hO4.putObj (i := 0) (.loop (rc .ready none)) rfl
      have e1 : (.loop { { rc .ready none with state := .busy } with state := if (none : Option Code).isNone then .ready else .done, pending := none } : Obj) = .loop (rc .ready none) := by rw [hrc]; rfl
      rw [e1]
      exact hO5
    · rintro _ w2 ⟨v, rfl, xs, L', hS, ⟨L1, rfl, hJ⟩, hO⟩
      have hO2 := (show Own w0 S _ _ from hO1'.frameEnd hO).perm (show ([Res.obj w.heap.size (.deferred (some []))] ++ (Ls ++ Res.obj (w.heap.size + 1) (.loop (rc .ready none)) :: L1)).Perm (Res.obj (w.heap.size + 1) (.loop (rc .ready none)) :: Res.obj w.heap.size (.deferred (some [])) :: (Ls ++ L1)) from
        (List.Perm.cons _ List.perm_middle).trans (.swap _ _ _))
      have hl : w2.heap[w.heap.size + 1]? = some (.loop (rc .ready none)) := hO2.holds 0 _ rfl
      refine ⟨none, w2.putObj (w.heap.size + 1) (.loop (rc .exhausted none)), by rw [run_endLoop (P := P) hl (by rw [hrc]; simp), hrc], ?_⟩
      have hO3 := (hO2.putObj (i := 0) (.loop (rc .exhausted none)) rfl).tail
      show Exit.inBlock b0 _ .normal _ _
      refine hdone xs L1 w.heap.size _ hS hJ hO3 _ ⟨?_, ?_⟩
      · have h2 := ha.defers
        cases a
        simp only at h2; subst h2
        exact ha
      · show _ ++ a.defers = _
        rw [ha.defers]; rfl

end
end Go.Sc

/-
  MAPS COPIED: maps.clone; a map in an interface; a map held against nil.
-/
set_option linter.unusedVariables false
set_option linter.unusedSectionVars false
namespace Go.Sc

def isMapT (P : Program) (t : TypeId) : Bool := match P.underlying t with | some (.map _ _) => true | _ => false
section
variable {κ α : Type} [DecidableEq κ] {P : Program} {kt vt t t' : TypeId} {ke : κ → Value} {ve : α → Value}
variable {n : Nat} {ops : Array Oper} {N : K} {f : Nat → Value} {rest : List Oper} {d : Nat} {ty : TypeId} {p : String} {af : Array Edge} {x y z : Operand} {w0 : World} {S : List Nat} {L : List Res} {A : World → Prop}
end
end Go.Sc

/-
  A TABLE's BUDGETS AND LEASES, IN ORDER; a table copied and loaded.
-/
set_option linter.unusedVariables false
set_option maxRecDepth 10000
namespace Go.Proofs.YthincafbmpialaaGreat
open Go Go.Sc Go.Proofs

theorem comes_step {κ α β : Type} {g : κ × α → β} {kl todo q1 q2 : List (κ × α)} {xs : List β} {p : κ × α} (h : (xs ++ todo.map g).Perm (kl.map g)) (hq : todo = q1 ++ p :: q2) : ((xs ++ [g p]) ++ (q1 ++ q2).map g).Perm (kl.map g) := by
  refine List.Perm.trans ?_ h
  rw [hq, List.append_assoc]
  refine List.Perm.append_left _ ?_
  rw [List.map_append, List.map_append, List.map_cons]
  exact (List.perm_middle (l₁ := q1.map g) (l₂ := q2.map g) (a := g p)).symm
theorem comes_lt {κ α β : Type} {g : κ × α → β} {kl todo q1 q2 : List (κ × α)} {xs : List β} {p : κ × α} (h : (xs ++ todo.map g).Perm (kl.map g)) (hq : todo = q1 ++ p :: q2) : xs.length < kl.length := by
  have := h.length_eq
  rw [hq] at this
  simp at this; omega
theorem qvalsSeq (sb m : Nat) (kl : List (Nat × LeaD)) : SeqC Tryz.prog 119 [.pointer (some ⟨sb, 0, none⟩)] leaV (fun xs => xs.Perm (kl.map (·.2))) kl.length [Res.row sb 109 [.map (some m)], Res.mp ekU leaV m kl] := by
  intro ly J L0 w Y hJ hin
  refine fn_enter (args := [.func (.yield ly) #[] #[], .pointer (some ⟨sb, 0, none⟩)]) Tryz.func119 rfl Tryz.ntmps119 rfl (show Own w (fps ([Res.row sb 109 [.map (some m)], Res.mp ekU leaV m kl] ++ L0)) (Res.row sb 109 [.map (some m)] :: Res.mp ekU leaV m kl :: L0) w from hin) ?_
  refine c_reg (a_ldo 0 (v := .map (some m)) rfl rfl rfl rfl (l_rangeA 1 mapL rfl rfl rfl (fun r6 => l_end (c_block ?_))))
  refine c_loop3 (fun (todo : List (Nat × LeaD)) (xs : List LeaD) (Lr : List Res) => [(0, .func (.yield ly) #[] #[]), (6, .pointer (some ⟨r6, 0, none⟩))]) (fun (todo : List (Nat × LeaD)) (xs : List LeaD) (Lr : List Res) => (xs ++ todo.map (·.2)).Perm (kl.map (·.2)) ∧ J xs Lr) (fun (todo : List (Nat × LeaD)) (xs : List LeaD) (Lr : List Res) => (Res.row sb 109 [.map (some m)] :: Res.rg ekU leaV m r6 kl todo :: Lr)) (fun (todo : List (Nat × LeaD)) (xs : List LeaD) (Lr : List Res) => todo.length) (fun w' hw => ⟨kl, [], L0, ⟨rfl, rfl, trivial⟩, ⟨.refl _, hJ⟩, hw⟩) (fun todo xs Lr g hΦ => ?_)
  have hxp := hΦ.1
  have hJx := hΦ.2
  refine c_reg (l_nextA 1 rfl rfl rfl (fun hq0 => ?_) (fun q1 k v q2 hq1 => ?_))
  ·
   refine l_ext (vs := [.bool false]) rfl rfl rfl (l_end (c_seq (c_no rfl ?_)))
   exact c_exit rfl (ret0 rfl (fun w' hw => ⟨xs, Lr, (by rw [hq0] at hxp; simpa using hxp), hJx, (Own.rgEnd 1 hw rfl)⟩))
  ·
   refine l_ext (vs := [.bool true, Vn k, .agg (LeaD.cells v).toArray]) rfl rfl rfl (l_end (c_seq (c_yes rfl (c_skipC (c_block (c_reg (l_entryA 1 rfl rfl rfl (l_ext (vs := [Vn k, .agg (LeaD.cells v).toArray]) rfl rfl rfl (l_new (v := .agg #[Vn 0, Vn 0, .string (⟨#[]⟩ : ByteArray), Vi 0, Vi 0]) (by kernel_rfl) rfl (fun b4 => ?_))))))))))
   refine l_own (Res.row sb 109 [.map (some m)] :: Res.rg ekU leaV m r6 kl (q1 ++ q2) :: Res.row b4 76 [Vn 0, Vn 0, .string (⟨#[]⟩ : ByteArray), Vi 0, Vi 0] :: Lr) (fun w' hw => Own.inTail [_, _] hw) ?_
   refine a_stN 2 rfl rfl rfl (allc rfl) rfl (l_end (c_regIs ?_))
   refine i_val rfl (v_mv) ?_
   refine i_val rfl (w_ldr (cs := (LeaD.cells v)) 2 rfl rfl) ?_
   refine i_yield [Res.row sb 109 [.map (some m)], Res.rg ekU leaV m r6 kl (q1 ++ q2), Res.row b4 76 (LeaD.cells v)] v Y rfl rfl hJx (comes_lt hxp hq1) rfl (fun Ly1_ hJLy1_ => ?_)
   refine i_val rfl (v_not (b := true) rfl) ?_
   refine i_end ?_
   refine c_no rfl ?_
   exact c_skip (fun w' hw => ⟨q1 ++ q2, xs ++ [v], Ly1_, ⟨rfl, rfl, trivial⟩, ⟨comes_step hxp hq1, hJLy1_⟩, (Own.dropAt [_, _] hw), (by rw [hq1, List.length_append, List.length_append, List.length_cons]; omega)⟩)
theorem qvals_s {S : List Nat} (m : Nat) (kl : List (Nat × LeaD)) (w : World) (hin : Own w S [Res.mp ekU leaV m kl] w) : Rets Tryz.prog 86 #[.map (some m)] w fun u_ w' => ∃ (b : Nat), u_ = .func (.func 119) #[] #[.pointer (some ⟨b, 0, none⟩)] ∧ Own w S [Res.mp ekU leaV m kl, Res.row b 109 [.map (some m)]] w' := by
  refine fn_own Tryz.func86 rfl Tryz.ntmps86 hin ?_
  refine c_reg (l_box rfl rfl (fun b1 => l_as rfl (l_end (c_reg (l_fn (va := []) (vb := [.pointer (some ⟨b1, 0, none⟩)]) rfl rfl rfl (l_as rfl (l_end ?_)))))))
  exact c_ret (ret1 (v := .func (.func 119) #[] #[.pointer (some ⟨b1, 0, none⟩)]) rfl rfl (fun w' hw => ⟨b1, rfl, hw⟩))
theorem appSeq_l {Sx : List LeaD → Prop} {N : Nat} {Ls : List Res} (sg : FuncId) (lb : List Value) (hcall : callable Tryz.prog sg = true) (hseq : SeqC Tryz.prog sg lb (fun x => .agg (LeaD.cells x).toArray) Sx N Ls) (hN : N ≤ 1000000000) (w : World) (hin : Own w (fps Ls) Ls w) : Rets Tryz.prog 136 #[.slice none 0 0, .func (.func sg) #[] lb.toArray] w fun u_ w' => ∃ (v : Value) (xs : List LeaD), u_ = v ∧ Sx xs ∧ Own w (fps Ls) (Ls ++ [Res.vec 76 5 v xs.length (xs.flatMap LeaD.cells)]) w' := by
  refine fn_enterR (args := [.slice none 0 0, .func (.func sg) #[] lb.toArray]) Tryz.func136 rfl Tryz.ntmps136 rfl rfl rfl (show Own w (fps Ls) Ls w from hin) ?_
  refine l_box rfl rfl (fun b => ?_)
  refine l_as rfl ?_
  refine l_nil (fun w1 hw => ?_)
  refine (?_ : CL _ _ _ _ _ _ (Own w (fps Ls) (Ls ++ [Res.row b 30 [.slice none 0 0]]))) w1 hw
  refine l_mv rfl ?_
  refine l_nil (fun w2 hw => ?_)
  have hw2 := own_nil hw 76 5
  rw [List.append_assoc] at hw2
  refine rf_rule2 (enc := (fun x => .agg (LeaD.cells x).toArray)) (p := 7) (Ju := fun pre L => ∃ v, L = [Res.row b 30 [v], Res.vec 76 5 v pre.length (pre.flatMap LeaD.cells)]) (Mid := fun pre x f' L => ∃ (v : Value) (b5 : Nat), f' = upd (upd (upd (upd (upd (ini [.slice none 0 0, .func (.func sg) #[] lb.toArray]) 2 (.pointer (some ⟨b, 0, none⟩))) 4 (.slice none 0 0)) 6 (.func (.func sg) #[] lb.toArray)) 7 ((fun x => .agg (LeaD.cells x).toArray) x)) 5 (.pointer (some ⟨b5, 0, none⟩)) ∧ L = [Res.row b 30 [v], Res.vec 76 5 v pre.length (pre.flatMap LeaD.cells), Res.row b5 76 (LeaD.cells x)]) rfl hcall hseq ⟨.slice none 0 0, rfl⟩ hw2 rfl rfl rfl ?_ ?_ ?_
  · rintro pre x L w ⟨v, rfl⟩ hlen
    refine l_new (v := .agg #[Vn 0, Vn 0, .string (⟨#[]⟩ : ByteArray), Vi 0, Vi 0]) (by kernel_rfl) rfl (fun b5 => ?_)
    refine a_stN 2 rfl rfl rfl (allc rfl) rfl ?_
    exact l_nil (fun w' hw => ⟨_, ⟨_, _, rfl, rfl⟩, hw⟩)
  · rintro pre x f' L w ⟨v, b5, rfl, rfl⟩ hlen
    refine a_ldo 0 (v := v) rfl rfl rfl rfl ?_
    refine a_ldr (cs := (LeaD.cells x)) 2 rfl rfl rfl ?_
    refine l_bsl (e := 76) (sz := 5) (vs := [.agg (LeaD.cells x).toArray]) (by kernel_rfl) rfl rfl (by simp [Value.cells, LeaD.cells]) (by decide) rfl (fun b10 => ?_)
    refine l_appF (g := LeaD.cells) (sz := 5) (by' := 48) (fun _ => rfl) (l := pre) (l' := [x]) (by simp [cell1, LeaD.cells, vu]) 1 (by kernel_rfl) rfl rfl rfl (fun w' hw' => Vec.sl (Own.holds hw' 3 _ rfl)) (by first | omega | (simp; omega)) (by decide) rfl (fun v11 => ?_)
    refine l_haveO (fun w' hw => Own.cell1Vec (i := 1) rfl hw) (fun hc1_ => ?_)
    refine a_st (cs := [v]) 0 rfl rfl rfl hc1_ rfl ?_
    exact l_nil (fun w' hw => ⟨_, ⟨_, rfl⟩, hw.sel [0, 1] rfl (by decide)⟩)
  · rintro xs L' D w' hS ⟨v, rfl⟩ hO a ha
    have hO2 := hO.perm (List.Perm.cons _ (List.perm_append_comm))
    refine rf_end (v := v) rfl ?_ hO2 (fun w'' hO3 => ⟨v, xs, rfl, hS, ?_⟩) a ha
    · exact i_val rfl (v_ldo 1 (v := v) rfl rfl rfl (by kernel_rfl)) (i_val rfl v_as (i_nil (fun w' hw => ⟨rfl, hw⟩)))
    · exact (Own.tail hO3).perm (List.perm_append_comm (l₁ := [_]))
theorem collect_vl {S : List Nat} (b m : Nat) (kl : List (Nat × LeaD)) (w : World) (hl : kl.length ≤ 1000000000) (hin : Own w S [Res.row b 109 [.map (some m)], Res.mp ekU leaV m kl] w) : Rets Tryz.prog 117 #[.func (.func 119) #[] #[.pointer (some ⟨b, 0, none⟩)]] w fun u_ w' => ∃ (v' : Value) (l' : List LeaD), u_ = v' ∧ l'.Perm (kl.map (·.2)) ∧ Own w S [Res.row b 109 [.map (some m)], Res.mp ekU leaV m kl, Res.vec 76 5 v' l'.length (l'.flatMap LeaD.cells)] w' := by
  refine fn_own Tryz.func117 rfl Tryz.ntmps117 hin ?_
  refine c_reg (l_as rfl (l_end (c_reg (l_mv rfl (a_call rfl rfl (fun w' hw => (appSeq_l 119 [.pointer (some ⟨b, 0, none⟩)] (by kernel_rfl) (qvalsSeq b m kl) (by omega) w' (hw.give [0, 1] rfl (by decide))).mono ?_))))))
  rintro v1_ w1 ⟨_, xs2_, rfl, hf1_1, hO⟩
  refine (?_ : CL _ _ _ _ _ _ (Own w S [Res.row b 109 [.map (some m)], Res.mp ekU leaV m kl, Res.vec 76 5 v1_ xs2_.length (xs2_.flatMap LeaD.cells)])) w1 (hw.frameL [0, 1] rfl hO)
  refine l_as rfl (l_end ?_)
  exact c_ret (ret1 (v := v1_) rfl rfl (fun w' hw => ⟨v1_, xs2_, rfl, hf1_1, hw⟩))
theorem sortedf_vl {S : List Nat} (b m : Nat) (kl : List (Nat × LeaD)) (w : World) (hl : kl.length ≤ 1000000000) (hin : Own w S [Res.row b 109 [.map (some m)], Res.mp ekU leaV m kl] w) : Rets Tryz.prog 85 #[.func (.func 119) #[] #[.pointer (some ⟨b, 0, none⟩)], .func (.func 87) #[] #[]] w fun u_ w' => ∃ (v' : Value) (l' : List LeaD), u_ = v' ∧ l'.Perm (kl.map (·.2)) ∧ l'.Pairwise (fun x y => ole x y) ∧ Own w S [Res.row b 109 [.map (some m)], Res.mp ekU leaV m kl, Res.vec 76 5 v' l'.length (l'.flatMap LeaD.cells)] w' := by
  refine fn_own Tryz.func85 rfl Tryz.ntmps85 hin ?_
  refine c_reg (l_as rfl (l_end (c_reg (l_mv rfl (a_call rfl rfl (fun w' hw => (collect_vl b m kl w' (by first | omega | (simp <;> omega)) (hw.give [0, 1] rfl (by decide))).mono ?_))))))
  rintro v'1_ w1 ⟨_, l'2_, rfl, hf1_1, hO⟩
  have hl1 : l'2_.length ≤ 1000000000 := by rw [hf1_1.length_eq, List.length_map]; exact hl
  refine (?_ : CL _ _ _ _ _ _ (Own w S [Res.row b 109 [.map (some m)], Res.mp ekU leaV m kl, Res.vec 76 5 v'1_ l'2_.length (l'2_.flatMap LeaD.cells)])) w1 (hw.frameL [0, 1] rfl hO)
  refine l_as rfl (l_end (c_reg (l_mv rfl (l_mv rfl (a_call rfl rfl (fun w' hw => (sort_f v'1_ l'2_ w' (by first | assumption | omega | (simp <;> omega) | (constructor <;> (first | omega | (simp only [LenOk]; omega) | (simp <;> omega)))) (hw.give [2] rfl (by decide))).mono ?_))))))
  rintro _ w1 ⟨l'3_, rfl, hf2_2, hf2_2_1, hO⟩
  refine (?_ : CL _ _ _ _ _ _ (Own w S [Res.row b 109 [.map (some m)], Res.mp ekU leaV m kl, Res.vec 76 5 v'1_ l'3_.length (l'3_.flatMap LeaD.cells)])) w1 (hw.frameL [2] rfl hO)
  refine l_end (c_reg (l_mv rfl (l_as rfl (l_end ?_))))
  exact c_ret (ret1 (v := v'1_) rfl rfl (fun w' hw => ⟨v'1_, l'3_, rfl, hf2_2.trans hf1_1, hf2_2_1, hw⟩))
end Go.Proofs.YthincafbmpialaaGreat
