import Derived.Shelf.SlGeneric
import Derived.Shelf.SlSortCmp.WholeK
import Derived.Ground.SlsfProg
import Derived.Test.YthincafbmpialaaGreatProg
import Derived.Test.YthincafbmpialaaGreatShS
import Derived.Lib.Walk
import Derived.Test.YthincafbmpialaaGreatFwG
import Derived.Test.YthincafbmpialaaGreatFwR
import Derived.Laws.Externs
/-
  THE LAYING of one of the library's sorts at this seat's dump (numbers of the seat): printed by the kit's tool lay-plain.
-/
namespace Go.Proofs
open Go.Shelf
def Tryz.sortF_ren : Go.Shelf.Ren := ⟨fun | 6 => 118 | 15 => 128 | 14 => 137 | 28 => 150 | 29 => 80 | 20 => 165 | 21 => 166 | 22 => 167 | 23 => 168 | 24 => 169 | 25 => 170 | 26 => 171 | 27 => 172 | 46 => 191 | 47 => 183 | 48 => 184 | 49 => 192 | 50 => 193 | 57 => 199 | n => n, fun | 22 => 30 | 24 => 76 | 25 => 153 | 3 => 3 | 39 => 183 | 0 => 0 | 53 => 219 | 55 => 28 | 4 => 4 | 46 => 211 | 45 => 210 | 50 => 216 | 5 => 5 | 9 => 9 | 66 => 237 | 70 => 240 | 76 => 249 | 77 => 250 | n => n, fun | n => n⟩
theorem Tryz.sortF : Go.Proofs.SlLaysF0.n6 Tryz.prog Tryz.sortF_ren := {
  mixed := by kernel_rfl
  f6 := ⟨Tryz.f118.name, by decide, Tryz.func118.trans (congrArg some (by kernel_rfl))⟩
  f14 := ⟨Tryz.f137.name, by decide, Tryz.func137.trans (congrArg some (by kernel_rfl))⟩
  f15 := Tryz.func128.trans (congrArg some (by kernel_rfl))
  f20 := ⟨Tryz.f165.name, by decide, Tryz.func165.trans (congrArg some (by kernel_rfl))⟩
  f21 := ⟨Tryz.f166.name, by decide, Tryz.func166.trans (congrArg some (by kernel_rfl))⟩
  f22 := ⟨Tryz.f167.name, by decide, Tryz.func167.trans (congrArg some (by kernel_rfl))⟩
  f23 := ⟨Tryz.f168.name, by decide, Tryz.func168.trans (congrArg some (by kernel_rfl))⟩
  f24 := ⟨Tryz.f169.name, by decide, Tryz.func169.trans (congrArg some (by kernel_rfl))⟩
  f25 := ⟨Tryz.f170.name, by decide, Tryz.func170.trans (congrArg some (by kernel_rfl))⟩
  f26 := ⟨Tryz.f171.name, by decide, Tryz.func171.trans (congrArg some (by kernel_rfl))⟩
  f27 := ⟨Tryz.f172.name, by decide, Tryz.func172.trans (congrArg some (by kernel_rfl))⟩
  f28 := Tryz.func150.trans (congrArg some (by kernel_rfl))
  f29 := Tryz.func80.trans (congrArg some (by kernel_rfl))
  f46 := ⟨Tryz.f191.name, by decide, Tryz.func191.trans (congrArg some (by kernel_rfl))⟩
  f47 := Tryz.func183.trans (congrArg some (by kernel_rfl))
  f48 := Tryz.func184.trans (congrArg some (by kernel_rfl))
  f49 := ⟨Tryz.f192.name, by decide, Tryz.func192.trans (congrArg some (by kernel_rfl))⟩
  f50 := ⟨Tryz.f193.name, by decide, Tryz.func193.trans (congrArg some (by kernel_rfl))⟩
  f57 := ⟨Tryz.f199.name, by decide, Tryz.func199.trans (congrArg some (by kernel_rfl))⟩
  t0 := Tryz.underlying0
  a0 := Tryz.isAgg0
  z0 := Tryz.sizeOf0
  v0 := Tryz.zeroValue0
  t3 := Tryz.underlying3
  a3 := Tryz.isAgg3
  z3 := Tryz.sizeOf3
  v3 := Tryz.zeroValue3
  t4 := Tryz.underlying4
  a4 := Tryz.isAgg4
  z4 := Tryz.sizeOf4
  v4 := Tryz.zeroValue4
  t5 := Tryz.underlying5
  a5 := Tryz.isAgg5
  z5 := Tryz.sizeOf5
  v5 := Tryz.zeroValue5
  t9 := Tryz.underlying9
  a9 := Tryz.isAgg9
  z9 := Tryz.sizeOf9
  v9 := Tryz.zeroValue9
  t22 := Tryz.underlying30
  a22 := Tryz.isAgg30
  z22 := Tryz.sizeOf30
  v22 := Tryz.zeroValue30
  t25 := Tryz.underlying153
  a25 := Tryz.isAgg153
  z25 := Tryz.sizeOf153
  v25 := Tryz.zeroValue153
  t39 := Tryz.underlying183
  a39 := Tryz.isAgg183
  z39 := Tryz.sizeOf183
  v39 := Tryz.zeroValue183
  t45 := Tryz.underlying210
  a45 := Tryz.isAgg210
  z45 := Tryz.sizeOf210
  v45 := Tryz.zeroValue210
  t46 := Tryz.underlying211
  a46 := Tryz.isAgg211
  z46 := Tryz.sizeOf211
  v46 := Tryz.zeroValue211
  t50 := Tryz.underlying216
  a50 := Tryz.isAgg216
  z50 := Tryz.sizeOf216
  v50 := Tryz.zeroValue216
  t53 := Tryz.underlying219
  a53 := Tryz.isAgg219
  z53 := Tryz.sizeOf219
  v53 := Tryz.zeroValue219
  t55 := Tryz.underlying28
  a55 := Tryz.isAgg28
  z55 := Tryz.sizeOf28
  v55 := Tryz.zeroValue28
  t66 := Tryz.underlying237
  a66 := Tryz.isAgg237
  z66 := Tryz.sizeOf237
  v66 := Tryz.zeroValue237
  t70 := Tryz.underlying240
  a70 := Tryz.isAgg240
  z70 := Tryz.sizeOf240
  v70 := Tryz.zeroValue240
  t76 := Tryz.underlying249
  a76 := Tryz.isAgg249
  z76 := Tryz.sizeOf249
  v76 := Tryz.zeroValue249
  t77 := Tryz.underlying250
  a77 := Tryz.isAgg250
  z77 := Tryz.sizeOf250
  v77 := Tryz.zeroValue250 }
end Go.Proofs

/-
  THE TWO SORTS of a table's readers, by the kit's laws: strings, and leases by their numbers.
-/
set_option linter.unusedVariables false
set_option maxRecDepth 10000
namespace Go.Proofs.YthincafbmpialaaGreat
open Go Go.Sc Go.Proofs Go.Shelf Go.Lib Go.Sort

/-- Whole numbers held against each other: the world is as it was. -/
theorem nanX (x : Nat) (w : World) : Calls Tryz.prog 120 #[.int .u64 (x : Nat)] w fun e w' => e = .returned (.bool false) ∧ w' = w := by
  go_enter Tryz.func120, Tryz.ntmps120
  go_wp2
  go_ret
  exact ⟨by simp, rfl⟩
theorem cmpX (x y : Nat) (w : World) : Calls Tryz.prog 88 #[.int .u64 (x : Nat), .int .u64 (y : Nat)] w fun e w' => e = .returned (.int .i64 (cmpN x y)) ∧ w' = w := by
  go_enter Tryz.func88, Tryz.ntmps88
  go_wp2_with (go_at_call 120; refine (nanX _ _).mono ?_; rintro e w' ⟨rfl, hw⟩; rw [hw])
  all_goals (go_ret; refine ⟨?_, rfl⟩; unfold cmpN; (repeat' split) <;> first | rfl | (exfalso; omega))
theorem leaX (x y : LeaD) (w : World) : Calls Tryz.prog 87 #[.agg (LeaD.cells x).toArray, .agg (LeaD.cells y).toArray] w fun e w' => e = .returned (.int .i64 (cmpL x y)) ∧ ∃ q os', w' = grow (w.drewN q) os' := by
  have hcon := fun W' => cmpX x.id y.id W'
  show Calls _ _ _ _ fun e w' => e = .returned (.int .i64 (cmpN x.id y.id)) ∧ _
  generalize cmpN x.id y.id = r at hcon ⊢
  simp only [LeaD.cells, List.toArray]
  go_enter Tryz.func87, Tryz.ntmps87
  go_wp2_with (go_at_call 88; refine (hcon _).mono ?_; rintro e w' ⟨rfl, rfl⟩)
  go_ret
  exact ⟨rfl, 0, _, by rw [alloc_eq_grow, alloc_eq_grow, grow_grow]; rfl⟩
theorem sort_f (v : Value) (l : List LeaD) (w : World) (hl : LenOk l.length) (hin : Own w (fps [Res.vec 76 5 v l.length (l.flatMap LeaD.cells)]) [Res.vec 76 5 v l.length (l.flatMap LeaD.cells)] w) : Rets Tryz.prog 118 #[v, .func (.func 87) #[] #[]] w fun u_ w' => ∃ (l' : List LeaD), u_ = .tuple #[] ∧ l'.Perm l ∧ l'.Pairwise (fun x y => ole x y) ∧ Own w (fps [Res.vec 76 5 v l.length (l.flatMap LeaD.cells)]) [Res.vec 76 5 v l'.length (l'.flatMap LeaD.cells)] w' := by
  exact sortF_own Tryz.sortF rfl LeaD.cells 5 Tryz.isAgg76 Tryz.sizeOf76 (fun _ => rfl) (fun x v hv => by simp [LeaD.cells] at hv; rcases hv with rfl | rfl | rfl | rfl | rfl <;> rfl) cmpL (fun _ _ => Iff.rfl) 87 (enters_of Tryz.func87 (by kernel_rfl) rfl) leaX v l w hl hin
end Go.Proofs.YthincafbmpialaaGreat

/-
  RANGES OVER FUNCTIONS whose elements are kept in blocks of their own.
-/
set_option linter.unusedVariables false
set_option linter.unusedSectionVars false
namespace Go.Sc

section
variable {P : Program} {n : Nat} {fn : Func} {g : FuncId}
theorem Own.dropAt {w0 w : World} {S : List Nat} (Lp : List Res) {r : Res} {L : List Res} (h : Own w0 S (Lp ++ r :: L) w) : Own w0 S (Lp ++ L) w := (h.perm List.perm_middle).tail
theorem Own.inTail {w0 w : World} {S : List Nat} (Lp : List Res) {r : Res} {L : List Res} (h : Own w0 S (Lp ++ L ++ [r]) w) : Own w0 S (Lp ++ r :: L) w := h.perm (by rw [List.append_assoc]; exact List.Perm.append_left _ (List.perm_append_comm (l₁ := L) (l₂ := [r])))
theorem rf_rule2 {α : Type} {enc : α → Value} {Sx : List α → Prop} {N s p i2 b0 b1 i3 : Nat} {sg : FuncId} {lb : List Value} {Ls Lu : List Res} {Ju : List α → List Res → Prop} {l2 l3 : List Oper} {f : Nat → Value} {w0 w : World} {S : List Nat} {c2 : Code} {R : Value → World → Prop}
    (hs : f s = .func (.func sg) #[] lb.toArray) (hcall : callable P sg = true) (hseq : SeqC P sg lb enc Sx N Ls) (h0 : Ju [] Lu) (hw : Own w0 S (Ls ++ Lu) w) (hp : Nat.blt p n = true) (hd2 : noDefer l2 = true) (hd3 : noDefer l3 = true)
    {Mid : List α → α → (Nat → Value) → List Res → Prop}
    (hround2 : ∀ pre x L w, Ju pre L → pre.length < N → CL P n l2.toArray l2 (fun f' w' => ∃ L2, Mid pre x f' L2 ∧ Own w (fps L) L2 w') (upd f p (enc x)) (Own w (fps L) L))
    (hround3 : ∀ pre x f' L w, Mid pre x f' L → pre.length < N → CL P n l3.toArray l3 (fun _ w' => ∃ L', Ju (pre ++ [x]) L' ∧ Own w (fps L) L' w') f' (Own w (fps L) L))
    (hdone : ∀ xs L' D w', Sx xs → Ju xs L' → Own w0 S (Res.obj D (.deferred (some [])) :: (Ls ++ L')) w' → ∀ a, RepD n [{ target := .collected D, args := #[] }] f a → c2.wpIn Fence.wide 0 P (bodyPostM Fence.wide 0 P fn fun e w' => ∃ v, e = .returned v ∧ R v w') a w') :
    RF P fn n (.block b0 (.rangeFunc (.tmp s) #[p] (.region i2 l2.toArray false) (.block b1 (.region i3 l3.toArray false)))) c2 R f w := by
  intro a ha
  refine wpIn_block ?_
  refine wpIn_rangeFunc ?_
  intro fid _
  obtain ⟨rc, hrc⟩ : ∃ rc : LoopState → Option Code → Loop, rc = fun st pe => { state := st, pending := pe, fn := fid, tmps := a.tmps, params := #[p], assign := .region i2 l2.toArray false, body := .block b1 (.region i3 l3.toArray false), defers := w.heap.size } := ⟨_, rfl⟩
  have hO1 : Own w0 S (Res.obj w.heap.size (.deferred (some [])) :: (Ls ++ Res.obj (w.heap.size + 1) (.loop (rc .ready none)) :: Lu)) ((w.alloc (.deferred (some []))).alloc (.loop (rc .ready none))) := by
    have h1 := (hw.newObj (.deferred (some []))).newObj (.loop (rc .ready none))
    rw [World.size_alloc] at h1
    refine h1.perm ?_
    rw [List.append_assoc]
    exact List.perm_append_comm.trans (List.Perm.cons _ (show (Res.obj (w.heap.size + 1) (.loop (rc .ready none)) :: (Ls ++ Lu)).Perm _ from List.perm_middle.symm))
  refine ⟨w.heap.size + 1, [{ target := .collected w.heap.size, args := #[] }], (w.alloc (.deferred (some []))).alloc (.loop (rc .ready none)), { target := .fn (.func sg) lb.toArray, args := #[.func (.yield (w.heap.size + 1)) #[] #[]] }, (w.alloc (.deferred (some []))).alloc (.loop (rc .ready none)), sg, #[.func (.yield (w.heap.size + 1)) #[] #[]] ++ lb.toArray, (w.alloc (.deferred (some []))).alloc (.loop (rc .ready none)),
    by rw [hrc]; exact run_enterLoop_outer _ _ _ _ _, ?_, fun _ _ => trivial, ?_, fun q => by simp [Fence.wide] at q, ?_⟩
  · simp [resolve, ha.eval, ev, hs, Deferred.ofValue]
  · have := callable_spec hcall ((w.alloc (.deferred (some []))).alloc (.loop (rc .ready none))) (#[.func (.yield (w.heap.size + 1)) #[] #[]] ++ lb.toArray)
    simp only [invoke]
    exact this
  · rw [show (#[Value.func (.yield (w.heap.size + 1)) #[] #[]] ++ lb.toArray) = (.func (.yield (w.heap.size + 1)) #[] #[] :: lb).toArray by simp]
    have hO1' : Own w0 S ([Res.obj w.heap.size (.deferred (some []))] ++ (Ls ++ Res.obj (w.heap.size + 1) (.loop (rc .ready none)) :: Lu)) ((w.alloc (.deferred (some []))).alloc (.loop (rc .ready none))) := hO1
    refine callsIn_wide.2 (Calls.mono (hseq (w.heap.size + 1) (fun pre L => ∃ L1, L = Res.obj (w.heap.size + 1) (.loop (rc .ready none)) :: L1 ∧ Ju pre L1) _ _ ?_ ⟨Lu, rfl, h0⟩ hO1'.giveEnd) ?_)
    · -- a round
      rintro pre x L w1 ⟨L1, rfl, hJ⟩ hlen hO
      have hl : w1.heap[w.heap.size + 1]? = some (.loop (rc .ready none)) := hO.holds 0 _ rfl
      have hy : (Instr.yield (w.heap.size + 1) #[enc x]).run P w1 = .ok (.round (w.heap.size + 1) fid (a.tmps.setIfInBounds p (enc x)) (.region i2 l2.toArray false) (.block b1 (.region i3 l3.toArray false))) w1 := by
        have h := run_yield (P := P) (args := #[enc x]) hl (by rw [hrc]; rfl)
        rw [h, hrc]
        simp
      refine ⟨_, _, _, _, hy, ?_⟩
      have hrep : Rep n (upd f p (enc x)) { tmps := a.tmps.setIfInBounds p (enc x), defers := [] } := by
        have h1 := ha.put (by simpa [Nat.blt_eq] using hp) (enc x)
        have h2 := ha.defers
        cases a
        simp only at h2; subst h2
        exact h1
      have hO' : Own w1 (fps (Res.obj (w.heap.size + 1) (.loop (rc .ready none)) :: L1)) ([Res.obj (w.heap.size + 1) (.loop (rc .ready none))] ++ L1) w1 := hO
      refine roundIn_of_wpIn trivial (wpIn_mono (regionIn_of (ro := some (w.heap.size + 1)) (m := 0) hd2 (hround2 pre x L1 w1 hJ hlen _ hO'.giveEnd) _ hrep) ?_)
      intro e a2 w2 hq
      cases e <;> first | exact hq.elim | skip
      obtain ⟨f', hr', L2, hM, hOm⟩ := hq
      have hO1 := hO'.frameEnd hOm
      have hl : w2.heap[w.heap.size + 1]? = some (.loop (rc .ready none)) := hO1.holds 0 _ rfl
      have hO2 := hO1.putObj (i := 0) (.loop { rc .ready none with state := .busy }) rfl
      have hO2' : Own w1 (fps (Res.obj (w.heap.size + 1) (.loop (rc .ready none)) :: L1)) ([Res.obj (w.heap.size + 1) (.loop { rc .ready none with state := .busy })] ++ L2) (w2.putObj (w.heap.size + 1) (.loop { rc .ready none with state := .busy })) := hO2
      refine ⟨_, run_beginRound hl (by rw [hrc]), ?_⟩
      refine wpIn_block (wpIn_mono (regionIn_of (ro := some (w.heap.size + 1)) (m := 0) hd3 (hround3 pre x f' L2 _ hM hlen _ hO2'.giveEnd) a2 hr') ?_)
      intro e a3 w3 hq
      cases e <;> first | exact hq.elim | skip
      obtain ⟨f3, hr3, L', hJ', hO3⟩ := hq
      have hO4 := hO2'.frameEnd hO3
      have hl3 : w3.heap[w.heap.size + 1]? = some (.loop { rc .ready none with state := .busy }) := hO4.holds 0 _ rfl
      have he := run_endRound (P := P) none hl3
      refine ⟨_, _, he, rfl, Res.obj (w.heap.size + 1) (.loop (rc .ready none)) :: L', ⟨L', rfl, hJ'⟩, ?_⟩
      have hO5 := hO4.putObj (i := 0) (.loop (rc .ready none)) rfl
      have e1 : (.loop { { rc .ready none with state := .busy } with state := if (none : Option Code).isNone then .ready else .done, pending := none } : Obj) = .loop (rc .ready none) := by rw [hrc]; rfl
      rw [e1]
      exact hO5
    · rintro _ w2 ⟨v, rfl, xs, L', hS, ⟨L1, rfl, hJ⟩, hO⟩
      have hO2 := (show Own w0 S _ _ from hO1'.frameEnd hO).perm (show ([Res.obj w.heap.size (.deferred (some []))] ++ (Ls ++ Res.obj (w.heap.size + 1) (.loop (rc .ready none)) :: L1)).Perm (Res.obj (w.heap.size + 1) (.loop (rc .ready none)) :: Res.obj w.heap.size (.deferred (some [])) :: (Ls ++ L1)) from
        (List.Perm.cons _ List.perm_middle).trans (.swap _ _ _))
      have hl : w2.heap[w.heap.size + 1]? = some (.loop (rc .ready none)) := hO2.holds 0 _ rfl
      refine ⟨none, w2.putObj (w.heap.size + 1) (.loop (rc .exhausted none)), by rw [run_endLoop (P := P) hl (by rw [hrc]; simp), hrc], ?_⟩
      have hO3 := (hO2.putObj (i := 0) (.loop (rc .exhausted none)) rfl).tail
      show Exit.inBlock b0 _ .normal _ _
      refine hdone xs L1 w.heap.size _ hS hJ hO3 _ ⟨?_, ?_⟩
      · have h2 := ha.defers
        cases a
        simp only at h2; subst h2
        exact ha
      · show _ ++ a.defers = _
        rw [ha.defers]; rfl

end
end Go.Sc

/-
  MAPS COPIED: maps.clone; a map in an interface; a map held against nil.
-/
set_option linter.unusedVariables false
set_option linter.unusedSectionVars false
namespace Go.Sc

def isMapT (P : Program) (t : TypeId) : Bool := match P.underlying t with | some (.map _ _) => true | _ => false
section
variable {κ α : Type} [DecidableEq κ] {P : Program} {kt vt t t' : TypeId} {ke : κ → Value} {ve : α → Value}
variable {n : Nat} {ops : Array Oper} {N : K} {f : Nat → Value} {rest : List Oper} {d : Nat} {ty : TypeId} {p : String} {af : Array Edge} {x y z : Operand} {w0 : World} {S : List Nat} {L : List Res} {A : World → Prop}
end
end Go.Sc
