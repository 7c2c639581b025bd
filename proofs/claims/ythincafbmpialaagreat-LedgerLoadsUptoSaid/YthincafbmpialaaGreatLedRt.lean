import Derived.Test.YthincafbmpialaaGreatQuotaW
import Derived.Test.YthincafbmpialaaGreatFwG
import Derived.Test.YthincafbmpialaaGreatFwR
import Derived.Laws.Externs
import Derived.Test.YthincafbmpialaaGreatLedP
import Derived.Test.YthincafbmpialaaGreatLeC
set_option linter.unusedSectionVars false
set_option linter.unusedSimpArgs false
set_option linter.unusedVariables false
set_option maxRecDepth 10000
namespace Go.Proofs.YthincafbmpialaaGreat
open Go Go.Sc Go.Proofs
def zDj (a b : Nat) : Int := if a < b then -1 else if b < a then 1 else 0
def zG0 (x y : LeaD) : Int := zDj x.id y.id
theorem zD6 {a b : Nat} : zDj a b < 0 ↔ a < b := by
  unfold zDj
  by_cases h : a < b
  · rw [if_pos h]; exact ⟨fun _ => h, fun _ => by decide⟩
  · rw [if_neg h]
    refine ⟨fun q => ?_, fun q => absurd q h⟩
    split at q
    · exact absurd q (by decide)
    · exact absurd q (by decide)
instance : SO LeaD := ⟨fun x y => zG0 x y < 0, fun x y => inferInstanceAs (Decidable (zG0 x y < 0)), fun h k => by rw [show zG0 _ _ = zDj _ _ from rfl, zD6] at h k; omega, fun h k q => by rw [show zG0 _ _ = zDj _ _ from rfl, zD6] at h k q; omega⟩
theorem olt_lea {x y : LeaD} : olt x y ↔ x.id < y.id := zD6
end Go.Proofs.YthincafbmpialaaGreat
set_option linter.unusedVariables false
set_option linter.unusedSectionVars false
namespace Go.Sc
section
variable {P : Program} {n : Nat} {fn : Func} {g : FuncId}
theorem Own.dropAt {w0 w : World} {S : List Nat} (Lp : List Res) {r : Res} {L : List Res} (h : Own w0 S (Lp ++ r :: L) w) : Own w0 S (Lp ++ L) w := (h.perm List.perm_middle).tail
theorem Own.inTail {w0 w : World} {S : List Nat} (Lp : List Res) {r : Res} {L : List Res} (h : Own w0 S (Lp ++ L ++ [r]) w) : Own w0 S (Lp ++ r :: L) w := h.perm (by rw [List.append_assoc]; exact List.Perm.append_left _ (List.perm_append_comm (l₁ := L) (l₂ := [r])))
theorem zIY {α : Type} {enc : α → Value} {Sx : List α → Prop} {N s p i2 b0 b1 i3 : Nat} {sg : FuncId} {lb : List Value} {Ls Lu : List Res} {Ju : List α → List Res → Prop} {l2 l3 : List Oper} {f : Nat → Value} {w0 w : World} {S : List Nat} {c2 : Code} {R : Value → World → Prop}
    (hs : f s = .func (.func sg) #[] lb.toArray) (hcall : x4 P sg = true) (hseq : zFO P sg lb enc Sx N Ls) (h0 : Ju [] Lu) (hw : Own w0 S (Ls ++ Lu) w) (hp : Nat.blt p n = true) (hd2 : ko l2 = true) (hd3 : ko l3 = true)
    {Mid : List α → α → (Nat → Value) → List Res → Prop}
    (hround2 : ∀ pre x L w, Ju pre L → pre.length < N → CL P n l2.toArray l2 (fun f' w' => ∃ L2, Mid pre x f' L2 ∧ Own w (xZ L) L2 w') (upd f p (enc x)) (Own w (xZ L) L))
    (hround3 : ∀ pre x f' L w, Mid pre x f' L → pre.length < N → CL P n l3.toArray l3 (fun _ w' => ∃ L', Ju (pre ++ [x]) L' ∧ Own w (xZ L) L' w') f' (Own w (xZ L) L))
    (hdone : ∀ xs L' D w', Sx xs → Ju xs L' → Own w0 S (Res.obj D (.deferred (some [])) :: (Ls ++ L')) w' → ∀ a, RepD n [{ target := .collected D, args := #[] }] f a → c2.wpIn Fence.wide 0 P (bodyPostM Fence.wide 0 P fn fun e w' => ∃ v, e = .returned v ∧ R v w') a w') :
    RF P fn n (.block b0 (.rangeFunc (.tmp s) #[p] (.region i2 l2.toArray false) (.block b1 (.region i3 l3.toArray false)))) c2 R f w := by
  intro a ha
  refine wpIn_block ?_
  refine wpIn_rangeFunc ?_
  intro fid _
  obtain ⟨rc, hrc⟩ : ∃ rc : LoopState → Option Code → Loop, rc = fun st pe => { state := st, pending := pe, fn := fid, tmps := a.tmps, params := #[p], assign := .region i2 l2.toArray false, body := .block b1 (.region i3 l3.toArray false), defers := w.heap.size } := ⟨_, rfl⟩
  have hO1 : Own w0 S (Res.obj w.heap.size (.deferred (some [])) :: (Ls ++ Res.obj (w.heap.size + 1) (.loop (rc .ready none)) :: Lu)) ((w.alloc (.deferred (some []))).alloc (.loop (rc .ready none))) := by
    have h1 := (hw.newObj (.deferred (some []))).newObj (.loop (rc .ready none))
    rw [World.size_alloc] at h1
    refine h1.perm ?_
    rw [List.append_assoc]
    exact List.perm_append_comm.trans (List.Perm.cons _ (show (Res.obj (w.heap.size + 1) (.loop (rc .ready none)) :: (Ls ++ Lu)).Perm _ from List.perm_middle.symm))
  refine ⟨w.heap.size + 1, [{ target := .collected w.heap.size, args := #[] }], (w.alloc (.deferred (some []))).alloc (.loop (rc .ready none)), { target := .fn (.func sg) lb.toArray, args := #[.func (.yield (w.heap.size + 1)) #[] #[]] }, (w.alloc (.deferred (some []))).alloc (.loop (rc .ready none)), sg, #[.func (.yield (w.heap.size + 1)) #[] #[]] ++ lb.toArray, (w.alloc (.deferred (some []))).alloc (.loop (rc .ready none)),
    by rw [hrc]; exact run_enterLoop_outer _ _ _ _ _, ?_, fun _ _ => trivial, ?_, fun q => by simp [Fence.wide] at q, ?_⟩
  · simp [resolve, ha.eval, ev, hs, Deferred.ofValue]
  · have := kV hcall ((w.alloc (.deferred (some []))).alloc (.loop (rc .ready none))) (#[.func (.yield (w.heap.size + 1)) #[] #[]] ++ lb.toArray)
    simp only [invoke]
    exact this
  · rw [show (#[Value.func (.yield (w.heap.size + 1)) #[] #[]] ++ lb.toArray) = (.func (.yield (w.heap.size + 1)) #[] #[] :: lb).toArray by simp]
    have hO1' : Own w0 S ([Res.obj w.heap.size (.deferred (some []))] ++ (Ls ++ Res.obj (w.heap.size + 1) (.loop (rc .ready none)) :: Lu)) ((w.alloc (.deferred (some []))).alloc (.loop (rc .ready none))) := hO1
    refine callsIn_wide.2 (Calls.mono (hseq (w.heap.size + 1) (fun pre L => ∃ L1, L = Res.obj (w.heap.size + 1) (.loop (rc .ready none)) :: L1 ∧ Ju pre L1) _ _ ?_ ⟨Lu, rfl, h0⟩ hO1'.giveEnd) ?_)
    · -- a round
      rintro pre x L w1 ⟨L1, rfl, hJ⟩ hlen hO
      have hl : w1.heap[w.heap.size + 1]? = some (.loop (rc .ready none)) := hO.holds 0 _ rfl
      have hy : (Instr.yield (w.heap.size + 1) #[enc x]).run P w1 = .ok (.round (w.heap.size + 1) fid (a.tmps.setIfInBounds p (enc x)) (.region i2 l2.toArray false) (.block b1 (.region i3 l3.toArray false))) w1 := by
        have h := run_yield (P := P) (args := #[enc x]) hl (by rw [hrc]; rfl)
        rw [h, hrc]
        simp
      refine ⟨_, _, _, _, hy, ?_⟩
      have hrep : Rep n (upd f p (enc x)) { tmps := a.tmps.setIfInBounds p (enc x), defers := [] } := by
        have h1 := ha.put (by simpa [Nat.blt_eq] using hp) (enc x)
        have h2 := ha.defers
        cases a
        simp only at h2; subst h2
        exact h1
      have hO' : Own w1 (xZ (Res.obj (w.heap.size + 1) (.loop (rc .ready none)) :: L1)) ([Res.obj (w.heap.size + 1) (.loop (rc .ready none))] ++ L1) w1 := hO
      refine roundIn_of_wpIn trivial (wpIn_mono (kF (ro := some (w.heap.size + 1)) (m := 0) hd2 (hround2 pre x L1 w1 hJ hlen _ hO'.giveEnd) _ hrep) ?_)
      intro e a2 w2 hq
      cases e <;> first | exact hq.elim | skip
      obtain ⟨f', hr', L2, hM, hOm⟩ := hq
      have hO1 := hO'.frameEnd hOm
      have hl : w2.heap[w.heap.size + 1]? = some (.loop (rc .ready none)) := hO1.holds 0 _ rfl
      have hO2 := hO1.putObj (i := 0) (.loop { rc .ready none with state := .busy }) rfl
      have hO2' : Own w1 (xZ (Res.obj (w.heap.size + 1) (.loop (rc .ready none)) :: L1)) ([Res.obj (w.heap.size + 1) (.loop { rc .ready none with state := .busy })] ++ L2) (w2.putObj (w.heap.size + 1) (.loop { rc .ready none with state := .busy })) := hO2
      refine ⟨_, run_beginRound hl (by rw [hrc]), ?_⟩
      refine wpIn_block (wpIn_mono (kF (ro := some (w.heap.size + 1)) (m := 0) hd3 (hround3 pre x f' L2 _ hM hlen _ hO2'.giveEnd) a2 hr') ?_)
      intro e a3 w3 hq
      cases e <;> first | exact hq.elim | skip
      obtain ⟨f3, hr3, L', hJ', hO3⟩ := hq
      have hO4 := hO2'.frameEnd hO3
      have hl3 : w3.heap[w.heap.size + 1]? = some (.loop { rc .ready none with state := .busy }) := hO4.holds 0 _ rfl
      have he := run_endRound (P := P) none hl3
      refine ⟨_, _, he, rfl, Res.obj (w.heap.size + 1) (.loop (rc .ready none)) :: L', ⟨L', rfl, hJ'⟩, ?_⟩
      have hO5 := hO4.putObj (i := 0) (.loop (rc .ready none)) rfl
      have e1 : (.loop { { rc .ready none with state := .busy } with state := if (none : Option Code).isNone then .ready else .done, pending := none } : Obj) = .loop (rc .ready none) := by rw [hrc]; rfl
      rw [e1]
      exact hO5
    · rintro _ w2 ⟨v, rfl, xs, L', hS, ⟨L1, rfl, hJ⟩, hO⟩
      have hO2 := (show Own w0 S _ _ from hO1'.frameEnd hO).perm (show ([Res.obj w.heap.size (.deferred (some []))] ++ (Ls ++ Res.obj (w.heap.size + 1) (.loop (rc .ready none)) :: L1)).Perm (Res.obj (w.heap.size + 1) (.loop (rc .ready none)) :: Res.obj w.heap.size (.deferred (some [])) :: (Ls ++ L1)) from
        (List.Perm.cons _ List.perm_middle).trans (.swap _ _ _))
      have hl : w2.heap[w.heap.size + 1]? = some (.loop (rc .ready none)) := hO2.holds 0 _ rfl
      refine ⟨none, w2.putObj (w.heap.size + 1) (.loop (rc .exhausted none)), by rw [run_endLoop (P := P) hl (by rw [hrc]; simp), hrc], ?_⟩
      have hO3 := (hO2.putObj (i := 0) (.loop (rc .exhausted none)) rfl).tail
      show Exit.inBlock b0 _ .normal _ _
      refine hdone xs L1 w.heap.size _ hS hJ hO3 _ ⟨?_, ?_⟩
      · have h2 := ha.defers
        cases a
        simp only at h2; subst h2
        exact ha
      · show _ ++ a.defers = _
        rw [ha.defers]; rfl
end
def isMapT (P : Program) (t : TypeId) : Bool := match P.underlying t with | some (.map _ _) => true | _ => false
section
variable {κ α : Type} [DecidableEq κ] {P : Program} {kt vt t t' : TypeId} {ke : κ → Value} {ve : α → Value}
variable {n : Nat} {ops : Array Oper} {N : K} {f : Nat → Value} {rest : List Oper} {d : Nat} {ty : TypeId} {p : String} {af : Array Edge} {x y z : Operand} {w0 : World} {S : List Nat} {L : List Res} {A : World → Prop}
end
end Go.Sc
set_option linter.unusedVariables false
set_option maxRecDepth 10000
namespace Go.Proofs.YthincafbmpialaaGreat
open Go Go.Sc Go.Proofs
structure LSt (idx : Nat) (now : Int) (cnt : Nat) (kb : List (ByteArray × Int)) (kl : List (Nat × LeaD)) (kr : List (Nat × RepD)) (idx2 : Nat) (now2 : Int) (cnt2 : Nat) (bs : List BudD) (ls : List LeaD) (rs : List RepD) : Prop where
  i : idx = idx2
  n : now = now2
  c : cnt = cnt2
  h : LOkR now2 cnt2 bs ls rs
  r : LRel kb kl kr bs ls rs
theorem zNP {now : Int} {cnt : Nat} {bs : List BudD} {ls : List LeaD} {kb : List (ByteArray × Int)} {kl : List (Nat × LeaD)} (ho : QOk now cnt bs ls) (hc : cnt ≤ 1000000000) (hr : QRel kb kl bs ls) : ∀ i l, zu i kl = some l → l.id < 18446744073709551616 ∧ xY l.amount ∧ xY l.until_ := fun i l h => zEC ho hc l ((ho.look hr).1 h).1
section
variable {idx : Nat} {now : Int} {cnt : Nat} {kb : List (ByteArray × Int)} {kl : List (Nat × LeaD)} {kr : List (Nat × RepD)} {idx2 : Nat} {now2 : Int} {cnt2 : Nat} {bs : List BudD} {ls : List LeaD} {rs : List RepD}
theorem LSt.ht (h : LSt idx now cnt kb kl kr idx2 now2 cnt2 bs ls rs) : 0 ≤ now ∧ now ≤ 2305843009213693952 := by rw [h.n]; exact h.h.q.time
theorem LSt.nd (h : LSt idx now cnt kb kl kr idx2 now2 cnt2 bs ls rs) : KNd kl := h.h.q.knl h.r.q
theorem LSt.len (h : LSt idx now cnt kb kl kr idx2 now2 cnt2 bs ls rs) : kl.length ≤ 128 := by rw [h.r.q.llen]; exact h.h.q.llen
theorem LSt.pt (h : LSt idx now cnt kb kl kr idx2 now2 cnt2 bs ls rs) {d : Int} (hd : xY d) : 0 ≤ kW now d ∧ kW now d ≤ 2305843009213693952 := by rw [h.n]; exact (h.h.q.pass d hd).time
theorem LSt.lent (h : LSt idx now cnt kb kl kr idx2 now2 cnt2 bs ls rs) {d : Int} (hd : xY d) (k : ByteArray) : 0 ≤ ye k (kA now d kl) ∧ ye k (kA now d kl) ≤ 9223372036854775807 := by
  rw [h.n, (h.r.q.pass d).lent]; exact (h.h.q.pass d hd).lent0 k
theorem LSt.klw (h : LSt idx now cnt kb kl kr idx2 now2 cnt2 bs ls rs) {d : Int} (hd : xY d) (hc : cnt2 ≤ 1000000000) : ∀ i l, zu i (kA now d kl) = some l → l.id < 18446744073709551616 ∧ xY l.amount ∧ xY l.until_ := by
  rw [h.n]; exact zNP (h.h.q.pass d hd) hc (h.r.q.pass d)
theorem LSt.start : LSt 0 0 0 [] [] [] 0 0 0 [] [] [] := ⟨rfl, rfl, rfl, LOkR.start, LRel.start⟩
end
section
variable {now : Int} {cnt : Nat} {kb : List (ByteArray × Int)} {kl : List (Nat × LeaD)} {kr : List (Nat × RepD)}
end
def cmd1 : CmdD := { session := 1, seq := 1, op := 1, key := (⟨#[107]⟩ : ByteArray), amount := 5, span := 0, lease := 0 }
theorem zKh : cmd1.wf := ⟨by decide, by decide, by decide, by unfold xY; decide, by unfold xY; decide, by decide⟩
theorem zKZ {r : RepD} {did : Bool} {cnt' : Nat} {kb' : List (ByteArray × Int)} {kl' : List (Nat × LeaD)} {kr' : List (Nat × RepD)} (h : DoK 0 0 [] [] [] cmd1 r did cnt' kb' kl' kr') : (did = true ∧ r.e = 0) ∧ ((r.seq : Nat) : Int) = ((1 : Nat) : Int) := by
  have hok : cmd1.ok := by decide
  have hf : yV [] cmd1.session cmd1.seq = (RepD.zero, 8) := by decide
  rcases h with ⟨h, _⟩ | ⟨_, h, rfl, _⟩
  · rw [hf] at h
    rcases h with h | h | h | h
    · exact absurd hok h.1
    · exact absurd h.2.1 (by decide)
    · exact absurd h.2.2.1 (by decide)
    · exact absurd rfl h.2.1
  · rcases h with h | h | h | h | h
    · refine ⟨⟨rfl, ?_⟩, ?_⟩
      · rw [h.2.1]; decide
      · rw [h.2.1]; decide
    · exact absurd h.1 (by decide)
    · exact absurd h.1 (by decide)
    · exact absurd h.1 (by decide)
    · exact absurd rfl h.1.1.1
abbrev x2 (α : Type) := List UInt8 → Nat → Option (α × Nat)
def Rt {α : Type} (p : x2 α) (x : α) (e : List UInt8) : Prop := ∀ pre s : List UInt8, p (pre ++ e ++ s) pre.length = some (x, (pre ++ e).length)
theorem Rt.pure {α : Type} (x : α) : Rt (yk x) x [] := fun pre s => by simp [yk]
theorem Rt.bind {α β : Type} {p : x2 α} {q : α → x2 β} {x : α} {y : β} {e f : List UInt8} (h1 : Rt p x e) (h2 : Rt (q x) y f) : Rt (yE p q) y (e ++ f) := fun pre s => by
  have a1 := h1 pre (f ++ s)
  have a2 := h2 (pre ++ e) s
  simp only [yE]
  rw [show pre ++ (e ++ f) ++ s = pre ++ e ++ (f ++ s) by simp, a1]
  simp only [Option.bind_some]
  rw [show pre ++ e ++ (f ++ s) = pre ++ e ++ f ++ s by simp, a2]
  simp
theorem Rt.map {α β : Type} {p : x2 α} {x : α} {e : List UInt8} (h : Rt p x e) (g : α → β) : Rt (yE p fun v => yk (g v)) (g x) e := by
  have := h.bind (q := fun v => yk (g v)) (Rt.pure (g x)); rwa [List.append_nil] at this
theorem Rt.rep {α : Type} [Inhabited α] {p : x2 α} {l : List α} {enc : α → List UInt8} (h : ∀ x ∈ l, Rt p x (enc x)) : Rt (yv p l.length) l (l.flatMap enc) := by
  have key : ∀ k, k ≤ l.length → Rt (yv p k) (l.take k) ((l.take k).flatMap enc) := by
    intro k
    induction k with
    | zero => intro _; rw [List.take_zero]; exact Rt.pure []
    | succ k ih =>
      intro hk
      rw [yB (by omega), List.flatMap_append]
      have h2 := (h (zI l k) (yM (by omega))).map (l.take k ++ [·])
      have := (ih (by omega)).bind (q := fun l => yE p fun x => yk (l ++ [x])) h2
      simp only [List.flatMap_cons, List.flatMap_nil, List.append_nil]
      exact this
  have := key l.length (Nat.le_refl _)
  rwa [List.take_length] at this
theorem zC0 : ∀ (l : List UInt8) (n : Nat), l.foldl (fun n c => n * 256 + c.toNat) n = n * 256 ^ l.length + beN l
  | [], n => by simp [beN]
  | c :: l, n => by
    have h1 := zC0 l (n * 256 + c.toNat)
    have h2 := zC0 l (0 * 256 + c.toNat)
    simp only [beN, List.foldl_cons, List.length_cons] at *
    rw [h1, h2, Nat.pow_succ, Nat.add_mul, Nat.mul_assoc, Nat.mul_comm 256]; simp only [Nat.zero_mul, Nat.zero_add]; omega
theorem zFV (c : UInt8) (l : List UInt8) : beN (c :: l) = c.toNat * 256 ^ l.length + beN l := by
  have := zC0 l (0 * 256 + c.toNat)
  simp only [beN, List.foldl_cons, Nat.zero_mul, Nat.zero_add] at *
  exact this
theorem zKJ (k : Nat) : 2 ^ (8 * k) = 256 ^ k := by rw [Nat.pow_mul]
theorem zFj (n : Nat) : n < 256 ^ yf n := by
  have h1 := zBi n
  have : 2 ^ zw n ≤ 2 ^ (8 * yf n) := Nat.pow_le_pow_right (by omega) (by unfold yf; omega)
  rw [zKJ] at this; omega
end Go.Proofs.YthincafbmpialaaGreat
