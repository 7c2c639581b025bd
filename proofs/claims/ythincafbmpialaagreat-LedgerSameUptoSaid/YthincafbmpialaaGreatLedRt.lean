import Derived.Test.YthincafbmpialaaGreatQuotaW
import Derived.Test.YthincafbmpialaaGreatFwG
import Derived.Test.YthincafbmpialaaGreatFwR
import Derived.Laws.Externs
import Derived.Test.YthincafbmpialaaGreatLedP
import Derived.Test.YthincafbmpialaaGreatLeC
set_option linter.unusedSectionVars false
set_option linter.unusedSimpArgs false
set_option linter.unusedVariables false
set_option maxRecDepth 10000
namespace Go.Proofs.YthincafbmpialaaGreat
open Go Go.Sc Go.Proofs
def zDr (a b : Nat) : Int := if a < b then -1 else if b < a then 1 else 0
def zFx (x y : LeaD) : Int := zDr x.id y.id
theorem zDo {a b : Nat} : zDr a b < 0 ↔ a < b := by
  unfold zDr
  by_cases h : a < b
  · rw [if_pos h]; exact ⟨fun _ => h, fun _ => by decide⟩
  · rw [if_neg h]
    refine ⟨fun q => ?_, fun q => absurd q h⟩
    split at q
    · exact absurd q (by decide)
    · exact absurd q (by decide)
instance : SO LeaD := ⟨fun x y => zFx x y < 0, fun x y => inferInstanceAs (Decidable (zFx x y < 0)), fun h k => by rw [show zFx _ _ = zDr _ _ from rfl, zDo] at h k; omega, fun h k q => by rw [show zFx _ _ = zDr _ _ from rfl, zDo] at h k q; omega⟩
theorem olt_lea {x y : LeaD} : olt x y ↔ x.id < y.id := zDo
end Go.Proofs.YthincafbmpialaaGreat
set_option linter.unusedVariables false
set_option linter.unusedSectionVars false
namespace Go.Sc
section
variable {P : Program} {n : Nat} {fn : Func} {g : FuncId}
theorem Own.dropAt {w0 w : World} {S : List Nat} (Lp : List Res) {r : Res} {L : List Res} (h : Own w0 S (Lp ++ r :: L) w) : Own w0 S (Lp ++ L) w := (h.perm List.perm_middle).tail
theorem Own.inTail {w0 w : World} {S : List Nat} (Lp : List Res) {r : Res} {L : List Res} (h : Own w0 S (Lp ++ L ++ [r]) w) : Own w0 S (Lp ++ r :: L) w := h.perm (by rw [List.append_assoc]; exact List.Perm.append_left _ (List.perm_append_comm (l₁ := L) (l₂ := [r])))
theorem zH7 {α : Type} {enc : α → Value} {Sx : List α → Prop} {N s p i2 b0 b1 i3 : Nat} {sg : FuncId} {lb : List Value} {Ls Lu : List Res} {Ju : List α → List Res → Prop} {l2 l3 : List Oper} {f : Nat → Value} {w0 w : World} {S : List Nat} {c2 : Code} {R : Value → World → Prop}
    (hs : f s = .func (.func sg) #[] lb.toArray) (hcall : xm P sg = true) (hseq : zD6 P sg lb enc Sx N Ls) (h0 : Ju [] Lu) (hw : Own w0 S (Ls ++ Lu) w) (hp : Nat.blt p n = true) (hd2 : kZ l2 = true) (hd3 : kZ l3 = true)
    {Mid : List α → α → (Nat → Value) → List Res → Prop}
    (hround2 : ∀ pre x L w, Ju pre L → pre.length < N → CL P n l2.toArray l2 (fun f' w' => ∃ L2, Mid pre x f' L2 ∧ Own w (xN L) L2 w') (upd f p (enc x)) (Own w (xN L) L))
    (hround3 : ∀ pre x f' L w, Mid pre x f' L → pre.length < N → CL P n l3.toArray l3 (fun _ w' => ∃ L', Ju (pre ++ [x]) L' ∧ Own w (xN L) L' w') f' (Own w (xN L) L))
    (hdone : ∀ xs L' D w', Sx xs → Ju xs L' → Own w0 S (Res.obj D (.deferred (some [])) :: (Ls ++ L')) w' → ∀ a, RepD n [{ target := .collected D, args := #[] }] f a → c2.wpIn Fence.wide 0 P (bodyPostM Fence.wide 0 P fn fun e w' => ∃ v, e = .returned v ∧ R v w') a w') :
    RF P fn n (.block b0 (.rangeFunc (.tmp s) #[p] (.region i2 l2.toArray false) (.block b1 (.region i3 l3.toArray false)))) c2 R f w := by
  intro a ha
  refine wpIn_block ?_
  refine wpIn_rangeFunc ?_
  intro fid _
  obtain ⟨rc, hrc⟩ : ∃ rc : LoopState → Option Code → Loop, rc = fun st pe => { state := st, pending := pe, fn := fid, tmps := a.tmps, params := #[p], assign := .region i2 l2.toArray false, body := .block b1 (.region i3 l3.toArray false), defers := w.heap.size } := ⟨_, rfl⟩
  have hO1 : Own w0 S (Res.obj w.heap.size (.deferred (some [])) :: (Ls ++ Res.obj (w.heap.size + 1) (.loop (rc .ready none)) :: Lu)) ((w.alloc (.deferred (some []))).alloc (.loop (rc .ready none))) := by
    have h1 := (hw.newObj (.deferred (some []))).newObj (.loop (rc .ready none))
    rw [World.size_alloc] at h1
    refine h1.perm ?_
    rw [List.append_assoc]
    exact List.perm_append_comm.trans (List.Perm.cons _ (show (Res.obj (w.heap.size + 1) (.loop (rc .ready none)) :: (Ls ++ Lu)).Perm _ from List.perm_middle.symm))
  refine ⟨w.heap.size + 1, [{ target := .collected w.heap.size, args := #[] }], (w.alloc (.deferred (some []))).alloc (.loop (rc .ready none)), { target := .fn (.func sg) lb.toArray, args := #[.func (.yield (w.heap.size + 1)) #[] #[]] }, (w.alloc (.deferred (some []))).alloc (.loop (rc .ready none)), sg, #[.func (.yield (w.heap.size + 1)) #[] #[]] ++ lb.toArray, (w.alloc (.deferred (some []))).alloc (.loop (rc .ready none)),
    by rw [hrc]; exact run_enterLoop_outer _ _ _ _ _, ?_, fun _ _ => trivial, ?_, fun q => by simp [Fence.wide] at q, ?_⟩
  · simp [resolve, ha.eval, ev, hs, Deferred.ofValue]
  · have := kL hcall ((w.alloc (.deferred (some []))).alloc (.loop (rc .ready none))) (#[.func (.yield (w.heap.size + 1)) #[] #[]] ++ lb.toArray)
    simp only [invoke]
    exact this
  · rw [show (#[Value.func (.yield (w.heap.size + 1)) #[] #[]] ++ lb.toArray) = (.func (.yield (w.heap.size + 1)) #[] #[] :: lb).toArray by simp]
    have hO1' : Own w0 S ([Res.obj w.heap.size (.deferred (some []))] ++ (Ls ++ Res.obj (w.heap.size + 1) (.loop (rc .ready none)) :: Lu)) ((w.alloc (.deferred (some []))).alloc (.loop (rc .ready none))) := hO1
    refine callsIn_wide.2 (Calls.mono (hseq (w.heap.size + 1) (fun pre L => ∃ L1, L = Res.obj (w.heap.size + 1) (.loop (rc .ready none)) :: L1 ∧ Ju pre L1) _ _ ?_ ⟨Lu, rfl, h0⟩ hO1'.giveEnd) ?_)
    · -- a round
      rintro pre x L w1 ⟨L1, rfl, hJ⟩ hlen hO
      have hl : w1.heap[w.heap.size + 1]? = some (.loop (rc .ready none)) := hO.holds 0 _ rfl
      have hy : (Instr.yield (w.heap.size + 1) #[enc x]).run P w1 = .ok (.round (w.heap.size + 1) fid (a.tmps.setIfInBounds p (enc x)) (.region i2 l2.toArray false) (.block b1 (.region i3 l3.toArray false))) w1 := by
        have h := run_yield (P := P) (args := #[enc x]) hl (by rw [hrc]; rfl)
        rw [h, hrc]
        simp
      refine ⟨_, _, _, _, hy, ?_⟩
      have hrep : Rep n (upd f p (enc x)) { tmps := a.tmps.setIfInBounds p (enc x), defers := [] } := by
        have h1 := ha.put (by simpa [Nat.blt_eq] using hp) (enc x)
        have h2 := ha.defers
        cases a
        simp only at h2; subst h2
        exact h1
      have hO' : Own w1 (xN (Res.obj (w.heap.size + 1) (.loop (rc .ready none)) :: L1)) ([Res.obj (w.heap.size + 1) (.loop (rc .ready none))] ++ L1) w1 := hO
      refine roundIn_of_wpIn trivial (wpIn_mono (x5 (ro := some (w.heap.size + 1)) (m := 0) hd2 (hround2 pre x L1 w1 hJ hlen _ hO'.giveEnd) _ hrep) ?_)
      intro e a2 w2 hq
      cases e <;> first | exact hq.elim | skip
      obtain ⟨f', hr', L2, hM, hOm⟩ := hq
      have hO1 := hO'.frameEnd hOm
      have hl : w2.heap[w.heap.size + 1]? = some (.loop (rc .ready none)) := hO1.holds 0 _ rfl
      have hO2 := hO1.putObj (i := 0) (.loop { rc .ready none with state := .busy }) rfl
      have hO2' : Own w1 (xN (Res.obj (w.heap.size + 1) (.loop (rc .ready none)) :: L1)) ([Res.obj (w.heap.size + 1) (.loop { rc .ready none with state := .busy })] ++ L2) (w2.putObj (w.heap.size + 1) (.loop { rc .ready none with state := .busy })) := hO2
      refine ⟨_, run_beginRound hl (by rw [hrc]), ?_⟩
      refine wpIn_block (wpIn_mono (x5 (ro := some (w.heap.size + 1)) (m := 0) hd3 (hround3 pre x f' L2 _ hM hlen _ hO2'.giveEnd) a2 hr') ?_)
      intro e a3 w3 hq
      cases e <;> first | exact hq.elim | skip
      obtain ⟨f3, hr3, L', hJ', hO3⟩ := hq
      have hO4 := hO2'.frameEnd hO3
      have hl3 : w3.heap[w.heap.size + 1]? = some (.loop { rc .ready none with state := .busy }) := hO4.holds 0 _ rfl
      have he := run_endRound (P := P) none hl3
      refine ⟨_, _, he, rfl, Res.obj (w.heap.size + 1) (.loop (rc .ready none)) :: L', ⟨L', rfl, hJ'⟩, ?_⟩
      have hO5 := hO4.putObj (i := 0) (.loop (rc .ready none)) rfl
      have e1 : (.loop { { rc .ready none with state := .busy } with state := if (none : Option Code).isNone then .ready else .done, pending := none } : Obj) = .loop (rc .ready none) := by rw [hrc]; rfl
      rw [e1]
      exact hO5
    · rintro _ w2 ⟨v, rfl, xs, L', hS, ⟨L1, rfl, hJ⟩, hO⟩
      have hO2 := (show Own w0 S _ _ from hO1'.frameEnd hO).perm (show ([Res.obj w.heap.size (.deferred (some []))] ++ (Ls ++ Res.obj (w.heap.size + 1) (.loop (rc .ready none)) :: L1)).Perm (Res.obj (w.heap.size + 1) (.loop (rc .ready none)) :: Res.obj w.heap.size (.deferred (some [])) :: (Ls ++ L1)) from
        (List.Perm.cons _ List.perm_middle).trans (.swap _ _ _))
      have hl : w2.heap[w.heap.size + 1]? = some (.loop (rc .ready none)) := hO2.holds 0 _ rfl
      refine ⟨none, w2.putObj (w.heap.size + 1) (.loop (rc .exhausted none)), by rw [run_endLoop (P := P) hl (by rw [hrc]; simp), hrc], ?_⟩
      have hO3 := (hO2.putObj (i := 0) (.loop (rc .exhausted none)) rfl).tail
      show Exit.inBlock b0 _ .normal _ _
      refine hdone xs L1 w.heap.size _ hS hJ hO3 _ ⟨?_, ?_⟩
      · have h2 := ha.defers
        cases a
        simp only at h2; subst h2
        exact ha
      · show _ ++ a.defers = _
        rw [ha.defers]; rfl
end
def isMapT (P : Program) (t : TypeId) : Bool := match P.underlying t with | some (.map _ _) => true | _ => false
section
variable {κ α : Type} [DecidableEq κ] {P : Program} {kt vt t t' : TypeId} {ke : κ → Value} {ve : α → Value}
variable {n : Nat} {ops : Array Oper} {N : K} {f : Nat → Value} {rest : List Oper} {d : Nat} {ty : TypeId} {p : String} {af : Array Edge} {x y z : Operand} {w0 : World} {S : List Nat} {L : List Res} {A : World → Prop}
end
end Go.Sc
set_option linter.unusedVariables false
set_option maxRecDepth 10000
namespace Go.Proofs.YthincafbmpialaaGreat
open Go Go.Sc Go.Proofs
structure LSt (idx : Nat) (now : Int) (cnt : Nat) (kb : List (ByteArray × Int)) (kl : List (Nat × LeaD)) (kr : List (Nat × RepD)) (idx2 : Nat) (now2 : Int) (cnt2 : Nat) (bs : List BudD) (ls : List LeaD) (rs : List RepD) : Prop where
  i : idx = idx2
  n : now = now2
  c : cnt = cnt2
  h : LOkR now2 cnt2 bs ls rs
  r : LRel kb kl kr bs ls rs
theorem zLY {now : Int} {cnt : Nat} {bs : List BudD} {ls : List LeaD} {kb : List (ByteArray × Int)} {kl : List (Nat × LeaD)} (ho : QOk now cnt bs ls) (hc : cnt ≤ 1000000000) (hr : QRel kb kl bs ls) : ∀ i l, zm i kl = some l → l.id < 18446744073709551616 ∧ xD l.amount ∧ xD l.until_ := fun i l h => zDw ho hc l ((ho.look hr).1 h).1
section
variable {idx : Nat} {now : Int} {cnt : Nat} {kb : List (ByteArray × Int)} {kl : List (Nat × LeaD)} {kr : List (Nat × RepD)} {idx2 : Nat} {now2 : Int} {cnt2 : Nat} {bs : List BudD} {ls : List LeaD} {rs : List RepD}
theorem LSt.ht (h : LSt idx now cnt kb kl kr idx2 now2 cnt2 bs ls rs) : 0 ≤ now ∧ now ≤ 2305843009213693952 := by rw [h.n]; exact h.h.q.time
theorem LSt.nd (h : LSt idx now cnt kb kl kr idx2 now2 cnt2 bs ls rs) : KNd kl := h.h.q.knl h.r.q
theorem LSt.len (h : LSt idx now cnt kb kl kr idx2 now2 cnt2 bs ls rs) : kl.length ≤ 128 := by rw [h.r.q.llen]; exact h.h.q.llen
theorem LSt.pt (h : LSt idx now cnt kb kl kr idx2 now2 cnt2 bs ls rs) {d : Int} (hd : xD d) : 0 ≤ kW now d ∧ kW now d ≤ 2305843009213693952 := by rw [h.n]; exact (h.h.q.pass d hd).time
theorem LSt.lent (h : LSt idx now cnt kb kl kr idx2 now2 cnt2 bs ls rs) {d : Int} (hd : xD d) (k : ByteArray) : 0 ≤ yS k (xu now d kl) ∧ yS k (xu now d kl) ≤ 9223372036854775807 := by
  rw [h.n, (h.r.q.pass d).lent]; exact (h.h.q.pass d hd).lent0 k
theorem LSt.klw (h : LSt idx now cnt kb kl kr idx2 now2 cnt2 bs ls rs) {d : Int} (hd : xD d) (hc : cnt2 ≤ 1000000000) : ∀ i l, zm i (xu now d kl) = some l → l.id < 18446744073709551616 ∧ xD l.amount ∧ xD l.until_ := by
  rw [h.n]; exact zLY (h.h.q.pass d hd) hc (h.r.q.pass d)
theorem LSt.start : LSt 0 0 0 [] [] [] 0 0 0 [] [] [] := ⟨rfl, rfl, rfl, LOkR.start, LRel.start⟩
end
section
variable {now : Int} {cnt : Nat} {kb : List (ByteArray × Int)} {kl : List (Nat × LeaD)} {kr : List (Nat × RepD)}
end
def cmd1 : CmdD := { session := 1, seq := 1, op := 1, key := (⟨#[107]⟩ : ByteArray), amount := 5, span := 0, lease := 0 }
theorem zJF : cmd1.wf := ⟨by decide, by decide, by decide, by unfold xD; decide, by unfold xD; decide, by decide⟩
theorem zJH {r : RepD} {did : Bool} {cnt' : Nat} {kb' : List (ByteArray × Int)} {kl' : List (Nat × LeaD)} {kr' : List (Nat × RepD)} (h : DoK 0 0 [] [] [] cmd1 r did cnt' kb' kl' kr') : (did = true ∧ r.e = 0) ∧ ((r.seq : Nat) : Int) = ((1 : Nat) : Int) := by
  have hok : cmd1.ok := by decide
  have hf : yN [] cmd1.session cmd1.seq = (RepD.zero, 8) := by decide
  rcases h with ⟨h, _⟩ | ⟨_, h, rfl, _⟩
  · rw [hf] at h
    rcases h with h | h | h | h
    · exact absurd hok h.1
    · exact absurd h.2.1 (by decide)
    · exact absurd h.2.2.1 (by decide)
    · exact absurd rfl h.2.1
  · rcases h with h | h | h | h | h
    · refine ⟨⟨rfl, ?_⟩, ?_⟩
      · rw [h.2.1]; decide
      · rw [h.2.1]; decide
    · exact absurd h.1 (by decide)
    · exact absurd h.1 (by decide)
    · exact absurd h.1 (by decide)
    · exact absurd rfl h.1.1.1
abbrev xb (α : Type) := List UInt8 → Nat → Option (α × Nat)
def Rt {α : Type} (p : xb α) (x : α) (e : List UInt8) : Prop := ∀ pre s : List UInt8, p (pre ++ e ++ s) pre.length = some (x, (pre ++ e).length)
theorem Rt.pure {α : Type} (x : α) : Rt (yM x) x [] := fun pre s => by simp [yM]
theorem Rt.bind {α β : Type} {p : xb α} {q : α → xb β} {x : α} {y : β} {e f : List UInt8} (h1 : Rt p x e) (h2 : Rt (q x) y f) : Rt (zk p q) y (e ++ f) := fun pre s => by
  have a1 := h1 pre (f ++ s)
  have a2 := h2 (pre ++ e) s
  simp only [zk]
  rw [show pre ++ (e ++ f) ++ s = pre ++ e ++ (f ++ s) by simp, a1]
  simp only [Option.bind_some]
  rw [show pre ++ e ++ (f ++ s) = pre ++ e ++ f ++ s by simp, a2]
  simp
theorem Rt.map {α β : Type} {p : xb α} {x : α} {e : List UInt8} (h : Rt p x e) (g : α → β) : Rt (zk p fun v => yM (g v)) (g x) e := by
  have := h.bind (q := fun v => yM (g v)) (Rt.pure (g x)); rwa [List.append_nil] at this
theorem Rt.rep {α : Type} [Inhabited α] {p : xb α} {l : List α} {enc : α → List UInt8} (h : ∀ x ∈ l, Rt p x (enc x)) : Rt (yP p l.length) l (l.flatMap enc) := by
  have key : ∀ k, k ≤ l.length → Rt (yP p k) (l.take k) ((l.take k).flatMap enc) := by
    intro k
    induction k with
    | zero => intro _; rw [List.take_zero]; exact Rt.pure []
    | succ k ih =>
      intro hk
      rw [yD (by omega), List.flatMap_append]
      have h2 := (h (zI l k) (yH (by omega))).map (l.take k ++ [·])
      have := (ih (by omega)).bind (q := fun l => zk p fun x => yM (l ++ [x])) h2
      simp only [List.flatMap_cons, List.flatMap_nil, List.append_nil]
      exact this
  have := key l.length (Nat.le_refl _)
  rwa [List.take_length] at this
theorem zIb {α : Type} [Inhabited α] {l m : List α} {j : Nat} (h : j < l.length) : zI (l ++ m) j = zI l j := by
  simp [zI, List.getElem?_append_left h]
theorem zCd : ∀ (l : List UInt8) (n : Nat), l.foldl (fun n c => n * 256 + c.toNat) n = n * 256 ^ l.length + beN l
  | [], n => by simp [beN]
  | c :: l, n => by
    have h1 := zCd l (n * 256 + c.toNat)
    have h2 := zCd l (0 * 256 + c.toNat)
    simp only [beN, List.foldl_cons, List.length_cons] at *
    rw [h1, h2, Nat.pow_succ, Nat.add_mul, Nat.mul_assoc, Nat.mul_comm 256]; simp only [Nat.zero_mul, Nat.zero_add]; omega
theorem zCC (c : UInt8) (l : List UInt8) : beN (c :: l) = c.toNat * 256 ^ l.length + beN l := by
  have := zCd l (0 * 256 + c.toNat)
  simp only [beN, List.foldl_cons, Nat.zero_mul, Nat.zero_add] at *
  exact this
theorem zEp (k : Nat) : 2 ^ (8 * k) = 256 ^ k := by rw [Nat.pow_mul]
theorem zHw (n : Nat) : ∀ k, beN (be n k) = n % 256 ^ k
  | 0 => by simp [be, beN, Nat.mod_one]
  | k + 1 => by
    rw [be, zCC, zAD, zHw n k, zEp, Nat.pow_succ, Nat.mod_mul]
    have : (UInt8.ofNat (n / 256 ^ k)).toNat = n / 256 ^ k % 256 := by simp
    rw [this, Nat.mul_comm, Nat.add_comm]
theorem zAn (n : Nat) : n < 256 ^ yB n := by
  have h1 := zBS n
  have : 2 ^ zl n ≤ 2 ^ (8 * yB n) := Nat.pow_le_pow_right (by omega) (by unfold yB; omega)
  rw [zEp] at this; omega
theorem zDP {n k : Nat} (h : yB n = k + 1) : 0 < n / 256 ^ k ∧ n / 256 ^ k < 256 := by
  have h0 : 0 < n := by
    rcases Nat.eq_zero_or_pos n with rfl | h0
    · simp [yB, zl] at h
    · exact h0
  have h1 := jL h0
  have h2 : 256 ^ k ≤ n := by
    rw [← zEp]
    refine Nat.le_trans (Nat.pow_le_pow_right (by omega) ?_) h1
    unfold yB at h; omega
  have h3 := zAn n
  rw [h, Nat.pow_succ] at h3
  have hp : 0 < 256 ^ k := Nat.pow_pos (by omega)
  exact ⟨Nat.div_pos h2 hp, (Nat.div_lt_iff_lt_mul hp).2 (by omega)⟩
theorem zGg {n : Nat} (h : n < 18446744073709551616) (s : List UInt8) : zAX (z2 n ++ s) = some (n, (z2 n).length) := by
  have h8 := zAq h
  have hl := zB7 n
  have e0 : zI (z2 n ++ s) 0 = UInt8.ofNat (yB n) := rfl
  have e1 : (UInt8.ofNat (yB n)).toNat = yB n := by simp; omega
  unfold zAX
  rw [e0, e1, if_neg (by simp [hl]), if_neg, if_neg (by simp [hl]; omega)]
  · rw [List.take_append_of_le_length (by omega), List.take_of_length_le (by omega)]
    have : (z2 n).drop 1 = be n (yB n) := rfl
    rw [this, zHw, Nat.mod_eq_of_lt (zAn n), hl]; simp [Nat.add_comm]
  · rintro (h | ⟨⟨_, h3⟩, h4⟩)
    · omega
    · obtain ⟨k, hk⟩ : ∃ k, yB n = k + 1 := ⟨yB n - 1, by omega⟩
      obtain ⟨a1, a2⟩ := zDP hk
      have e2 : zI (z2 n ++ s) 1 = UInt8.ofNat (n / 2 ^ (8 * k)) := by
        rw [zIb (by omega)]
        show zI (UInt8.ofNat (yB n) :: be n (yB n)) 1 = _
        rw [hk]; rfl
      rw [e2, zEp] at h4
      simp at h4; omega
theorem xd {n : Nat} (h : n < 18446744073709551616) : Rt yC n (z2 n) := fun pre s => by
  unfold yC
  rw [List.append_assoc, List.drop_left, zGg h]; simp
theorem zIZ {n most : Nat} (h : n < 18446744073709551616) (hm : n ≤ most) : Rt (jf most) n (z2 n) := fun pre s => by
  simp only [jf, xd h pre s, Option.bind_some]; rw [if_neg (by omega)]
theorem zKf {a : Int} {most : Nat} (h0 : 0 ≤ a) (hm : a ≤ most) (hs : most < 18446744073709551616) : Rt (zFH most) a (z2 (u64 a)) := by
  have e : u64 a = a.toNat := by unfold u64; omega
  have h := (zIZ (n := a.toNat) (most := most) (by omega) (by omega)).map (fun n : Nat => (n : Int))
  rw [Int.toNat_of_nonneg h0] at h
  rw [e]; exact h
theorem zCa {d : List UInt8} (h : d.length < 18446744073709551616) : Rt yi d (jj d) := fun pre s => by
  have h1 := xd h pre (d ++ s)
  have e : pre ++ jj d ++ s = pre ++ z2 d.length ++ (d ++ s) := by simp [jj]
  rw [e]
  simp only [yi, h1, Option.bind_some]
  rw [if_neg (by simp only [List.length_append]; omega)]
  rw [show pre ++ z2 d.length ++ (d ++ s) = (pre ++ z2 d.length ++ d) ++ s by simp, List.take_append_of_le_length (by simp only [List.length_append]; omega), List.take_of_length_le (by simp only [List.length_append]; omega), List.drop_left]
  simp [jj, Nat.add_assoc]
theorem zF3 {α : Type} {p : xb α} {ok : α → Prop} [DecidablePred ok] {x : α} {e : List UInt8} (h : Rt p x e) (hx : ok x) : jN p ok e = some x := by
  have h := h [] []
  simp only [List.append_nil, List.nil_append, List.length_nil] at h
  simp only [jN, h, Option.bind_some]; rw [if_pos ⟨trivial, hx⟩]
end Go.Proofs.YthincafbmpialaaGreat
