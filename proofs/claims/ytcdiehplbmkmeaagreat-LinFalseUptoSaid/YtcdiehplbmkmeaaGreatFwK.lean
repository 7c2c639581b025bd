import Derived.Test.YtcdiehplbmkmeaaGreatRead
import Derived.Test.YtcdiehplbmkmeaaGreatLinP
import Derived.Test.YtcdiehplbmkmeaaGreatFwR
import Derived.Laws.Externs
set_option linter.unusedSectionVars false
set_option linter.unusedSimpArgs false
set_option linter.unusedVariables false
set_option maxRecDepth 10000
namespace Go.Proofs.YtcdiehplbmkmeaaGreat
open Go Go.Sc Go.Proofs Go.RowKit Go.ChangeShapes Go.WideShapes
theorem zJC {α : Type} (l : List α) : (l.map fun _ => 1).sum = l.length := by induction l <;> simp_all; omega
structure CmdIn (x : CmdD) : Prop where
  session : x.session < 18446744073709551616
  seq : x.seq < 18446744073709551616
  amount : yx x.amount
  span : yx x.span
  lease : x.lease < 18446744073709551616
theorem CmdIn.wf {x : CmdD} (h : CmdIn x) (hd : x.key.size ≤ 1048576) : x.wf := ⟨h.session, h.seq, hd, h.amount, h.span, h.lease⟩
theorem zLM (W : World) : RdA Tryz.prog W 54 CmdD.cells CmdIn (fun x => x.key.size + 1) := by
  have h := RdA.struct (W := W) (tot := 7) Tryz.underlying54 (by kernel_rfl)
    (RdF.cons (sz := 1) rfl (by kernel_rfl) (RdA.u64 Tryz.underlying32) (RdF.cons (sz := 1) rfl (by kernel_rfl) (RdA.u64 Tryz.underlying32)
      (RdF.cons (sz := 1) rfl (by kernel_rfl) (RdA.i64 Tryz.underlying3) (RdF.cons (sz := 1) rfl (by kernel_rfl) (RdA.str Tryz.underlying9)
        (RdF.cons (sz := 1) rfl (by kernel_rfl) (RdA.i64 Tryz.underlying2) (RdF.cons (sz := 1) rfl (by kernel_rfl) (RdA.i64 Tryz.underlying2)
          (RdF.cons (sz := 1) rfl (by kernel_rfl) (RdA.u64 Tryz.underlying32) (RdF.nil rfl))))))))
  exact h.map (fun p => ⟨p.1, p.2.1, p.2.2.1, p.2.2.2.1, p.2.2.2.2.1, p.2.2.2.2.2.1, p.2.2.2.2.2.2.1⟩) (fun _ => rfl) (fun _ h => ⟨h.1, h.2.1, h.2.2.2.2.1, h.2.2.2.2.2.1, h.2.2.2.2.2.2.1⟩) (fun _ _ => by first | omega | (dsimp only; omega))
theorem zKR (W : World) : RdA Tryz.prog W 45 (fun p : Value × List CmdD => [p.1]) (fun p => Rd W [] (Res.sl p.1 p.2.length (p.2.flatMap CmdD.cells)) ∧ ∀ a ∈ p.2, CmdIn a) (fun p => (p.2.map fun x => x.key.size + 1).sum + 1) :=
  (RdA.slice (sz := 7) Tryz.underlying45 (by kernel_rfl) (by decide) (fun _ => rfl) (zLM W)).map id (fun _ => rfl) (fun p h => ⟨Rd.of h.1, h.2⟩) (fun p _ => Nat.le_refl _)
theorem zIA {l : List CmdD} (h : ∀ a ∈ l, CmdIn a) (hd : (l.map fun x => x.key.size + 1).sum ≤ 1048576) : l.length ≤ 10000000 ∧ ∀ x ∈ l, x.wf := by
  have key : ∀ l : List CmdD, l.length ≤ (l.map fun x => x.key.size + 1).sum ∧ ∀ x ∈ l, x.key.size ≤ (l.map fun x => x.key.size + 1).sum := fun l => by
    induction l with
    | nil => simp
    | cons a l ih =>
      simp only [List.map_cons, List.sum_cons, List.length_cons]
      refine ⟨by omega, fun x hx => ?_⟩
      rcases List.mem_cons.1 hx with rfl | hx
      · omega
      · have := ih.2 x hx; omega
  exact ⟨by have := (key l).1; omega, fun x hx => (h x hx).wf (by have := (key l).2 x hx; omega)⟩
structure CallIn (x : CallD) : Prop where
  edge : yx x.edge
  cmd : CmdIn x.cmd
  beg : yx x.beg
  fin : yx x.fin
  reply : x.reply.wf
theorem CallIn.wf {x : CallD} (h : CallIn x) (hd : x.cmd.key.size ≤ 1048576) (hk : x.key.size ≤ 1048576) : x.wf := ⟨h.edge, h.cmd.wf hd, hk, h.beg, h.fin, h.reply⟩
end Go.Proofs.YtcdiehplbmkmeaaGreat
set_option linter.unusedVariables false
set_option linter.unusedSectionVars false
namespace Go.Sc
def zA1 (P : Program) (t : TypeId) : Bool := match P.underlying t with | some (.map _ _) => true | _ => false
theorem jO {P : Program} {t : TypeId} (h : zA1 P t = true) : ∃ k v, P.underlying t = some (.map k v) := by
  unfold zA1 at h
  split at h
  · rename_i k v hk; exact ⟨k, v, hk⟩
  · cases h
section
variable {κ α : Type} [DecidableEq κ] {P : Program} {kt vt t t' : TypeId} {ke : κ → Value} {ve : α → Value}
variable {n : Nat} {ops : Array Oper} {N : K} {f : Nat → Value} {rest : List Oper} {d : Nat} {ty : TypeId} {p : String} {af : Array Edge} {x y z : Operand} {w0 : World} {S : List Nat} {L : List Res} {A : World → Prop}
theorem zKK (d : Nat) {k e : TypeId} (h : P.underlying t = some (.map k e)) (m : Option Nat) (w : World) : (Op.equalIn (d + 1) t (.map m) (.map none)).run P w = .ok m.isNone w := by
  cases m <;> simp [Op.equalIn, zg h]
theorem zKU {m : Option Nat} (ht : zA1 P t = true) (hx : ev f x = .map m) (hy : ev f y = .map none) : RV P f ⟨some d, .binOp .eql t x y t', ty, p, af, none⟩ A (.bool m.isNone) := fun w _ => by
  obtain ⟨k, v, h⟩ := jO ht
  have hq : (Op.equal t (.map m) (.map none)).run P w = .ok m.isNone w := zKK 9999 h m w
  simp only [execOp, hx, hy, eqGuard]
  simp [binOp, hq]
theorem zEM {m : Option Nat} (ht : zA1 P t = true) (hx : ev f x = .map m) (hy : ev f y = .map none) (hd : Nat.blt d n = true) (k : CL P n ops rest N (upd f d (.bool m.isNone)) A) : CL P n ops (⟨some d, .binOp .eql t x y t', ty, p, af, none⟩ :: rest) N f A := z5 hd (zKU ht hx hy) k
theorem zEm {v : Value} (ht : zA1 P t = true) (hx : ev f x = v) (hd : Nat.blt d n = true) (k : CL P n ops rest N (upd f d (.iface t v)) A) : CL P n ops (⟨some d, .makeInterface t x, ty, p, af, none⟩ :: rest) N f A := by
  obtain ⟨a, b, h⟩ := jO ht
  exact z5 hd (fun w _ => by simp [execOp, hx, Instr.makeInterface, zg h]) k
theorem zGa {v : Value} {xT : TypeId} (ht : zA1 P t = true) (hx : ev f x = .iface t v) (hd : Nat.blt d n = true) (k : CL P n ops rest N (upd f d v) A) : CL P n ops (⟨some d, .typeAssert x xT t false, ty, p, af, none⟩ :: rest) N f A := by
  obtain ⟨a, b, h⟩ := jO ht
  exact z5 hd (fun w _ => by simp [execOp, hx, Instr.typeAssert, zg h]) k
set_option maxHeartbeats 1000000 in
theorem zG2 (i : Nat) {b : Nat} {kv : List (κ × Value)} {g : FuncId} {fn : Func} {ts : Array TypeId} (hf : P.funcs[g]? = some fn) (hname : (fn.name == "runtime.NumGoroutine") = false) (hb : fn.body.isNone = true) (hn : Extern.findNext fn = none) (he : Extern.find fn = some Extern.MapsClone.clone)
    (hx : ev f x = .iface t (.map (some b))) (hL : L[i]? = some (Res.map ke b kv)) (hd : Nat.blt d n = true)
    (k : ∀ b', CL P n ops rest N (upd f d (.iface t (.map (some b')))) (Own w0 S (L ++ [Res.map ke b' kv]))) :
    CL P n ops (⟨some d, .call ⟨.value (.func g), #[x], ts⟩, ty, p, af, none⟩ :: rest) N f (Own w0 S L) := by
  intro w hw
  obtain ⟨es, clock, h1, h2, h3⟩ := hw.holds i _ hL
  have hO : Own w [] [Res.map ke w.heap.size kv] (w.alloc (.map es clock)) :=
    Own.mk1 ⟨rfl, rfl, rfl, by simp, fun k hk _ => heap_alloc_old w _ hk⟩ ⟨es, clock, heap_alloc_new w _, h2, h3⟩ (fun b hb => by simp [Res.map] at hb; right; omega)
  refine xA (w' := w.alloc (.map es clock)) ?_ hd (k w.heap.size _ (hw.frame0 hO))
  have hc := run_callFunc_extern (P := P) hf hname hb hn he #[.iface t (.map (some b))] w
  have h4 : (Extern.MapsClone.clone #[.iface t (.map (some b))]).run P w = .ok (.iface t (.map (some w.heap.size))) (w.alloc (.map es clock)) := by
    have e : Extern.MapsClone.clone #[.iface t (.map (some b))] = (getObj b >>= fun o => match o with
      | .map entries clock => (newObj (.map entries clock) >>= fun n => pure (.iface t (.map (some n))))
      | _ => stuck "maps.clone: a map expected") := rfl
    rw [e]
    simp [xH (P := P) h1, newObj, Sem.run]
  rw [h4] at hc
  simp [execOp, resolve, invoke, show ev f (.func g) = .func (.func g) #[] #[] from rfl, Deferred.ofValue, hx, hc]
theorem zAz (i : Nat) {b : Nat} {kv : List (κ × α)} {g : FuncId} {fn : Func} {ts : Array TypeId} (hf : P.funcs[g]? = some fn) (hname : (fn.name == "runtime.NumGoroutine") = false) (hb : fn.body.isNone = true) (hn : Extern.findNext fn = none) (he : Extern.find fn = some Extern.MapsClone.clone)
    (hx : ev f x = .iface t (.map (some b))) (hL : L[i]? = some (Res.mp ke ve b kv)) (hd : Nat.blt d n = true)
    (k : ∀ b', CL P n ops rest N (upd f d (.iface t (.map (some b')))) (Own w0 S (L ++ [Res.mp ke ve b' kv]))) :
    CL P n ops (⟨some d, .call ⟨.value (.func g), #[x], ts⟩, ty, p, af, none⟩ :: rest) N f (Own w0 S L) := zG2 i hf hname hb hn he hx hL hd k
end
end Go.Sc
