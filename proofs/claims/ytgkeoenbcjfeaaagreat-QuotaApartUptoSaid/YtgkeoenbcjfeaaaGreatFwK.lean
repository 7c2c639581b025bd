/-
  MAPS COPIED: maps.clone; a map in an interface; a map held against nil.
-/
import Derived.Test.YtgkeoenbcjfeaaaGreatFwR
import Derived.Laws.Externs
set_option linter.unusedVariables false
set_option linter.unusedSectionVars false
namespace Go.Sc

def isMapT (P : Program) (t : TypeId) : Bool := match P.underlying t with | some (.map _ _) => true | _ => false
theorem isMapT_spec {P : Program} {t : TypeId} (h : isMapT P t = true) : ∃ k v, P.underlying t = some (.map k v) := by
  unfold isMapT at h
  split at h
  · rename_i k v hk; exact ⟨k, v, hk⟩
  · cases h
section
variable {κ α : Type} [DecidableEq κ] {P : Program} {kt vt t t' : TypeId} {ke : κ → Value} {ve : α → Value}
variable {n : Nat} {ops : Array Oper} {N : K} {f : Nat → Value} {rest : List Oper} {d : Nat} {ty : TypeId} {p : String} {af : Array Edge} {x y z : Operand} {w0 : World} {S : List Nat} {L : List Res} {A : World → Prop}
theorem rq_map (d : Nat) {k e : TypeId} (h : P.underlying t = some (.map k e)) (m : Option Nat) (w : World) : (Op.equalIn (d + 1) t (.map m) (.map none)).run P w = .ok m.isNone w := by
  cases m <;> simp [Op.equalIn, run_under h]
theorem v_nilm {m : Option Nat} (ht : isMapT P t = true) (hx : ev f x = .map m) (hy : ev f y = .map none) : RV P f ⟨some d, .binOp .eql t x y t', ty, p, af, none⟩ A (.bool m.isNone) := fun w _ => by
  obtain ⟨k, v, h⟩ := isMapT_spec ht
  have hq : (Op.equal t (.map m) (.map none)).run P w = .ok m.isNone w := rq_map 9999 h m w
  simp only [execOp, hx, hy, eqGuard]
  simp [binOp, hq]
theorem l_nilm {m : Option Nat} (ht : isMapT P t = true) (hx : ev f x = .map m) (hy : ev f y = .map none) (hd : Nat.blt d n = true) (k : CL P n ops rest N (upd f d (.bool m.isNone)) A) : CL P n ops (⟨some d, .binOp .eql t x y t', ty, p, af, none⟩ :: rest) N f A := l_val hd (v_nilm ht hx hy) k
theorem l_mkif {v : Value} (ht : isMapT P t = true) (hx : ev f x = v) (hd : Nat.blt d n = true) (k : CL P n ops rest N (upd f d (.iface t v)) A) : CL P n ops (⟨some d, .makeInterface t x, ty, p, af, none⟩ :: rest) N f A := by
  obtain ⟨a, b, h⟩ := isMapT_spec ht
  exact l_val hd (fun w _ => by simp [execOp, hx, Instr.makeInterface, run_under h]) k
theorem l_tas {v : Value} {xT : TypeId} (ht : isMapT P t = true) (hx : ev f x = .iface t v) (hd : Nat.blt d n = true) (k : CL P n ops rest N (upd f d v) A) : CL P n ops (⟨some d, .typeAssert x xT t false, ty, p, af, none⟩ :: rest) N f A := by
  obtain ⟨a, b, h⟩ := isMapT_spec ht
  exact l_val hd (fun w _ => by simp [execOp, hx, Instr.typeAssert, run_under h]) k
set_option maxHeartbeats 1000000 in
theorem l_mclone (i : Nat) {b : Nat} {kv : List (κ × Value)} {g : FuncId} {fn : Func} {ts : Array TypeId} (hf : P.funcs[g]? = some fn) (hname : (fn.name == "runtime.NumGoroutine") = false) (hb : fn.body.isNone = true) (hn : Extern.findNext fn = none) (he : Extern.find fn = some Extern.MapsClone.clone)
    (hx : ev f x = .iface t (.map (some b))) (hL : L[i]? = some (Res.map ke b kv)) (hd : Nat.blt d n = true)
    (k : ∀ b', CL P n ops rest N (upd f d (.iface t (.map (some b')))) (Own w0 S (L ++ [Res.map ke b' kv]))) :
    CL P n ops (⟨some d, .call ⟨.value (.func g), #[x], ts⟩, ty, p, af, none⟩ :: rest) N f (Own w0 S L) := by
  intro w hw
  obtain ⟨es, clock, h1, h2, h3⟩ := hw.holds i _ hL
  have hO : Own w [] [Res.map ke w.heap.size kv] (w.alloc (.map es clock)) :=
    Own.mk1 ⟨rfl, rfl, rfl, by simp, fun k hk _ => heap_alloc_old w _ hk⟩ ⟨es, clock, heap_alloc_new w _, h2, h3⟩ (fun b hb => by simp [Res.map] at hb; right; omega)
  refine WL_val (w' := w.alloc (.map es clock)) ?_ hd (k w.heap.size _ (hw.frame0 hO))
  have hc := run_callFunc_extern (P := P) hf hname hb hn he #[.iface t (.map (some b))] w
  have h4 : (Extern.MapsClone.clone #[.iface t (.map (some b))]).run P w = .ok (.iface t (.map (some w.heap.size))) (w.alloc (.map es clock)) := by
    have e : Extern.MapsClone.clone #[.iface t (.map (some b))] = (getObj b >>= fun o => match o with
      | .map entries clock => (newObj (.map entries clock) >>= fun n => pure (.iface t (.map (some n))))
      | _ => stuck "maps.clone: a map expected") := rfl
    rw [e]
    simp [map_getObj (P := P) h1, newObj, Sem.run]
  rw [h4] at hc
  simp [execOp, resolve, invoke, show ev f (.func g) = .func (.func g) #[] #[] from rfl, Deferred.ofValue, hx, hc]
theorem l_mcloneA (i : Nat) {b : Nat} {kv : List (κ × α)} {g : FuncId} {fn : Func} {ts : Array TypeId} (hf : P.funcs[g]? = some fn) (hname : (fn.name == "runtime.NumGoroutine") = false) (hb : fn.body.isNone = true) (hn : Extern.findNext fn = none) (he : Extern.find fn = some Extern.MapsClone.clone)
    (hx : ev f x = .iface t (.map (some b))) (hL : L[i]? = some (Res.mp ke ve b kv)) (hd : Nat.blt d n = true)
    (k : ∀ b', CL P n ops rest N (upd f d (.iface t (.map (some b')))) (Own w0 S (L ++ [Res.mp ke ve b' kv]))) :
    CL P n ops (⟨some d, .call ⟨.value (.func g), #[x], ts⟩, ty, p, af, none⟩ :: rest) N f (Own w0 S L) := l_mclone i hf hname hb hn he hx hL hd k
end
end Go.Sc
