import Derived.Test.YtcdiehplbmkmeaaGreatIn
import Derived.Test.YtcdiehplbmkmeaaGreatFwT
import Derived.Test.YtcdiehplbmkmeaaGreatChecked
set_option linter.unusedSectionVars false
set_option linter.unusedSimpArgs false
set_option linter.unusedVariables false
set_option maxRecDepth 10000
namespace Go.Proofs.YtcdiehplbmkmeaaGreat
open Go Go.Sc Go.Proofs
theorem BytesPost.yes {p : Option (List UInt8 × Nat)} {d : List UInt8} {k : Nat} {e : Int} (h : BytesPost p d k e) (he : e = 0) : p = some (d, k) := by
  rcases h with h | h
  · exact h.2
  · exact absurd he h.1
theorem BytesPost.no {p : Option (List UInt8 × Nat)} {d : List UInt8} {k : Nat} {e : Int} (h : BytesPost p d k e) (he : e ≠ 0) : p = none := by
  rcases h with h | h
  · exact absurd h.1 he
  · exact h.2
def zKN {α : Type} (p : List UInt8 → Nat → Option (α × Nat)) : Nat → List UInt8 → Nat → Option (List α × Nat)
  | 0 => zAh []
  | k + 1 => xG (zKN p k) fun l => xG p fun x => zAh (l ++ [x])
def zIM (most : Nat) : List UInt8 → Nat → Option (Int × Nat) := xG (zHM most) fun n => zAh (n : Int)
def zKO : List UInt8 → Nat → Option (List Int × Nat) := xG (zHM 16) fun n => zKN (zIM 16) n
structure ConfD where
  vv : Value
  vs : List Int
  lv : Value
  ls : List Int
def ConfD.cells (x : ConfD) : List Value := [x.vv, x.lv]
structure ConfD.rd (x : ConfD) (w : World) (S : List Nat) : Prop where
  vv : Rd w S (Res.sl x.vv x.vs.length (x.vs.flatMap I1))
  lv : Rd w S (Res.sl x.lv x.ls.length (x.ls.flatMap I1))
theorem ConfD.rd.at0 {x : ConfD} {w0 w : World} {S : List Nat} {L : List Res} (h : x.rd w0 S) (hw : Own w0 S L w) : x.rd w [] := ⟨hw.rd0 h.vv, hw.rd0 h.lv⟩
theorem ConfD.rd.at {x : ConfD} {w0 w : World} {S : List Nat} {L Lin : List Res} (h : x.rd w0 S) (hw : Own w0 S L w) (m : List Nat) (hm : m.mapM (fun i => L[i]?) = some Lin) : x.rd w (x3 Lin) := ⟨hw.rdTo h.vv m hm, hw.rdTo h.lv m hm⟩
def Rises (l : List Int) : Prop := (0 :: l).Pairwise (· < ·) ∧ ∀ x ∈ l, x ≤ 16
instance (l : List Int) : Decidable (Rises l) := inferInstanceAs (Decidable (_ ∧ _))
theorem Rises.take {l : List Int} (h : Rises l) (k : Nat) : Rises (l.take k) :=
  ⟨by have := h.1.take (i := k + 1); simpa using this, fun x hx => h.2 x (List.mem_of_mem_take hx)⟩
theorem zB3 (v : Value) (l : List Int) (u : Value) (m : List Int) (w : World) (hl : z6 l.length) (hm : z6 m.length) (hv : Rd w [] (Res.sl v l.length (l.flatMap I1))) (hu : Rd w [] (Res.sl u m.length (m.flatMap I1))) : Rets Tryz.prog 11 #[v, u] w fun u_ w' => u_ = .bool (decide (l = m)) ∧ Own w [] [] w' := by
  refine zd Tryz.func11 rfl Tryz.ntmps11 (Own.start w) ?_
  refine zB (zE rfl (zA (zK (zB (zE rfl (zA (zX ?_)))))))
  refine yu (fun (k : Nat) => [(0, v), (1, u), (5, Vj k)]) (fun (k : Nat) => k ≤ l.length ∧ k ≤ m.length ∧ l.take k = m.take k) (fun (k : Nat) => []) (fun (k : Nat) => l.length - k) (fun w' hw => ⟨0, ⟨rfl, rfl, rfl, trivial⟩, ⟨Nat.zero_le _, Nat.zero_le _, by simp⟩, hw⟩) (fun k g hΦ => ?_)
  refine zK (zB (zC rfl (zC rfl (yM (pR hv) rfl rfl (yA rfl rfl rfl (zC rfl (z7 (q := ((k : Nat) : Int) < ((l.length : Nat) : Int)) 4 4 [14, 13, 12, 11] (((k : Nat) : Int) < ((m.length : Nat) : Int)) rfl rfl rfl rfl rfl rfl trivial rfl (fun h2_4 => ?_) (fun g2_9 => ?_))))))))
  ·
   refine zQ rfl (gT h2_4) (zC rfl (zQ rfl (gT h2_4) (zC rfl (zQ rfl (gT h2_4) (yM (pR hu) rfl rfl (zQ rfl (gT h2_4) (yA rfl rfl rfl ?_)))))))
   exact yH rfl (fun _ hw => hw)
  refine zA (zT rfl (fun c1 => ?_) (fun c1 => ?_))
  ·
   refine zI (zK (zX (yy (by kernel_rfl) (by kernel_rfl) (zS rfl (zL) (zS rfl (zL) (zS rfl (z4 (pR hv) 1 k rfl rfl rfl (by omega)) (zS rfl (yL (pR hv) 1 k 0 (fun _ => rfl) rfl rfl (by omega) rfl) (zS rfl (zL) (zS rfl (zL) (zS rfl (z4 (pR hu) 1 k rfl rfl rfl (by omega)) (zS rfl (yL (pR hu) 1 k 0 (fun _ => rfl) rfl rfl (by omega) rfl) (zS rfl (zJ1 rfl rfl) ?_))))))))))))
   refine kT (zT rfl (fun c2 => ?_) (fun c2 => ?_))
   ·
    refine zB (zE rfl (zA ?_))
    exact zN (zu (v := .bool false) rfl rfl (fun w' hw => ⟨(by rw [decide_eq_false]; rintro rfl; exact c2 rfl), hw.drop⟩))
   ·
    refine zI (zb (zC rfl (zt rfl rfl (zq (by omega)) rfl (zE rfl ?_))))
    exact ze (fun w' hw => ⟨k + 1, ⟨rfl, rfl, rfl, trivial⟩, ⟨by omega, by omega, by rw [yJ (by omega), yJ (by omega), hΦ.2.2, Decidable.not_not.1 c2]⟩, hw, (by omega)⟩)
  ·
   refine z8 rfl (zB (zC rfl (yM (pR hv) rfl rfl (zC rfl (yM (pR hu) rfl rfl (yX rfl rfl rfl (zE rfl (zA ?_))))))))
   exact zN (zu (v := .bool (decide (((l.length : Nat) : Int) = ((m.length : Nat) : Int)))) rfl rfl (fun w' hw => ⟨(by congr 1; exact decide_eq_decide.2 ⟨fun h => by have h2 := hΦ.2.2; rw [List.take_of_length_le (by omega), List.take_of_length_le (by omega)] at h2; exact h2, fun h => by rw [h]⟩), hw.drop⟩))
structure ConfD.wf (x : ConfD) : Prop where
  vs : z6 x.vs.length
  ls : z6 x.ls.length
def ConfD.ok (x : ConfD) : Prop := ((Rises x.vs ∧ Rises x.ls) ∧ 0 < x.vs.length) ∧ ∀ v ∈ x.vs, v ∉ x.ls
instance (x : ConfD) : Decidable x.ok := inferInstanceAs (Decidable ((_ ∧ _) ∧ _))
def ConfD.enc (c : ConfD) : List UInt8 := zIi c.vs ++ zIi c.ls
structure ConfD.few (c : ConfD) : Prop where
  vs : c.vs.length ≤ 1000000000
  ls : c.ls.length ≤ 1000000000
theorem ConfD.few.wf {c : ConfD} (h : c.few) : c.wf := ⟨by have := h.vs; show _ ≤ _; omega, by have := h.ls; show _ ≤ _; omega⟩
theorem zIN (v : Value) (l : List Int) (w : World) (hl : z6 l.length) (hv : Rd w [] (Res.sl v l.length (l.flatMap I1))) : Rets Tryz.prog 33 #[v] w fun u_ w' => ∃ (r : Value), u_ = r ∧ Own w [] [Res.vec 3 1 r l.length (l.flatMap I1)] w' := by
  refine zd Tryz.func33 rfl Tryz.ntmps33 (Own.start w) ?_
  refine zB (zE rfl (zA (zK (zB (zC rfl (zCj (len := l.length) (cs := (l.flatMap I1)) (by kernel_rfl) rfl rfl (fun w' hw' => Own.rd hv hw') rfl (zA (kp rfl (fun c1 => ?_) (fun c1 => ?_)))))))))
  ·
   refine zB (zE rfl (zA ?_))
   exact zN (zu (v := .slice none 0 0) rfl rfl (fun w' hw => ⟨.slice none 0 0, rfl, by obtain ⟨_, h0⟩ := Sl.isNil hv.φ c1; rw [List.eq_nil_of_length_eq_zero h0]; exact yW hw 3 1⟩))
  ·
   refine zI (zB (yl (e := 3) (sz := 1) (vs := []) (by kernel_rfl) rfl rfl (by simp [Value.cells]) (by decide) rfl (fun b5 => zC rfl (yq (g := I1) (sz := 1) (by' := 8) (fun _ => rfl) (l := []) (l' := l) (by simp [cell1, I1]) 0 (by kernel_rfl) rfl rfl rfl (fun w' hw' => Own.rd hv hw') (by first | omega | (simp; omega)) (by decide) rfl (fun v7 => zE rfl (zA ?_))))))
   exact zN (zu (v := v7) rfl rfl (fun w' hw => ⟨v7, rfl, hw⟩))
def cnt (vs ids : List Int) : Nat := (vs.filter (· ∈ ids)).length
def ConfD.quorum (c : ConfD) (ids : List Int) : Prop := c.ok ∧ c.vs.length < 2 * cnt c.vs ids
instance (c : ConfD) (ids : List Int) : Decidable (c.quorum ids) := inferInstanceAs (Decidable (_ ∧ _))
structure ConfA where
  vs : List Int
  ls : List Int
  deriving DecidableEq
def ConfD.a (c : ConfD) : ConfA := ⟨c.vs, c.ls⟩
def ConfA.ok (x : ConfA) : Prop := ((Rises x.vs ∧ Rises x.ls) ∧ 0 < x.vs.length) ∧ ∀ v ∈ x.vs, v ∉ x.ls
instance (x : ConfA) : Decidable x.ok := inferInstanceAs (Decidable ((_ ∧ _) ∧ _))
def zKm : List UInt8 → Nat → Option (ConfA × Nat) := xG zKO fun vs => xG zKO fun ls => zAh ⟨vs, ls⟩
def zBn {α : Type} (p : List UInt8 → Nat → Option (α × Nat)) (ok : α → Prop) [DecidablePred ok] (b : List UInt8) : Option α := (p b 0).bind fun q => if q.2 = b.length ∧ ok q.1 then some q.1 else none
def ValPost {α : Type} (d : Option α) (x z : α) (e : Int) : Prop := (e = 0 ∧ d = some x) ∨ (e = 4 ∧ d = none ∧ x = z)
instance : DecidablePred ConfA.ok := fun x => inferInstance
def zIo (b : List UInt8) : Option ConfA := zBn zKm ConfA.ok b
theorem zGV {α : Type} {p : List UInt8 → Nat → Option (α × Nat)} {ok : α → Prop} [DecidablePred ok] {b : List UInt8} {x : α} {a : Nat} {bad : Bool} (h : RdS p b 0 false x a bad) (hn : bad = false → a = b.length → ¬ ok x) : zBn p ok b = none := by
  cases hp : p b 0 with
  | none => simp only [zBn, hp, Option.bind_none]
  | some q =>
    obtain ⟨h1, h2, h3⟩ := h.ok q.1 q.2 rfl hp
    simp only [zBn, hp, Option.bind_some]
    rw [if_neg]
    rintro ⟨h4, h5⟩
    rw [← h2] at h5
    exact hn h1 (h3.trans h4) h5
structure RefPost {α : Type} (d : Option α) (x : α) (f : Bool) : Prop where
  yes : f = true → d = some x
  no : f = false → d = none
theorem RefPost.off {α : Type} {p : List UInt8 → Nat → Option (α × Nat)} {ok : α → Prop} [DecidablePred ok] {b : List UInt8} {x : α} {a : Nat} {bad : Bool} (h : RdS p b 0 false x a bad) (hw : ¬ (bad = false ∧ a = b.length)) : RefPost (zBn p ok b) x false :=
  ⟨fun q => (by cases q), fun _ => zGV h fun h1 h2 _ => hw ⟨h1, h2⟩⟩
end Go.Proofs.YtcdiehplbmkmeaaGreat
