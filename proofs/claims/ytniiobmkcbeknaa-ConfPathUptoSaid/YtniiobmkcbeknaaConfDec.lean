/-
  A CONFIGURATION OF BYTES: the program's and the reference's.
-/
import Derived.Test.YtniiobmkcbeknaaIn2
import Derived.Test.YtniiobmkcbeknaaConfB
set_option linter.unusedVariables false
set_option maxRecDepth 10000
namespace Go.Proofs.Ytniiobmkcbeknaa
open Go Go.Sc Go.Proofs

structure ConfA where
  vs : List Int
  ls : List Int
  deriving DecidableEq
def ConfD.a (c : ConfD) : ConfA := ⟨c.vs, c.ls⟩
def ConfA.ok (x : ConfA) : Prop := ((Rises x.vs ∧ Rises x.ls) ∧ 0 < x.vs.length) ∧ ∀ v ∈ x.vs, v ∉ x.ls
instance (x : ConfA) : Decidable x.ok := inferInstanceAs (Decidable ((_ ∧ _) ∧ _))
def pConf : List UInt8 → Nat → Option (ConfA × Nat) := pBind pIds fun vs => pBind pIds fun ls => pPure ⟨vs, ls⟩
/-- What bytes are that are read to their end, and sound. -/
def whole {α : Type} (p : List UInt8 → Nat → Option (α × Nat)) (ok : α → Prop) [DecidablePred ok] (b : List UInt8) : Option α := (p b 0).bind fun q => if q.2 = b.length ∧ ok q.1 then some q.1 else none
def ValPost {α : Type} (d : Option α) (x z : α) (e : Int) : Prop := (e = 0 ∧ d = some x) ∨ (e = 4 ∧ d = none ∧ x = z)
instance : DecidablePred ConfA.ok := fun x => inferInstance
def decConf (b : List UInt8) : Option ConfA := whole pConf ConfA.ok b
theorem whole_yes {α : Type} {p : List UInt8 → Nat → Option (α × Nat)} {ok : α → Prop} [DecidablePred ok] {b : List UInt8} {x : α} {a : Nat} {bad : Bool} (h : RdS p b 0 false x a bad) (hb : bad = false) (ha : a = b.length) (hok : ok x) : whole p ok b = some x := by
  obtain ⟨_, h2⟩ := h.good hb
  simp only [whole, h2, Option.bind_some]
  rw [if_pos ⟨ha, hok⟩]
theorem whole_no {α : Type} {p : List UInt8 → Nat → Option (α × Nat)} {ok : α → Prop} [DecidablePred ok] {b : List UInt8} {x : α} {a : Nat} {bad : Bool} (h : RdS p b 0 false x a bad) (hn : bad = false → a = b.length → ¬ ok x) : whole p ok b = none := by
  cases hp : p b 0 with
  | none => simp only [whole, hp, Option.bind_none]
  | some q =>
    obtain ⟨h1, h2, h3⟩ := h.ok q.1 q.2 rfl hp
    simp only [whole, hp, Option.bind_some]
    rw [if_neg]
    rintro ⟨h4, h5⟩
    rw [← h2] at h5
    exact hn h1 (h3.trans h4) h5

theorem confRead_s (o : Nat) (v : Value) (b : List UInt8) (a : Nat) (bad : Bool) (w : World) (hl : LenOk b.length) (ha : a ≤ b.length) (hb : Rd w (fps [Res.row o 105 [v, .int .i64 (a : Nat), .bool bad]]) (Res.sl v b.length (b.map vb))) (hin : Own w (fps [Res.row o 105 [v, .int .i64 (a : Nat), .bool bad]]) [Res.row o 105 [v, .int .i64 (a : Nat), .bool bad]] w) : Rets Try.prog 55 #[.pointer (some ⟨o, 0, none⟩)] w fun u_ w' => ∃ (r1 : Value) (l1 : List Int) (r2 : Value) (l2 : List Int) (a' : Nat) (bad' : Bool), u_ = .agg #[r1, r2] ∧ RdS pConf b a bad (⟨l1, l2⟩ : ConfA) a' bad' ∧ l1.length ≤ 16 ∧ l2.length ≤ 16 ∧ Own w (fps [Res.row o 105 [v, .int .i64 (a : Nat), .bool bad]]) [Res.row o 105 [v, .int .i64 (a' : Nat), .bool bad'], Res.vec 3 1 r1 l1.length (l1.flatMap I1), Res.vec 3 1 r2 l2.length (l2.flatMap I1)] w' := by
  refine fn_enter (args := [.pointer (some ⟨o, 0, none⟩)]) Try.func55 rfl Try.ntmps55 rfl (show Own w (fps [Res.row o 105 [v, .int .i64 (a : Nat), .bool bad]]) [Res.row o 105 [v, .int .i64 (a : Nat), .bool bad]] w from hin) ?_
  refine c_reg ?_
  refine l_new (v := .agg #[.slice none 0 0, .slice none 0 0]) (by kernel_rfl) rfl (fun b2 => ?_)
  refine l_end ?_
  refine c_reg ?_
  refine l_mv rfl ?_
  refine l_call (by kernel_rfl) rfl rfl (fun w' hw => ?_)
  refine (inIds_s o v b a bad w' (by first | assumption | omega | (simp <;> omega) | (constructor <;> (first | omega | (simp only [LenOk]; omega) | (simp <;> omega)))) (by first | assumption | omega | (simp <;> omega) | (constructor <;> (first | omega | (simp only [LenOk]; omega) | (simp <;> omega)))) (hw.rdTo hb [0] rfl) (hw.give [0] rfl (by decide))).mono ?_
  rintro r1_ w1 ⟨_, l2_, a'3_, bad'4_, rfl, hf1_1, hf1_1_1, hO⟩
  have hq1 := hf1_1.le
  refine (?_ : CL _ _ _ _ _ _ (Own w (fps [Res.row o 105 [v, .int .i64 (a : Nat), .bool bad]]) [Res.row b2 24 [.slice none 0 0, .slice none 0 0], Res.row o 105 [v, .int .i64 (a'3_ : Nat), .bool bad'4_], Res.vec 3 1 r1_ l2_.length (l2_.flatMap I1)])) w1 (hw.frameL [0] rfl hO)
  refine l_mv rfl ?_
  refine l_call (by kernel_rfl) rfl rfl (fun w' hw => ?_)
  refine (inIds_s o v b a'3_ bad'4_ w' (by first | assumption | omega | (simp <;> omega) | (constructor <;> (first | omega | (simp only [LenOk]; omega) | (simp <;> omega)))) (by first | assumption | omega | (simp <;> omega) | (constructor <;> (first | omega | (simp only [LenOk]; omega) | (simp <;> omega)))) (hw.rdTo hb [1] rfl) (hw.give [1] rfl (by decide))).mono ?_
  rintro r5_ w1 ⟨_, l6_, a'7_, bad'8_, rfl, hf1_3, hf1_3_1, hO⟩
  refine (?_ : CL _ _ _ _ _ _ (Own w (fps [Res.row o 105 [v, .int .i64 (a : Nat), .bool bad]]) [Res.row b2 24 [.slice none 0 0, .slice none 0 0], Res.vec 3 1 r1_ l2_.length (l2_.flatMap I1), Res.row o 105 [v, .int .i64 (a'7_ : Nat), .bool bad'8_], Res.vec 3 1 r5_ l6_.length (l6_.flatMap I1)])) w1 (hw.frameL [1] rfl hO)
  refine l_haveO (fun w' hw => Own.cell1Vec (i := 1) rfl hw) (fun hc1_ => ?_)
  refine l_haveO (fun w' hw => Own.cell1Vec (i := 3) rfl hw) (fun hc2_ => ?_)
  refine l_bldc (cs := [r1_, r5_]) (z := [.slice none 0 0, .slice none 0 0]) (pl := [(0, 1), (1, 1)]) (by kernel_rfl) ⟨hc1_, hc2_, trivial⟩ (by kernel_rfl) rfl ?_
  refine l_stN (cs := [.slice none 0 0, .slice none 0 0]) (vs := [r1_, r5_]) 0 rfl rfl rfl (by kernel_rfl) (allc_cons hc1_ (allc_cons hc2_ allc_nil)) (Nat.le_of_ble_eq_true rfl) ?_
  refine l_end ?_
  exact c_ret (retc (cs := [r1_, r5_]) rfl rfl (by kernel_rfl) (Own.rowCells (i := 0) rfl) (fun w' hw => ⟨r1_, l2_, r5_, l6_, a'7_, bad'8_, rfl, hf1_1.bind (hf1_3.bind (RdS.pure _ hf1_3.le)), hf1_1_1, hf1_3_1, hw.sel [2, 1, 3] rfl (by decide)⟩))

-- no function (scupper/msg.kind[scupper/api.Conf]).value

-- no function scupper/msg.ToConf

-- no function (*scupper/scupperref03.In).conf

/-- The reference's outcome: what was read, and whether it is one. -/
structure RefPost {α : Type} (d : Option α) (x : α) (f : Bool) : Prop where
  yes : f = true → d = some x
  no : f = false → d = none
theorem RefPost.on {α : Type} {p : List UInt8 → Nat → Option (α × Nat)} {ok : α → Prop} [DecidablePred ok] {b : List UInt8} {x : α} {a : Nat} {bad f : Bool} (h : RdS p b 0 false x a bad) (hw : bad = false ∧ a = b.length) (hf : f = true ↔ ok x) : RefPost (whole p ok b) x f :=
  ⟨fun q => whole_yes h hw.1 hw.2 (hf.1 q), fun q => whole_no h fun _ _ h3 => by rw [hf.2 h3] at q; cases q⟩
theorem RefPost.off {α : Type} {p : List UInt8 → Nat → Option (α × Nat)} {ok : α → Prop} [DecidablePred ok] {b : List UInt8} {x : α} {a : Nat} {bad : Bool} (h : RdS p b 0 false x a bad) (hw : ¬ (bad = false ∧ a = b.length)) : RefPost (whole p ok b) x false :=
  ⟨fun q => (by cases q), fun _ => whole_no h fun h1 h2 _ => hw ⟨h1, h2⟩⟩

-- no function scupper/scupperref03.ToConf
end Go.Proofs.Ytniiobmkcbeknaa
