import Derived.Test.YtkkeknmkipkbmaaGreatConfA
import Derived.Test.YtkkeknmkipkbmaaGreatConfB
set_option linter.unusedSectionVars false
set_option linter.unusedSimpArgs false
set_option linter.unusedVariables false
set_option maxRecDepth 10000
namespace Go.Proofs.YtkkeknmkipkbmaaGreat
open Go Go.Sc Go.Proofs
structure ConfA where
  vs : List Int
  ls : List Int
  deriving DecidableEq
def ConfD.a (c : ConfD) : ConfA := ⟨c.vs, c.ls⟩
def ConfA.ok (x : ConfA) : Prop := ((Rises x.vs ∧ Rises x.ls) ∧ 0 < x.vs.length) ∧ ∀ v ∈ x.vs, v ∉ x.ls
instance (x : ConfA) : Decidable x.ok := inferInstanceAs (Decidable ((_ ∧ _) ∧ _))
def zHc : List UInt8 → Nat → Option (ConfA × Nat) := ji zH2 fun vs => ji zH2 fun ls => zBS ⟨vs, ls⟩
def zAk {α : Type} (p : List UInt8 → Nat → Option (α × Nat)) (ok : α → Prop) [DecidablePred ok] (b : List UInt8) : Option α := (p b 0).bind fun q => if q.2 = b.length ∧ ok q.1 then some q.1 else none
def ValPost {α : Type} (d : Option α) (x z : α) (e : Int) : Prop := (e = 0 ∧ d = some x) ∨ (e = 4 ∧ d = none ∧ x = z)
instance : DecidablePred ConfA.ok := fun x => inferInstance
def x0 (b : List UInt8) : Option ConfA := zAk zHc ConfA.ok b
theorem zFD {α : Type} {p : List UInt8 → Nat → Option (α × Nat)} {ok : α → Prop} [DecidablePred ok] {b : List UInt8} {x : α} {a : Nat} {bad : Bool} (h : RdS p b 0 false x a bad) (hb : bad = false) (ha : a = b.length) (hok : ok x) : zAk p ok b = some x := by
  obtain ⟨_, h2⟩ := h.good hb
  simp only [zAk, h2, Option.bind_some]
  rw [if_pos ⟨ha, hok⟩]
theorem zDk {α : Type} {p : List UInt8 → Nat → Option (α × Nat)} {ok : α → Prop} [DecidablePred ok] {b : List UInt8} {x : α} {a : Nat} {bad : Bool} (h : RdS p b 0 false x a bad) (hn : bad = false → a = b.length → ¬ ok x) : zAk p ok b = none := by
  cases hp : p b 0 with
  | none => simp only [zAk, hp, Option.bind_none]
  | some q =>
    obtain ⟨h1, h2, h3⟩ := h.ok q.1 q.2 rfl hp
    simp only [zAk, hp, Option.bind_some]
    rw [if_neg]
    rintro ⟨h4, h5⟩
    rw [← h2] at h5
    exact hn h1 (h3.trans h4) h5
theorem zEI {S : List Nat} (o : Nat) (v : Value) (b : List UInt8) (a : Nat) (bad : Bool) (w : World) (hl : zd b.length) (ha : a ≤ b.length) (hin : Own w S [Res.row o 231 [v, Vj a, .bool bad]] w) (hb : Rd w S (Res.sl v b.length (b.map vb))) : Rets Tryz.prog 153 #[.pointer (some ⟨o, 0, none⟩)] w fun u_ w' => ∃ (r1 : Value) (l1 : List Int) (r2 : Value) (l2 : List Int) (a' : Nat) (bad' : Bool), u_ = .agg #[r1, r2] ∧ RdS zHc b a bad (⟨l1, l2⟩ : ConfA) a' bad' ∧ l1.length ≤ 16 ∧ l2.length ≤ 16 ∧ Own w S [Res.row o 231 [v, Vj a', .bool bad'], Res.vec 3 1 r1 l1.length (l1.flatMap I1), Res.vec 3 1 r2 l2.length (l2.flatMap I1)] w' := by
  refine zT Tryz.func153 rfl Tryz.ntmps153 hin ?_
  refine zB (yS (v := .agg #[.slice none 0 0, .slice none 0 0]) (by kernel_rfl) rfl (fun b2 => zA (zB (zD rfl (zH rfl rfl (fun w' hw => (zEe o v b a bad w' (by first | assumption | omega | (simp <;> omega) | (constructor <;> (first | omega | (simp only [zd]; omega) | (simp <;> omega)))) (by first | omega | (simp <;> omega)) (hw.give [0] rfl (by decide)) (hw.rdTo hb [0] rfl)).mono ?_))))))
  rintro r1_ w1 ⟨_, l2_, a'3_, bad'4_, rfl, hf1_1, hf1_1_1, hO⟩
  have hq1 := hf1_1.le
  refine (?_ : CL _ _ _ _ _ _ (Own w S [Res.row b2 35 [.slice none 0 0, .slice none 0 0], Res.row o 231 [v, Vj a'3_, .bool bad'4_], Res.vec 3 1 r1_ l2_.length (l2_.flatMap I1)])) w1 (hw.frameL [0] rfl hO)
  refine zD rfl (zH rfl rfl (fun w' hw => (zEe o v b a'3_ bad'4_ w' (by first | assumption | omega | (simp <;> omega) | (constructor <;> (first | omega | (simp only [zd]; omega) | (simp <;> omega)))) (by first | omega | (simp <;> omega)) (hw.give [1] rfl (by decide)) (hw.rdTo hb [1] rfl)).mono ?_))
  rintro r5_ w1 ⟨_, l6_, a'7_, bad'8_, rfl, hf1_3, hf1_3_1, hO⟩
  refine (?_ : CL _ _ _ _ _ _ (Own w S [Res.row b2 35 [.slice none 0 0, .slice none 0 0], Res.vec 3 1 r1_ l2_.length (l2_.flatMap I1), Res.row o 231 [v, Vj a'7_, .bool bad'8_], Res.vec 3 1 r5_ l6_.length (l6_.flatMap I1)])) w1 (hw.frameL [1] rfl hO)
  refine zg (fun w' hw => Own.cell1Vec (i := 1) rfl hw) (fun hc1_ => ?_)
  refine zg (fun w' hw => Own.cell1Vec (i := 3) rfl hw) (fun hc2_ => ?_)
  refine zCW (cs := [r1_, r5_]) (z := [.slice none 0 0, .slice none 0 0]) (pl := [(0, 1), (1, 1)]) (by kernel_rfl) ⟨hc1_, hc2_, trivial⟩ (by kernel_rfl) rfl (yH 0 rfl rfl rfl (zF hc1_ (zF hc2_ zw)) rfl (zA ?_))
  exact zY (jt (cs := [r1_, r5_]) rfl rfl (by kernel_rfl) (Own.rowCells (i := 0) rfl) (fun w' hw => ⟨r1_, l2_, r5_, l6_, a'7_, bad'8_, rfl, hf1_1.bind (hf1_3.bind (RdS.pure _ hf1_3.le)), hf1_1_1, hf1_3_1, hw.sel [2, 1, 3] rfl (by decide)⟩))
theorem zDd (v : Value) (b : List UInt8) (w : World) (hl : zd b.length) (hb : Rd w [] (Res.sl v b.length (b.map vb))) : Rets Tryz.prog 159 #[.agg #[.func (.func 147) #[] #[], .func (.func 151) #[] #[], .func (.func 153) #[] #[]], v] w fun u_ w' => ∃ (r1 : Value) (l1 : List Int) (r2 : Value) (l2 : List Int) (e : Int), u_ = .tuple #[.agg #[r1, r2], Vi e] ∧ ValPost (x0 b) (⟨l1, l2⟩ : ConfA) ⟨[], []⟩ e ∧ l1.length ≤ 16 ∧ l2.length ≤ 16 ∧ Own w [] [Res.vec 3 1 r1 l1.length (l1.flatMap I1), Res.vec 3 1 r2 l2.length (l2.flatMap I1)] w' := by
  refine zT Tryz.func159 rfl Tryz.ntmps159 (Own.start w) ?_
  refine zB (z7 rfl rfl (fun b2 => yS (v := .agg #[.slice none 0 0, .slice none 0 0]) (by kernel_rfl) rfl (fun b4 => zK rfl (zA (zB (zD rfl (zCW (cs := [v, Vi 0, .bool false]) (z := [.slice none 0 0, Vi 0, .bool false]) (pl := [(0, 1), (1, 1), (2, 1)]) (by kernel_rfl) ⟨(Sl.cell1 (Rd.φ hb)), trivial⟩ (by kernel_rfl) rfl (z7 rfl rfl (fun b10 => zK rfl (zA (zB (zJ (o := 2) rfl rfl ?_))))))))))))
  refine zM 0 (v := .func (.func 153) #[] #[]) rfl rfl rfl rfl (zD rfl (yh (fst := []) (cap := []) rfl (by kernel_rfl) rfl rfl (fun w' hw => (zEI b10 v b 0 false w' (by first | assumption | omega | (simp <;> omega) | (constructor <;> (first | omega | (simp only [zd]; omega) | (simp <;> omega)))) (by first | omega | (simp <;> omega)) (hw.give [2] rfl (by decide)) (hw.rdTo hb [2] rfl)).mono ?_)))
  rintro _ w1 ⟨r11_, l12_, r23_, l24_, a'5_, bad'6_, rfl, hf2_3, hf2_3_1, hf2_3_2, hO⟩
  refine (?_ : CL _ _ _ _ _ _ (Own w [] [Res.row b2 193 [.func (.func 147) #[] #[], .func (.func 151) #[] #[], .func (.func 153) #[] #[]], Res.row b4 35 [.slice none 0 0, .slice none 0 0], Res.row b10 231 [v, Vj a'5_, .bool bad'6_], Res.vec 3 1 r11_ l12_.length (l12_.flatMap I1), Res.vec 3 1 r23_ l24_.length (l24_.flatMap I1)])) w1 (hw.frameL [2] rfl hO)
  refine zg (fun w' hw => Own.cell1Vec (i := 3) rfl hw) (fun hc1_ => ?_)
  refine zg (fun w' hw => Own.cell1Vec (i := 4) rfl hw) (fun hc2_ => ?_)
  refine yH 1 rfl rfl rfl (zF hc1_ (zF hc2_ zw)) rfl (zA (zQ (zB (zD rfl (zh rfl rfl (zJ (o := 2) rfl rfl (zM 2 (v := .bool bad'6_) rfl rfl rfl rfl (zD rfl (yT (q := bad'6_ = true) 7 4 [26, 25, 24, 23, 22, 21, 20] (((a'5_ : Nat) : Int) ≠ ((b.length : Nat) : Int)) rfl rfl (xC _) rfl rfl rfl trivial rfl (fun h3_4 => ?_) (fun g3_12 => ?_))))))))))
  ·
   refine zO rfl (bF h3_4) (zD rfl (zO rfl (bF h3_4) (zh rfl rfl (zO rfl (bF h3_4) (zJ (o := 1) rfl rfl (zO rfl (bF h3_4) (zM 2 (v := Vj a'5_) rfl rfl rfl rfl (zO rfl (bF h3_4) (zD rfl (zO rfl (bF h3_4) (zq (pR hb) rfl rfl (zO rfl (bF h3_4) ?_))))))))))))
   refine kR rfl rfl rfl ?_
   exact yK rfl (fun _ hw => hw)
  refine zD rfl (yT (q := (bad'6_ = true) ∨ (((a'5_ : Nat) : Int) ≠ ((b.length : Nat) : Int))) 5 13 [33, 32, 31, 30, 29] (¬ (({ vv := r11_, vs := l12_, lv := r23_, ls := l24_ } : ConfD).ok)) rfl rfl rfl rfl rfl rfl trivial rfl (fun h3_13 => ?_) (fun g3_19 => ?_))
  ·
   refine zO rfl (gF h3_13) (zJ (o := 0) rfl rfl (zO rfl (gF h3_13) (zM 0 (v := .func (.func 147) #[] #[]) rfl rfl rfl rfl (zO rfl (gF h3_13) (yY (cs := [r11_, r23_]) 1 rfl rfl rfl (zO rfl (gF h3_13) (yh (fst := []) (cap := []) rfl (by kernel_rfl) rfl rfl (fun w' hw => (xl ({ vv := r11_, vs := l12_, lv := r23_, ls := l24_ } : ConfD) w' (by first | assumption | omega | (simp <;> omega) | (constructor <;> (first | omega | (simp only [zd]; omega) | (simp <;> omega)))) ⟨(hw.rdVec0 3 rfl), (hw.rdVec0 4 rfl)⟩).mono ?_))))))))
   rintro _ w1 ⟨rfl, hO⟩
   refine (?_ : CL _ _ _ _ _ _ (Own w [] [Res.row b2 193 [.func (.func 147) #[] #[], .func (.func 151) #[] #[], .func (.func 153) #[] #[]], Res.row b4 35 [r11_, r23_], Res.row b10 231 [v, Vj a'5_, .bool bad'6_], Res.vec 3 1 r11_ l12_.length (l12_.flatMap I1), Res.vec 3 1 r23_ l24_.length (l24_.flatMap I1)])) w1 (hw.frame0 hO)
   refine zO rfl (gF h3_13) (xM (q := ({ vv := r11_, vs := l12_, lv := r23_, ls := l24_ } : ConfD).ok) rfl rfl ?_)
   exact yK rfl (fun _ hw => hw)
  refine zA (zf rfl (fun c1 => ?_) (fun c1 => ?_))
  ·
   refine zB (yS (v := .agg #[.slice none 0 0, .slice none 0 0]) (by kernel_rfl) rfl (fun b7 => zA (zB (yY (cs := [.slice none 0 0, .slice none 0 0]) 5 rfl rfl rfl (yH 1 rfl rfl rfl (xx rfl) rfl (zK rfl (zA ?_)))))))
   exact zY (zCL (cs := [.slice none 0 0, .slice none 0 0]) (v := Vi 4) rfl rfl rfl (by kernel_rfl) (Own.rowCells (i := 1) rfl) (fun w' hw => ⟨.slice none 0 0, [], .slice none 0 0, [], 4, rfl, .inr ⟨rfl, zDk hf2_3 (fun h1 h2 h3 => c1.elim (fun h => h.elim (fun h => by rw [h1] at h; cases h) (fun h => h (by omega))) (fun h => h h3)), rfl⟩, (by simp), (by simp), zt (zt hw.drop 3 1) 3 1⟩))
  ·
   refine zR (zB (yY (cs := [r11_, r23_]) 1 rfl rfl rfl (yH 1 rfl rfl rfl (zF hc1_ (zF hc2_ zw)) rfl (zK rfl (zA ?_)))))
   exact zY (zCL (cs := [r11_, r23_]) (v := Vi 0) rfl rfl rfl (by kernel_rfl) (Own.rowCells (i := 1) rfl) (fun w' hw => ⟨r11_, l12_, r23_, l24_, 0, rfl, .inl ⟨rfl, zFD hf2_3 (by cases h : bad'6_; rfl; exact absurd (.inl (.inl h)) c1) (by have : ¬ (a'5_ : Int) ≠ b.length := fun h => c1 (.inl (.inr h)); omega) (Decidable.not_not.1 fun h => c1 (.inr h))⟩, hf2_3_1, hf2_3_2, hw.sel [3, 4] rfl (by decide)⟩))
theorem zDI (v : Value) (b : List UInt8) (w : World) (hl : zd b.length) (hb : Rd w [] (Res.sl v b.length (b.map vb))) : Rets Tryz.prog 118 #[v] w fun u_ w' => ∃ (r1 : Value) (l1 : List Int) (r2 : Value) (l2 : List Int) (e : Int), u_ = .tuple #[.agg #[r1, r2], Vi e] ∧ ValPost (x0 b) (⟨l1, l2⟩ : ConfA) ⟨[], []⟩ e ∧ l1.length ≤ 16 ∧ l2.length ≤ 16 ∧ Own w [] [Res.vec 3 1 r1 l1.length (l1.flatMap I1), Res.vec 3 1 r2 l2.length (l2.flatMap I1)] w' := by
  refine zT Tryz.func118 rfl Tryz.ntmps118 (Own.start w) ?_
  refine zB (yS (v := .agg #[.slice none 0 0, .slice none 0 0]) (by kernel_rfl) rfl (fun b2 => zK rfl (zA (zB (zH rfl rfl (fun w' hw => (zA1 w').mono ?_))))))
  rintro _ w1 ⟨rfl, hO⟩
  refine (?_ : CL _ _ _ _ _ _ (Own w [] [Res.row b2 35 [.slice none 0 0, .slice none 0 0]])) w1 (hw.frame0 hO)
  refine zD rfl (zH rfl rfl (fun w' hw => (zDd v b w' (by first | assumption | omega | (simp <;> omega) | (constructor <;> (first | omega | (simp only [zd]; omega) | (simp <;> omega)))) (hw.rd0 hb)).mono ?_))
  rintro _ w1 ⟨r11_, l12_, r23_, l24_, e5_, rfl, hf1_2, hf1_2_1, hf1_2_2, hO⟩
  refine (?_ : CL _ _ _ _ _ _ (Own w [] [Res.row b2 35 [.slice none 0 0, .slice none 0 0], Res.vec 3 1 r11_ l12_.length (l12_.flatMap I1), Res.vec 3 1 r23_ l24_.length (l24_.flatMap I1)])) w1 (hw.frame0 hO)
  refine yE (vs := [.agg #[r11_, r23_], Vi e5_]) rfl rfl rfl (yE (vs := [.agg #[r11_, r23_], Vi e5_]) rfl rfl rfl ?_)
  refine zg (fun w' hw => Own.cell1Vec (i := 1) rfl hw) (fun hc1_ => ?_)
  refine zg (fun w' hw => Own.cell1Vec (i := 2) rfl hw) (fun hc2_ => ?_)
  refine yH 0 rfl rfl rfl (zF hc1_ (zF hc2_ zw)) rfl (zK rfl (zA ?_))
  exact zY (zCL (cs := [r11_, r23_]) (v := Vi e5_) rfl rfl rfl (by kernel_rfl) (Own.rowCells (i := 0) rfl) (fun w' hw => ⟨r11_, l12_, r23_, l24_, e5_, rfl, hf1_2, hf1_2_1, hf1_2_2, hw.sel [1, 2] rfl (by decide)⟩))
structure RefPost {α : Type} (d : Option α) (x : α) (f : Bool) : Prop where
  yes : f = true → d = some x
  no : f = false → d = none
theorem RefPost.off {α : Type} {p : List UInt8 → Nat → Option (α × Nat)} {ok : α → Prop} [DecidablePred ok] {b : List UInt8} {x : α} {a : Nat} {bad : Bool} (h : RdS p b 0 false x a bad) (hw : ¬ (bad = false ∧ a = b.length)) : RefPost (zAk p ok b) x false :=
  ⟨fun q => (by cases q), fun _ => zDk h fun h1 h2 _ => hw ⟨h1, h2⟩⟩
end Go.Proofs.YtkkeknmkipkbmaaGreat
