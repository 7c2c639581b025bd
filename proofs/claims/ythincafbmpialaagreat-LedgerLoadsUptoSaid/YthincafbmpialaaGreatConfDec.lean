import Derived.Test.YthincafbmpialaaGreatRefW
import Derived.Test.YthincafbmpialaaGreatConfA
import Derived.Test.YthincafbmpialaaGreatIn2
set_option linter.unusedSectionVars false
set_option linter.unusedSimpArgs false
set_option linter.unusedVariables false
set_option maxRecDepth 10000
namespace Go.Proofs.YthincafbmpialaaGreat
open Go Go.Sc Go.Proofs
def ConfD.enc (c : ConfD) : List UInt8 := zHJ c.vs ++ zHJ c.ls
structure ConfD.few (c : ConfD) : Prop where
  vs : c.vs.length ≤ 1000000000
  ls : c.ls.length ≤ 1000000000
theorem ConfD.few.wf {c : ConfD} (h : c.few) : c.wf := ⟨by have := h.vs; show _ ≤ _; omega, by have := h.ls; show _ ≤ _; omega⟩
theorem zJ5 {ns : List Int} : ∀ n ∈ ns.map u64, n < 18446744073709551616 := fun n hn => by obtain ⟨a, _, rfl⟩ := List.mem_map.1 hn; exact xM a
theorem zBq (ns : List Int) : (zHJ ns).length ≤ 9 * (ns.length + 1) := by
  have := xv (ns := u64 ns.length :: ns.map u64) (by intro n hn; rcases List.mem_cons.1 hn with rfl | h; exact xM _; exact zJ5 n h)
  simpa [zHJ] using this
theorem zKD (w : World) : Rets Tryz.prog 139 #[] w fun u_ w' => u_ = .agg #[.func (.func 173) #[] #[], .func (.func 178) #[] #[], .func (.func 180) #[] #[]] ∧ Own w [] [] w' := by
  refine zW Tryz.func139 rfl Tryz.ntmps139 (Own.start w) ?_
  refine zB (yF (v := .agg #[.nilFunc, .nilFunc, .nilFunc]) (by kernel_rfl) rfl (fun b0 => zA (zB (yQ (cs := [.func (.func 173) #[] #[], .func (.func 178) #[] #[], .func (.func 180) #[] #[]]) (z := [.nilFunc, .nilFunc, .nilFunc]) (pl := [(0, 1), (1, 1), (2, 1)]) (by kernel_rfl) (by kernel_rfl) rfl (zh 0 rfl rfl rfl (z8 rfl) rfl (zA ?_))))))
  exact zM (ji (cs := [.func (.func 173) #[] #[], .func (.func 178) #[] #[], .func (.func 180) #[] #[]]) rfl rfl (by kernel_rfl) (Own.rowCells (i := 0) rfl) (fun w' hw => ⟨rfl, hw.drop⟩))
def cnt (vs ids : List Int) : Nat := (vs.filter (· ∈ ids)).length
def ConfD.quorum (c : ConfD) (ids : List Int) : Prop := c.ok ∧ c.vs.length < 2 * cnt c.vs ids
instance (c : ConfD) (ids : List Int) : Decidable (c.quorum ids) := inferInstanceAs (Decidable (_ ∧ _))
structure ConfA where
  vs : List Int
  ls : List Int
  deriving DecidableEq
def ConfD.a (c : ConfD) : ConfA := ⟨c.vs, c.ls⟩
def ConfA.ok (x : ConfA) : Prop := ((Rises x.vs ∧ Rises x.ls) ∧ 0 < x.vs.length) ∧ ∀ v ∈ x.vs, v ∉ x.ls
instance (x : ConfA) : Decidable x.ok := inferInstanceAs (Decidable ((_ ∧ _) ∧ _))
def zJM : List UInt8 → Nat → Option (ConfA × Nat) := yE zHB fun vs => yE zHB fun ls => yk ⟨vs, ls⟩
def jy {α : Type} (p : List UInt8 → Nat → Option (α × Nat)) (ok : α → Prop) [DecidablePred ok] (b : List UInt8) : Option α := (p b 0).bind fun q => if q.2 = b.length ∧ ok q.1 then some q.1 else none
def ValPost {α : Type} (d : Option α) (x z : α) (e : Int) : Prop := (e = 0 ∧ d = some x) ∨ (e = 4 ∧ d = none ∧ x = z)
instance : DecidablePred ConfA.ok := fun x => inferInstance
def zB2 (b : List UInt8) : Option ConfA := jy zJM ConfA.ok b
theorem zAb {α : Type} {p : List UInt8 → Nat → Option (α × Nat)} {ok : α → Prop} [DecidablePred ok] {b : List UInt8} {x : α} {a : Nat} {bad : Bool} (h : RdS p b 0 false x a bad) (hb : bad = false) (ha : a = b.length) (hok : ok x) : jy p ok b = some x := by
  obtain ⟨_, h2⟩ := h.good hb
  simp only [jy, h2, Option.bind_some]
  rw [if_pos ⟨ha, hok⟩]
theorem zAK {α : Type} {p : List UInt8 → Nat → Option (α × Nat)} {ok : α → Prop} [DecidablePred ok] {b : List UInt8} {x : α} {a : Nat} {bad : Bool} (h : RdS p b 0 false x a bad) (hn : bad = false → a = b.length → ¬ ok x) : jy p ok b = none := by
  cases hp : p b 0 with
  | none => simp only [jy, hp, Option.bind_none]
  | some q =>
    obtain ⟨h1, h2, h3⟩ := h.ok q.1 q.2 rfl hp
    simp only [jy, hp, Option.bind_some]
    rw [if_neg]
    rintro ⟨h4, h5⟩
    rw [← h2] at h5
    exact hn h1 (h3.trans h4) h5
theorem zFX {S : List Nat} (o : Nat) (v : Value) (b : List UInt8) (a : Nat) (bad : Bool) (w : World) (hl : zb b.length) (ha : a ≤ b.length) (hin : Own w S [Res.row o 185 [v, Vj a, .bool bad]] w) (hb : Rd w S (Res.sl v b.length (b.map vb))) : Rets Tryz.prog 180 #[.pointer (some ⟨o, 0, none⟩)] w fun u_ w' => ∃ (r1 : Value) (l1 : List Int) (r2 : Value) (l2 : List Int) (a' : Nat) (bad' : Bool), u_ = .agg #[r1, r2] ∧ RdS zJM b a bad (⟨l1, l2⟩ : ConfA) a' bad' ∧ l1.length ≤ 16 ∧ l2.length ≤ 16 ∧ Own w S [Res.row o 185 [v, Vj a', .bool bad'], Res.vec 3 1 r1 l1.length (l1.flatMap I1), Res.vec 3 1 r2 l2.length (l2.flatMap I1)] w' := by
  refine zW Tryz.func180 rfl Tryz.ntmps180 hin ?_
  refine zB (yF (v := .agg #[.slice none 0 0, .slice none 0 0]) (by kernel_rfl) rfl (fun b2 => zA (zB (zC rfl (zJ rfl rfl (fun w' hw => (zGZ o v b a bad w' (by first | assumption | omega | (simp <;> omega) | (constructor <;> (first | omega | (simp only [zb]; omega) | (simp <;> omega)))) (by first | omega | (simp <;> omega)) (hw.give [0] rfl (by decide)) (hw.rdTo hb [0] rfl)).mono ?_))))))
  rintro r1_ w1 ⟨_, l2_, a'3_, bad'4_, rfl, hf1_1, hf1_1_1, hO⟩
  have hq1 := hf1_1.le
  refine (?_ : CL _ _ _ _ _ _ (Own w S [Res.row b2 166 [.slice none 0 0, .slice none 0 0], Res.row o 185 [v, Vj a'3_, .bool bad'4_], Res.vec 3 1 r1_ l2_.length (l2_.flatMap I1)])) w1 (hw.frameL [0] rfl hO)
  refine zC rfl (zJ rfl rfl (fun w' hw => (zGZ o v b a'3_ bad'4_ w' (by first | assumption | omega | (simp <;> omega) | (constructor <;> (first | omega | (simp only [zb]; omega) | (simp <;> omega)))) (by first | omega | (simp <;> omega)) (hw.give [1] rfl (by decide)) (hw.rdTo hb [1] rfl)).mono ?_))
  rintro r5_ w1 ⟨_, l6_, a'7_, bad'8_, rfl, hf1_3, hf1_3_1, hO⟩
  refine (?_ : CL _ _ _ _ _ _ (Own w S [Res.row b2 166 [.slice none 0 0, .slice none 0 0], Res.vec 3 1 r1_ l2_.length (l2_.flatMap I1), Res.row o 185 [v, Vj a'7_, .bool bad'8_], Res.vec 3 1 r5_ l6_.length (l6_.flatMap I1)])) w1 (hw.frameL [1] rfl hO)
  refine yS (fun w' hw => Own.cell1Vec (i := 1) rfl hw) (fun hc1_ => ?_)
  refine yS (fun w' hw => Own.cell1Vec (i := 3) rfl hw) (fun hc2_ => ?_)
  refine zA0 (cs := [r1_, r5_]) (z := [.slice none 0 0, .slice none 0 0]) (pl := [(0, 1), (1, 1)]) (by kernel_rfl) ⟨hc1_, hc2_, trivial⟩ (by kernel_rfl) rfl (zh 0 rfl rfl rfl (zn hc1_ (zn hc2_ yt)) rfl (zA ?_))
  exact zM (ji (cs := [r1_, r5_]) rfl rfl (by kernel_rfl) (Own.rowCells (i := 0) rfl) (fun w' hw => ⟨r1_, l2_, r5_, l6_, a'7_, bad'8_, rfl, hf1_1.bind (hf1_3.bind (RdS.pure _ hf1_3.le)), hf1_1_1, hf1_3_1, hw.sel [2, 1, 3] rfl (by decide)⟩))
theorem zEi (v : Value) (b : List UInt8) (w : World) (hl : zb b.length) (hb : Rd w [] (Res.sl v b.length (b.map vb))) : Rets Tryz.prog 140 #[.agg #[.func (.func 173) #[] #[], .func (.func 178) #[] #[], .func (.func 180) #[] #[]], v] w fun u_ w' => ∃ (r1 : Value) (l1 : List Int) (r2 : Value) (l2 : List Int) (e : Int), u_ = .tuple #[.agg #[r1, r2], Vi e] ∧ ValPost (zB2 b) (⟨l1, l2⟩ : ConfA) ⟨[], []⟩ e ∧ l1.length ≤ 16 ∧ l2.length ≤ 16 ∧ Own w [] [Res.vec 3 1 r1 l1.length (l1.flatMap I1), Res.vec 3 1 r2 l2.length (l2.flatMap I1)] w' := by
  refine zW Tryz.func140 rfl Tryz.ntmps140 (Own.start w) ?_
  refine zB (yc rfl rfl (fun b2 => yF (v := .agg #[.slice none 0 0, .slice none 0 0]) (by kernel_rfl) rfl (fun b4 => zD rfl (zA (zB (zC rfl (zA0 (cs := [v, Vi 0, .bool false]) (z := [.slice none 0 0, Vi 0, .bool false]) (pl := [(0, 1), (1, 1), (2, 1)]) (by kernel_rfl) ⟨(Sl.cell1 (Rd.φ hb)), trivial⟩ (by kernel_rfl) rfl (yc rfl rfl (fun b10 => zD rfl (zA (zB (zP (o := 2) rfl rfl ?_))))))))))))
  refine zS 0 (v := .func (.func 180) #[] #[]) rfl rfl rfl rfl (zC rfl (xI (fst := []) (cap := []) rfl (by kernel_rfl) rfl rfl (fun w' hw => (zFX b10 v b 0 false w' (by first | assumption | omega | (simp <;> omega) | (constructor <;> (first | omega | (simp only [zb]; omega) | (simp <;> omega)))) (by first | omega | (simp <;> omega)) (hw.give [2] rfl (by decide)) (hw.rdTo hb [2] rfl)).mono ?_)))
  rintro _ w1 ⟨r11_, l12_, r23_, l24_, a'5_, bad'6_, rfl, hf2_3, hf2_3_1, hf2_3_2, hO⟩
  refine (?_ : CL _ _ _ _ _ _ (Own w [] [Res.row b2 207 [.func (.func 173) #[] #[], .func (.func 178) #[] #[], .func (.func 180) #[] #[]], Res.row b4 166 [.slice none 0 0, .slice none 0 0], Res.row b10 185 [v, Vj a'5_, .bool bad'6_], Res.vec 3 1 r11_ l12_.length (l12_.flatMap I1), Res.vec 3 1 r23_ l24_.length (l24_.flatMap I1)])) w1 (hw.frameL [2] rfl hO)
  refine yS (fun w' hw => Own.cell1Vec (i := 3) rfl hw) (fun hc1_ => ?_)
  refine yS (fun w' hw => Own.cell1Vec (i := 4) rfl hw) (fun hc2_ => ?_)
  refine zh 1 rfl rfl rfl (zn hc1_ (zn hc2_ yt)) rfl (zA (zL (zB (zC rfl (zm rfl rfl (zP (o := 2) rfl rfl (zS 2 (v := .bool bad'6_) rfl rfl rfl rfl (zC rfl (yY (q := bad'6_ = true) 7 4 [26, 25, 24, 23, 22, 21, 20] (((a'5_ : Nat) : Int) ≠ ((b.length : Nat) : Int)) rfl rfl (yb _) rfl rfl rfl trivial rfl (fun h3_4 => ?_) (fun g3_12 => ?_))))))))))
  ·
   refine zO rfl (bF h3_4) (zC rfl (zO rfl (bF h3_4) (zm rfl rfl (zO rfl (bF h3_4) (zP (o := 1) rfl rfl (zO rfl (bF h3_4) (zS 2 (v := Vj a'5_) rfl rfl rfl rfl (zO rfl (bF h3_4) (zC rfl (zO rfl (bF h3_4) (yC (pR hb) rfl rfl (zO rfl (bF h3_4) ?_))))))))))))
   refine xn rfl rfl rfl ?_
   exact yL rfl (fun _ hw => hw)
  refine zC rfl (yY (q := (bad'6_ = true) ∨ (((a'5_ : Nat) : Int) ≠ ((b.length : Nat) : Int))) 5 13 [33, 32, 31, 30, 29] (¬ (({ vv := r11_, vs := l12_, lv := r23_, ls := l24_ } : ConfD).ok)) rfl rfl rfl rfl rfl rfl trivial rfl (fun h3_13 => ?_) (fun g3_19 => ?_))
  ·
   refine zO rfl (gF h3_13) (zP (o := 0) rfl rfl (zO rfl (gF h3_13) (zS 0 (v := .func (.func 173) #[] #[]) rfl rfl rfl rfl (zO rfl (gF h3_13) (yN (cs := [r11_, r23_]) 1 rfl rfl rfl (zO rfl (gF h3_13) (xI (fst := []) (cap := []) rfl (by kernel_rfl) rfl rfl (fun w' hw => (zCy ({ vv := r11_, vs := l12_, lv := r23_, ls := l24_ } : ConfD) w' (by first | assumption | omega | (simp <;> omega) | (constructor <;> (first | omega | (simp only [zb]; omega) | (simp <;> omega)))) ⟨(hw.rdVec0 3 rfl), (hw.rdVec0 4 rfl)⟩).mono ?_))))))))
   rintro _ w1 ⟨rfl, hO⟩
   refine (?_ : CL _ _ _ _ _ _ (Own w [] [Res.row b2 207 [.func (.func 173) #[] #[], .func (.func 178) #[] #[], .func (.func 180) #[] #[]], Res.row b4 166 [r11_, r23_], Res.row b10 185 [v, Vj a'5_, .bool bad'6_], Res.vec 3 1 r11_ l12_.length (l12_.flatMap I1), Res.vec 3 1 r23_ l24_.length (l24_.flatMap I1)])) w1 (hw.frame0 hO)
   refine zO rfl (gF h3_13) (xo (q := ({ vv := r11_, vs := l12_, lv := r23_, ls := l24_ } : ConfD).ok) rfl rfl ?_)
   exact yL rfl (fun _ hw => hw)
  refine zA (zU rfl (fun c1 => ?_) (fun c1 => ?_))
  ·
   refine zB (yF (v := .agg #[.slice none 0 0, .slice none 0 0]) (by kernel_rfl) rfl (fun b7 => zA (zB (yN (cs := [.slice none 0 0, .slice none 0 0]) 5 rfl rfl rfl (zh 1 rfl rfl rfl (z8 rfl) rfl (zD rfl (zA ?_)))))))
   exact zM (yH (cs := [.slice none 0 0, .slice none 0 0]) (v := Vi 4) rfl rfl rfl (by kernel_rfl) (Own.rowCells (i := 1) rfl) (fun w' hw => ⟨.slice none 0 0, [], .slice none 0 0, [], 4, rfl, .inr ⟨rfl, zAK hf2_3 (fun h1 h2 h3 => c1.elim (fun h => h.elim (fun h => by rw [h1] at h; cases h) (fun h => h (by omega))) (fun h => h h3)), rfl⟩, (by simp), (by simp), yK (yK hw.drop 3 1) 3 1⟩))
  ·
   refine zK (zB (yN (cs := [r11_, r23_]) 1 rfl rfl rfl (zh 1 rfl rfl rfl (zn hc1_ (zn hc2_ yt)) rfl (zD rfl (zA ?_)))))
   exact zM (yH (cs := [r11_, r23_]) (v := Vi 0) rfl rfl rfl (by kernel_rfl) (Own.rowCells (i := 1) rfl) (fun w' hw => ⟨r11_, l12_, r23_, l24_, 0, rfl, .inl ⟨rfl, zAb hf2_3 (by cases h : bad'6_; rfl; exact absurd (.inl (.inl h)) c1) (by have : ¬ (a'5_ : Int) ≠ b.length := fun h => c1 (.inl (.inr h)); omega) (Decidable.not_not.1 fun h => c1 (.inr h))⟩, hf2_3_1, hf2_3_2, hw.sel [3, 4] rfl (by decide)⟩))
theorem zIT (v : Value) (b : List UInt8) (w : World) (hl : zb b.length) (hb : Rd w [] (Res.sl v b.length (b.map vb))) : Rets Tryz.prog 124 #[v] w fun u_ w' => ∃ (r1 : Value) (l1 : List Int) (r2 : Value) (l2 : List Int) (e : Int), u_ = .tuple #[.agg #[r1, r2], Vi e] ∧ ValPost (zB2 b) (⟨l1, l2⟩ : ConfA) ⟨[], []⟩ e ∧ l1.length ≤ 16 ∧ l2.length ≤ 16 ∧ Own w [] [Res.vec 3 1 r1 l1.length (l1.flatMap I1), Res.vec 3 1 r2 l2.length (l2.flatMap I1)] w' := by
  refine zW Tryz.func124 rfl Tryz.ntmps124 (Own.start w) ?_
  refine zB (yF (v := .agg #[.slice none 0 0, .slice none 0 0]) (by kernel_rfl) rfl (fun b2 => zD rfl (zA (zB (zJ rfl rfl (fun w' hw => (zKD w').mono ?_))))))
  rintro _ w1 ⟨rfl, hO⟩
  refine (?_ : CL _ _ _ _ _ _ (Own w [] [Res.row b2 166 [.slice none 0 0, .slice none 0 0]])) w1 (hw.frame0 hO)
  refine zC rfl (zJ rfl rfl (fun w' hw => (zEi v b w' (by first | assumption | omega | (simp <;> omega) | (constructor <;> (first | omega | (simp only [zb]; omega) | (simp <;> omega)))) (hw.rd0 hb)).mono ?_))
  rintro _ w1 ⟨r11_, l12_, r23_, l24_, e5_, rfl, hf1_2, hf1_2_1, hf1_2_2, hO⟩
  refine (?_ : CL _ _ _ _ _ _ (Own w [] [Res.row b2 166 [.slice none 0 0, .slice none 0 0], Res.vec 3 1 r11_ l12_.length (l12_.flatMap I1), Res.vec 3 1 r23_ l24_.length (l24_.flatMap I1)])) w1 (hw.frame0 hO)
  refine zp (vs := [.agg #[r11_, r23_], Vi e5_]) rfl rfl rfl (zp (vs := [.agg #[r11_, r23_], Vi e5_]) rfl rfl rfl ?_)
  refine yS (fun w' hw => Own.cell1Vec (i := 1) rfl hw) (fun hc1_ => ?_)
  refine yS (fun w' hw => Own.cell1Vec (i := 2) rfl hw) (fun hc2_ => ?_)
  refine zh 0 rfl rfl rfl (zn hc1_ (zn hc2_ yt)) rfl (zD rfl (zA ?_))
  exact zM (yH (cs := [r11_, r23_]) (v := Vi e5_) rfl rfl rfl (by kernel_rfl) (Own.rowCells (i := 0) rfl) (fun w' hw => ⟨r11_, l12_, r23_, l24_, e5_, rfl, hf1_2, hf1_2_1, hf1_2_2, hw.sel [1, 2] rfl (by decide)⟩))
theorem zFT {S : List Nat} (o : Nat) (v : Value) (b : List UInt8) (a : Nat) (bad : Bool) (w : World) (hl : zb b.length) (ha : a ≤ b.length) (hin : Own w S [Res.row o 171 [v, Vj a, .bool bad]] w) (hb : Rd w S (Res.sl v b.length (b.map vb))) : Rets Tryz.prog 129 #[.pointer (some ⟨o, 0, none⟩)] w fun u_ w' => ∃ (r1 : Value) (l1 : List Int) (r2 : Value) (l2 : List Int) (a' : Nat) (bad' : Bool), u_ = .agg #[r1, r2] ∧ RdS zJM b a bad (⟨l1, l2⟩ : ConfA) a' bad' ∧ l1.length ≤ 16 ∧ l2.length ≤ 16 ∧ Own w S [Res.row o 171 [v, Vj a', .bool bad'], Res.vec 3 1 r1 l1.length (l1.flatMap I1), Res.vec 3 1 r2 l2.length (l2.flatMap I1)] w' := by
  refine zW Tryz.func129 rfl Tryz.ntmps129 hin ?_
  refine zB (yF (v := .agg #[.slice none 0 0, .slice none 0 0]) (by kernel_rfl) rfl (fun b2 => zA (zB (yQ (cs := [.slice none 0 0, .slice none 0 0]) (z := [.slice none 0 0, .slice none 0 0]) (pl := [(0, 1), (1, 1)]) (by kernel_rfl) (by kernel_rfl) rfl (yF (v := .agg #[.slice none 0 0, .slice none 0 0]) (by kernel_rfl) rfl (fun b3 => zh 2 rfl rfl rfl (z8 rfl) rfl (zA (zB (zC rfl (zJ rfl rfl (fun w' hw => (zEc o v b a bad w' (by first | assumption | omega | (simp <;> omega) | (constructor <;> (first | omega | (simp only [zb]; omega) | (simp <;> omega)))) (by first | omega | (simp <;> omega)) (hw.give [0] rfl (by decide)) (hw.rdTo hb [0] rfl)).mono ?_)))))))))))
  rintro r1_ w1 ⟨_, l2_, a'3_, bad'4_, rfl, hf2_1, hf2_1_1, hO⟩
  have hq1 := hf2_1.le
  refine (?_ : CL _ _ _ _ _ _ (Own w S [Res.row b2 166 [.slice none 0 0, .slice none 0 0], Res.row b3 166 [.slice none 0 0, .slice none 0 0], Res.row o 171 [v, Vj a'3_, .bool bad'4_], Res.vec 3 1 r1_ l2_.length (l2_.flatMap I1)])) w1 (hw.frameL [0] rfl hO)
  refine zP (o := 0) rfl rfl ?_
  refine yS (fun w' hw => Own.cell1Vec (i := 3) rfl hw) (fun hc1_ => ?_)
  refine yi (cs := [.slice none 0 0, .slice none 0 0]) 1 rfl rfl rfl hc1_ rfl (zA (zB (zC rfl (zJ rfl rfl (fun w' hw => (zEc o v b a'3_ bad'4_ w' (by first | assumption | omega | (simp <;> omega) | (constructor <;> (first | omega | (simp only [zb]; omega) | (simp <;> omega)))) (by first | omega | (simp <;> omega)) (hw.give [2] rfl (by decide)) (hw.rdTo hb [2] rfl)).mono ?_)))))
  rintro r5_ w1 ⟨_, l6_, a'7_, bad'8_, rfl, hf3_1, hf3_1_1, hO⟩
  refine (?_ : CL _ _ _ _ _ _ (Own w S [Res.row b2 166 [.slice none 0 0, .slice none 0 0], Res.row b3 166 [r1_, .slice none 0 0], Res.vec 3 1 r1_ l2_.length (l2_.flatMap I1), Res.row o 171 [v, Vj a'7_, .bool bad'8_], Res.vec 3 1 r5_ l6_.length (l6_.flatMap I1)])) w1 (hw.frameL [2] rfl hO)
  refine zP (o := 1) rfl rfl ?_
  refine yS (fun w' hw => Own.cell1Vec (i := 4) rfl hw) (fun hc2_ => ?_)
  refine yi (cs := [r1_, .slice none 0 0]) 1 rfl rfl rfl hc2_ rfl (zA (zB (yN (cs := [r1_, r5_]) 1 rfl rfl rfl (zh 0 rfl rfl rfl (zn hc1_ (zn hc2_ yt)) rfl (zA ?_)))))
  exact zM (ji (cs := [r1_, r5_]) rfl rfl (by kernel_rfl) (Own.rowCells (i := 0) rfl) (fun w' hw => ⟨r1_, l2_, r5_, l6_, a'7_, bad'8_, rfl, hf2_1.bind (hf3_1.bind (RdS.pure _ hf3_1.le)), hf2_1_1, hf3_1_1, hw.sel [3, 2, 4] rfl (by decide)⟩))
structure RefPost {α : Type} (d : Option α) (x : α) (f : Bool) : Prop where
  yes : f = true → d = some x
  no : f = false → d = none
theorem RefPost.on {α : Type} {p : List UInt8 → Nat → Option (α × Nat)} {ok : α → Prop} [DecidablePred ok] {b : List UInt8} {x : α} {a : Nat} {bad f : Bool} (h : RdS p b 0 false x a bad) (hw : bad = false ∧ a = b.length) (hf : f = true ↔ ok x) : RefPost (jy p ok b) x f :=
  ⟨fun q => zAb h hw.1 hw.2 (hf.1 q), fun q => zAK h fun _ _ h3 => by rw [hf.2 h3] at q; cases q⟩
theorem RefPost.off {α : Type} {p : List UInt8 → Nat → Option (α × Nat)} {ok : α → Prop} [DecidablePred ok] {b : List UInt8} {x : α} {a : Nat} {bad : Bool} (h : RdS p b 0 false x a bad) (hw : ¬ (bad = false ∧ a = b.length)) : RefPost (jy p ok b) x false :=
  ⟨fun q => (by cases q), fun _ => zAK h fun h1 h2 _ => hw ⟨h1, h2⟩⟩
theorem zHH (v : Value) (b : List UInt8) (w : World) (hl : zb b.length) (hb : Rd w [] (Res.sl v b.length (b.map vb))) : Rets Tryz.prog 96 #[v] w fun u_ w' => ∃ (r1 : Value) (l1 : List Int) (r2 : Value) (l2 : List Int) (f : Bool), u_ = .tuple #[.agg #[r1, r2], .bool f] ∧ RefPost (zB2 b) (⟨l1, l2⟩ : ConfA) f ∧ l1.length ≤ 16 ∧ l2.length ≤ 16 ∧ Own w [] [Res.vec 3 1 r1 l1.length (l1.flatMap I1), Res.vec 3 1 r2 l2.length (l2.flatMap I1)] w' := by
  refine zW Tryz.func96 rfl Tryz.ntmps96 (Own.start w) ?_
  refine zB (yF (v := .agg #[.slice none 0 0, .slice none 0 0]) (by kernel_rfl) rfl (fun b2 => zD rfl (zA (zB (zC rfl (zA0 (cs := [v, Vi 0, .bool false]) (z := [.slice none 0 0, Vi 0, .bool false]) (pl := [(0, 1), (1, 1), (2, 1)]) (by kernel_rfl) ⟨(Sl.cell1 (Rd.φ hb)), trivial⟩ (by kernel_rfl) rfl (yc rfl rfl (fun b8 => zD rfl (zA (zB (zC rfl (zJ rfl rfl (fun w' hw => ?_)))))))))))))
  refine (zFT b8 v b 0 false w' (by first | assumption | omega | (simp <;> omega) | (constructor <;> (first | omega | (simp only [zb]; omega) | (simp <;> omega)))) (by first | omega | (simp <;> omega)) (hw.give [1] rfl (by decide)) (hw.rdTo hb [1] rfl)).mono ?_
  rintro _ w1 ⟨r11_, l12_, r23_, l24_, a'5_, bad'6_, rfl, hf2_1, hf2_1_1, hf2_1_2, hO⟩
  refine (?_ : CL _ _ _ _ _ _ (Own w [] [Res.row b2 166 [.slice none 0 0, .slice none 0 0], Res.row b8 171 [v, Vj a'5_, .bool bad'6_], Res.vec 3 1 r11_ l12_.length (l12_.flatMap I1), Res.vec 3 1 r23_ l24_.length (l24_.flatMap I1)])) w1 (hw.frameL [1] rfl hO)
  refine yF (v := .agg #[.slice none 0 0, .slice none 0 0]) (by kernel_rfl) rfl (fun b5 => ?_)
  refine yS (fun w' hw => Own.cell1Vec (i := 2) rfl hw) (fun hc1_ => ?_)
  refine yS (fun w' hw => Own.cell1Vec (i := 3) rfl hw) (fun hc2_ => ?_)
  refine zh 4 rfl rfl rfl (zn hc1_ (zn hc2_ yt)) rfl (zA (zL (zg [2, 3, 4] rfl (by decide) (by kernel_rfl) (fun w' hw hS => zF 0 rfl (kI (cs := [r11_, r23_]) 2 rfl rfl) hS (zF 1 rfl (zQ) hS (zY 2 rfl hw (zJ rfl rfl (fun w' hw => (zGX b8 v b a'5_ bad'6_ w' (by first | assumption | omega | (simp <;> omega) | (constructor <;> (first | omega | (simp only [zb]; omega) | (simp <;> omega)))) (hw.give [1] rfl (by decide)) (hw.rdTo hb [1] rfl)).mono ?_))))))))
  rintro _ w1 ⟨rfl, hO⟩
  refine (?_ : CL _ _ _ _ _ _ (Own w [] [Res.row b2 166 [.slice none 0 0, .slice none 0 0], Res.vec 3 1 r11_ l12_.length (l12_.flatMap I1), Res.vec 3 1 r23_ l24_.length (l24_.flatMap I1), Res.row b5 166 [r11_, r23_], Res.row b8 171 [v, Vj a'5_, .bool bad'6_]])) w1 (hw.frameL [1] rfl hO)
  refine zG [1, 2, 3] rfl (by decide) (fun w' hw hS => zF 3 rfl (zQ) hS ?_)
  by_cases g3_3 : bad'6_ = false ∧ a'5_ = b.length
  ·
   refine zl 4 rfl rfl (gT g3_3) (kI (cs := [r11_, r23_]) 2 rfl rfl) hS (zY 5 rfl hw (zO rfl (gT g3_3) (zJ rfl rfl (fun w' hw => (zEr ({ vv := r11_, vs := l12_, lv := r23_, ls := l24_ } : ConfD) w' (by first | assumption | omega | (simp <;> omega) | (constructor <;> (first | omega | (simp only [zb]; omega) | (simp <;> omega)))) ⟨(hw.rdVec0 1 rfl), (hw.rdVec0 2 rfl)⟩).mono ?_))))
   rintro _ w1 ⟨rfl, hO⟩
   refine (?_ : CL _ _ _ _ _ _ (Own w [] [Res.row b2 166 [.slice none 0 0, .slice none 0 0], Res.vec 3 1 r11_ l12_.length (l12_.flatMap I1), Res.vec 3 1 r23_ l24_.length (l24_.flatMap I1), Res.row b5 166 [r11_, r23_], Res.row b8 171 [v, Vj a'5_, .bool bad'6_]])) w1 (hw.frame0 hO)
   refine zG [1, 2, 3] rfl (by decide) (fun w' hw hS => zF 6 rfl (y5 (gT g3_3)) hS (zY 7 rfl hw (zh 0 rfl rfl rfl (zn hc1_ (zn hc2_ yt)) rfl (zG [1, 2, 3] rfl (by decide) (fun w' hw hS => zF 8 rfl (yx) hS (zR ?_))))))
   refine (?_ : C _ _ _ _ _ _ _ (Own w [] [Res.row b2 166 [r11_, r23_], Res.vec 3 1 r11_ l12_.length (l12_.flatMap I1), Res.vec 3 1 r23_ l24_.length (l24_.flatMap I1), Res.row b5 166 [r11_, r23_], Res.row b8 171 [v, Vj a'5_, .bool bad'6_]])) _ hw
   exact zM (yH (cs := [r11_, r23_]) (v := .bool (decide (({ vv := r11_, vs := l12_, lv := r23_, ls := l24_ } : ConfD).ok))) rfl rfl rfl (by kernel_rfl) (Own.rowCells (i := 0) rfl) (fun w' hw => ⟨r11_, l12_, r23_, l24_, (decide (({ vv := r11_, vs := l12_, lv := r23_, ls := l24_ } : ConfD).ok)), rfl, RefPost.on hf2_1 g3_3 decide_eq_true_iff, hf2_1_1, hf2_1_2, hw.sel [1, 2] rfl (by decide)⟩))
  ·
   refine zc 4 rfl rfl (gF g3_3) rfl hS (zc 5 rfl rfl (gF g3_3) rfl hS (zF 6 rfl (yz (gF g3_3)) hS (zY 7 rfl hw (zh 0 rfl rfl rfl (zn hc1_ (zn hc2_ yt)) rfl (zG [1, 2, 3] rfl (by decide) (fun w' hw hS => zF 8 rfl (yx) hS (zR ?_)))))))
   refine (?_ : C _ _ _ _ _ _ _ (Own w [] [Res.row b2 166 [r11_, r23_], Res.vec 3 1 r11_ l12_.length (l12_.flatMap I1), Res.vec 3 1 r23_ l24_.length (l24_.flatMap I1), Res.row b5 166 [r11_, r23_], Res.row b8 171 [v, Vj a'5_, .bool bad'6_]])) _ hw
   exact zM (yH (cs := [r11_, r23_]) (v := .bool false) rfl rfl rfl (by kernel_rfl) (Own.rowCells (i := 0) rfl) (fun w' hw => ⟨r11_, l12_, r23_, l24_, false, rfl, RefPost.off hf2_1 g3_3, hf2_1_1, hf2_1_2, hw.sel [1, 2] rfl (by decide)⟩))
end Go.Proofs.YthincafbmpialaaGreat
