/-
  A CONFIGURATION OF BYTES: the program's and the reference's.
-/
import Derived.Test.YthincafbmpialaaGreatIn2
import Derived.Test.YthincafbmpialaaGreatConfB
set_option linter.unusedVariables false
set_option maxRecDepth 10000
namespace Go.Proofs.YthincafbmpialaaGreat
open Go Go.Sc Go.Proofs

structure ConfA where
  vs : List Int
  ls : List Int
  deriving DecidableEq
def ConfD.a (c : ConfD) : ConfA := ⟨c.vs, c.ls⟩
def ConfA.ok (x : ConfA) : Prop := ((Rises x.vs ∧ Rises x.ls) ∧ 0 < x.vs.length) ∧ ∀ v ∈ x.vs, v ∉ x.ls
instance (x : ConfA) : Decidable x.ok := inferInstanceAs (Decidable ((_ ∧ _) ∧ _))
def pConf : List UInt8 → Nat → Option (ConfA × Nat) := pBind pIds fun vs => pBind pIds fun ls => pPure ⟨vs, ls⟩
/-- What bytes are that are read to their end, and sound. -/
def whole {α : Type} (p : List UInt8 → Nat → Option (α × Nat)) (ok : α → Prop) [DecidablePred ok] (b : List UInt8) : Option α := (p b 0).bind fun q => if q.2 = b.length ∧ ok q.1 then some q.1 else none
def ValPost {α : Type} (d : Option α) (x z : α) (e : Int) : Prop := (e = 0 ∧ d = some x) ∨ (e = 4 ∧ d = none ∧ x = z)
instance : DecidablePred ConfA.ok := fun x => inferInstance
def decConf (b : List UInt8) : Option ConfA := whole pConf ConfA.ok b
theorem whole_yes {α : Type} {p : List UInt8 → Nat → Option (α × Nat)} {ok : α → Prop} [DecidablePred ok] {b : List UInt8} {x : α} {a : Nat} {bad : Bool} (h : RdS p b 0 false x a bad) (hb : bad = false) (ha : a = b.length) (hok : ok x) : whole p ok b = some x := by
  obtain ⟨_, h2⟩ := h.good hb
  simp only [whole, h2, Option.bind_some]
  rw [if_pos ⟨ha, hok⟩]
theorem whole_no {α : Type} {p : List UInt8 → Nat → Option (α × Nat)} {ok : α → Prop} [DecidablePred ok] {b : List UInt8} {x : α} {a : Nat} {bad : Bool} (h : RdS p b 0 false x a bad) (hn : bad = false → a = b.length → ¬ ok x) : whole p ok b = none := by
  cases hp : p b 0 with
  | none => simp only [whole, hp, Option.bind_none]
  | some q =>
    obtain ⟨h1, h2, h3⟩ := h.ok q.1 q.2 rfl hp
    simp only [whole, hp, Option.bind_some]
    rw [if_neg]
    rintro ⟨h4, h5⟩
    rw [← h2] at h5
    exact hn h1 (h3.trans h4) h5

theorem confRead_s {S : List Nat} (o : Nat) (v : Value) (b : List UInt8) (a : Nat) (bad : Bool) (w : World) (hl : LenOk b.length) (ha : a ≤ b.length) (hin : Own w S [Res.row o 185 [v, Vj a, .bool bad]] w) (hb : Rd w S (Res.sl v b.length (b.map vb))) : Rets Tryz.prog 180 #[.pointer (some ⟨o, 0, none⟩)] w fun u_ w' => ∃ (r1 : Value) (l1 : List Int) (r2 : Value) (l2 : List Int) (a' : Nat) (bad' : Bool), u_ = .agg #[r1, r2] ∧ RdS pConf b a bad (⟨l1, l2⟩ : ConfA) a' bad' ∧ l1.length ≤ 16 ∧ l2.length ≤ 16 ∧ Own w S [Res.row o 185 [v, Vj a', .bool bad'], Res.vec 3 1 r1 l1.length (l1.flatMap I1), Res.vec 3 1 r2 l2.length (l2.flatMap I1)] w' := by
  refine fn_own Tryz.func180 rfl Tryz.ntmps180 hin ?_
  refine c_reg (l_new (v := .agg #[.slice none 0 0, .slice none 0 0]) (by kernel_rfl) rfl (fun b2 => l_end (c_reg (l_mv rfl (a_call rfl rfl (fun w' hw => (inIds_s o v b a bad w' (by first | assumption | omega | (simp <;> omega) | (constructor <;> (first | omega | (simp only [LenOk]; omega) | (simp <;> omega)))) (by first | omega | (simp <;> omega)) (hw.give [0] rfl (by decide)) (hw.rdTo hb [0] rfl)).mono ?_))))))
  rintro r1_ w1 ⟨_, l2_, a'3_, bad'4_, rfl, hf1_1, hf1_1_1, hO⟩
  have hq1 := hf1_1.le
  refine (?_ : CL _ _ _ _ _ _ (Own w S [Res.row b2 166 [.slice none 0 0, .slice none 0 0], Res.row o 185 [v, Vj a'3_, .bool bad'4_], Res.vec 3 1 r1_ l2_.length (l2_.flatMap I1)])) w1 (hw.frameL [0] rfl hO)
  refine l_mv rfl (a_call rfl rfl (fun w' hw => (inIds_s o v b a'3_ bad'4_ w' (by first | assumption | omega | (simp <;> omega) | (constructor <;> (first | omega | (simp only [LenOk]; omega) | (simp <;> omega)))) (by first | omega | (simp <;> omega)) (hw.give [1] rfl (by decide)) (hw.rdTo hb [1] rfl)).mono ?_))
  rintro r5_ w1 ⟨_, l6_, a'7_, bad'8_, rfl, hf1_3, hf1_3_1, hO⟩
  refine (?_ : CL _ _ _ _ _ _ (Own w S [Res.row b2 166 [.slice none 0 0, .slice none 0 0], Res.vec 3 1 r1_ l2_.length (l2_.flatMap I1), Res.row o 185 [v, Vj a'7_, .bool bad'8_], Res.vec 3 1 r5_ l6_.length (l6_.flatMap I1)])) w1 (hw.frameL [1] rfl hO)
  refine l_haveO (fun w' hw => Own.cell1Vec (i := 1) rfl hw) (fun hc1_ => ?_)
  refine l_haveO (fun w' hw => Own.cell1Vec (i := 3) rfl hw) (fun hc2_ => ?_)
  refine l_bldc (cs := [r1_, r5_]) (z := [.slice none 0 0, .slice none 0 0]) (pl := [(0, 1), (1, 1)]) (by kernel_rfl) ⟨hc1_, hc2_, trivial⟩ (by kernel_rfl) rfl (a_stN 0 rfl rfl rfl (allc_cons hc1_ (allc_cons hc2_ allc_nil)) rfl (l_end ?_))
  exact c_ret (retc (cs := [r1_, r5_]) rfl rfl (by kernel_rfl) (Own.rowCells (i := 0) rfl) (fun w' hw => ⟨r1_, l2_, r5_, l6_, a'7_, bad'8_, rfl, hf1_1.bind (hf1_3.bind (RdS.pure _ hf1_3.le)), hf1_1_1, hf1_3_1, hw.sel [2, 1, 3] rfl (by decide)⟩))

theorem confValue_s (v : Value) (b : List UInt8) (w : World) (hl : LenOk b.length) (hb : Rd w [] (Res.sl v b.length (b.map vb))) : Rets Tryz.prog 140 #[.agg #[.func (.func 173) #[] #[], .func (.func 178) #[] #[], .func (.func 180) #[] #[]], v] w fun u_ w' => ∃ (r1 : Value) (l1 : List Int) (r2 : Value) (l2 : List Int) (e : Int), u_ = .tuple #[.agg #[r1, r2], Vi e] ∧ ValPost (decConf b) (⟨l1, l2⟩ : ConfA) ⟨[], []⟩ e ∧ l1.length ≤ 16 ∧ l2.length ≤ 16 ∧ Own w [] [Res.vec 3 1 r1 l1.length (l1.flatMap I1), Res.vec 3 1 r2 l2.length (l2.flatMap I1)] w' := by
  refine fn_own Tryz.func140 rfl Tryz.ntmps140 (Own.start w) ?_
  refine c_reg (l_box rfl rfl (fun b2 => l_new (v := .agg #[.slice none 0 0, .slice none 0 0]) (by kernel_rfl) rfl (fun b4 => l_as rfl (l_end (c_reg (l_mv rfl (l_bldc (cs := [v, Vi 0, .bool false]) (z := [.slice none 0 0, Vi 0, .bool false]) (pl := [(0, 1), (1, 1), (2, 1)]) (by kernel_rfl) ⟨(Sl.cell1 (Rd.φ hb)), trivial⟩ (by kernel_rfl) rfl (l_box rfl rfl (fun b10 => l_as rfl (l_end (c_reg (a_fld (o := 2) rfl rfl ?_))))))))))))
  refine a_ldo 0 (v := .func (.func 180) #[] #[]) rfl rfl rfl rfl (l_mv rfl (l_callv (fst := []) (cap := []) rfl (by kernel_rfl) rfl rfl (fun w' hw => (confRead_s b10 v b 0 false w' (by first | assumption | omega | (simp <;> omega) | (constructor <;> (first | omega | (simp only [LenOk]; omega) | (simp <;> omega)))) (by first | omega | (simp <;> omega)) (hw.give [2] rfl (by decide)) (hw.rdTo hb [2] rfl)).mono ?_)))
  rintro _ w1 ⟨r11_, l12_, r23_, l24_, a'5_, bad'6_, rfl, hf2_3, hf2_3_1, hf2_3_2, hO⟩
  refine (?_ : CL _ _ _ _ _ _ (Own w [] [Res.row b2 207 [.func (.func 173) #[] #[], .func (.func 178) #[] #[], .func (.func 180) #[] #[]], Res.row b4 166 [.slice none 0 0, .slice none 0 0], Res.row b10 185 [v, Vj a'5_, .bool bad'6_], Res.vec 3 1 r11_ l12_.length (l12_.flatMap I1), Res.vec 3 1 r23_ l24_.length (l24_.flatMap I1)])) w1 (hw.frameL [2] rfl hO)
  refine l_haveO (fun w' hw => Own.cell1Vec (i := 3) rfl hw) (fun hc1_ => ?_)
  refine l_haveO (fun w' hw => Own.cell1Vec (i := 4) rfl hw) (fun hc2_ => ?_)
  refine a_stN 1 rfl rfl rfl (allc_cons hc1_ (allc_cons hc2_ allc_nil)) rfl (l_end (c_seq (c_reg (l_mv rfl (l_nck rfl rfl (a_fld (o := 2) rfl rfl (a_ldo 2 (v := .bool bad'6_) rfl rfl rfl rfl (l_mv rfl (l_bor (q := bad'6_ = true) 7 4 [26, 25, 24, 23, 22, 21, 20] (((a'5_ : Nat) : Int) ≠ ((b.length : Nat) : Int)) rfl rfl (bool_dec _) rfl rfl rfl trivial rfl (fun h3_4 => ?_) (fun g3_12 => ?_))))))))))
  ·
   refine l_on rfl (bF h3_4) (l_mv rfl (l_on rfl (bF h3_4) (l_nck rfl rfl (l_on rfl (bF h3_4) (a_fld (o := 1) rfl rfl (l_on rfl (bF h3_4) (a_ldo 2 (v := Vj a'5_) rfl rfl rfl rfl (l_on rfl (bF h3_4) (l_mv rfl (l_on rfl (bF h3_4) (a_lenP (pR hb) rfl rfl (l_on rfl (bF h3_4) ?_))))))))))))
   refine l_ne rfl rfl rfl ?_
   exact l_gp rfl (fun _ hw => hw)
  refine l_mv rfl (l_bor (q := (bad'6_ = true) ∨ (((a'5_ : Nat) : Int) ≠ ((b.length : Nat) : Int))) 5 13 [33, 32, 31, 30, 29] (¬ (({ vv := r11_, vs := l12_, lv := r23_, ls := l24_ } : ConfD).ok)) rfl rfl rfl rfl rfl rfl trivial rfl (fun h3_13 => ?_) (fun g3_19 => ?_))
  ·
   refine l_on rfl (gF h3_13) (a_fld (o := 0) rfl rfl (l_on rfl (gF h3_13) (a_ldo 0 (v := .func (.func 173) #[] #[]) rfl rfl rfl rfl (l_on rfl (gF h3_13) (a_ldr (cs := [r11_, r23_]) 1 rfl rfl rfl (l_on rfl (gF h3_13) (l_callv (fst := []) (cap := []) rfl (by kernel_rfl) rfl rfl (fun w' hw => (confSound_spec ({ vv := r11_, vs := l12_, lv := r23_, ls := l24_ } : ConfD) w' (by first | assumption | omega | (simp <;> omega) | (constructor <;> (first | omega | (simp only [LenOk]; omega) | (simp <;> omega)))) ⟨(hw.rdVec0 3 rfl), (hw.rdVec0 4 rfl)⟩).mono ?_))))))))
   rintro _ w1 ⟨rfl, hO⟩
   refine (?_ : CL _ _ _ _ _ _ (Own w [] [Res.row b2 207 [.func (.func 173) #[] #[], .func (.func 178) #[] #[], .func (.func 180) #[] #[]], Res.row b4 166 [r11_, r23_], Res.row b10 185 [v, Vj a'5_, .bool bad'6_], Res.vec 3 1 r11_ l12_.length (l12_.flatMap I1), Res.vec 3 1 r23_ l24_.length (l24_.flatMap I1)])) w1 (hw.frame0 hO)
   refine l_on rfl (gF h3_13) (l_notp (q := ({ vv := r11_, vs := l12_, lv := r23_, ls := l24_ } : ConfD).ok) rfl rfl ?_)
   exact l_gp rfl (fun _ hw => hw)
  refine l_end (c_dec rfl (fun c1 => ?_) (fun c1 => ?_))
  ·
   refine c_reg (l_new (v := .agg #[.slice none 0 0, .slice none 0 0]) (by kernel_rfl) rfl (fun b7 => l_end (c_reg (a_ldr (cs := [.slice none 0 0, .slice none 0 0]) 5 rfl rfl rfl (a_stN 1 rfl rfl rfl (allc rfl) rfl (l_as rfl (l_end ?_)))))))
   exact c_ret (retc2 (cs := [.slice none 0 0, .slice none 0 0]) (v := Vi 4) rfl rfl rfl (by kernel_rfl) (Own.rowCells (i := 1) rfl) (fun w' hw => ⟨.slice none 0 0, [], .slice none 0 0, [], 4, rfl, .inr ⟨rfl, whole_no hf2_3 (fun h1 h2 h3 => c1.elim (fun h => h.elim (fun h => by rw [h1] at h; cases h) (fun h => h (by omega))) (fun h => h h3)), rfl⟩, (by simp), (by simp), own_nil (own_nil hw.drop 3 1) 3 1⟩))
  ·
   refine c_skipC (c_reg (a_ldr (cs := [r11_, r23_]) 1 rfl rfl rfl (a_stN 1 rfl rfl rfl (allc_cons hc1_ (allc_cons hc2_ allc_nil)) rfl (l_as rfl (l_end ?_)))))
   exact c_ret (retc2 (cs := [r11_, r23_]) (v := Vi 0) rfl rfl rfl (by kernel_rfl) (Own.rowCells (i := 1) rfl) (fun w' hw => ⟨r11_, l12_, r23_, l24_, 0, rfl, .inl ⟨rfl, whole_yes hf2_3 (by cases h : bad'6_; rfl; exact absurd (.inl (.inl h)) c1) (by have : ¬ (a'5_ : Int) ≠ b.length := fun h => c1 (.inl (.inr h)); omega) (Decidable.not_not.1 fun h => c1 (.inr h))⟩, hf2_3_1, hf2_3_2, hw.sel [3, 4] rfl (by decide)⟩))

theorem toConf_s (v : Value) (b : List UInt8) (w : World) (hl : LenOk b.length) (hb : Rd w [] (Res.sl v b.length (b.map vb))) : Rets Tryz.prog 124 #[v] w fun u_ w' => ∃ (r1 : Value) (l1 : List Int) (r2 : Value) (l2 : List Int) (e : Int), u_ = .tuple #[.agg #[r1, r2], Vi e] ∧ ValPost (decConf b) (⟨l1, l2⟩ : ConfA) ⟨[], []⟩ e ∧ l1.length ≤ 16 ∧ l2.length ≤ 16 ∧ Own w [] [Res.vec 3 1 r1 l1.length (l1.flatMap I1), Res.vec 3 1 r2 l2.length (l2.flatMap I1)] w' := by
  refine fn_own Tryz.func124 rfl Tryz.ntmps124 (Own.start w) ?_
  refine c_reg (l_new (v := .agg #[.slice none 0 0, .slice none 0 0]) (by kernel_rfl) rfl (fun b2 => l_as rfl (l_end (c_reg (a_call rfl rfl (fun w' hw => (confs_s w').mono ?_))))))
  rintro _ w1 ⟨rfl, hO⟩
  refine (?_ : CL _ _ _ _ _ _ (Own w [] [Res.row b2 166 [.slice none 0 0, .slice none 0 0]])) w1 (hw.frame0 hO)
  refine l_mv rfl (a_call rfl rfl (fun w' hw => (confValue_s v b w' (by first | assumption | omega | (simp <;> omega) | (constructor <;> (first | omega | (simp only [LenOk]; omega) | (simp <;> omega)))) (hw.rd0 hb)).mono ?_))
  rintro _ w1 ⟨r11_, l12_, r23_, l24_, e5_, rfl, hf1_2, hf1_2_1, hf1_2_2, hO⟩
  refine (?_ : CL _ _ _ _ _ _ (Own w [] [Res.row b2 166 [.slice none 0 0, .slice none 0 0], Res.vec 3 1 r11_ l12_.length (l12_.flatMap I1), Res.vec 3 1 r23_ l24_.length (l24_.flatMap I1)])) w1 (hw.frame0 hO)
  refine l_ext (vs := [.agg #[r11_, r23_], Vi e5_]) rfl rfl rfl (l_ext (vs := [.agg #[r11_, r23_], Vi e5_]) rfl rfl rfl ?_)
  refine l_haveO (fun w' hw => Own.cell1Vec (i := 1) rfl hw) (fun hc1_ => ?_)
  refine l_haveO (fun w' hw => Own.cell1Vec (i := 2) rfl hw) (fun hc2_ => ?_)
  refine a_stN 0 rfl rfl rfl (allc_cons hc1_ (allc_cons hc2_ allc_nil)) rfl (l_as rfl (l_end ?_))
  exact c_ret (retc2 (cs := [r11_, r23_]) (v := Vi e5_) rfl rfl rfl (by kernel_rfl) (Own.rowCells (i := 0) rfl) (fun w' hw => ⟨r11_, l12_, r23_, l24_, e5_, rfl, hf1_2, hf1_2_1, hf1_2_2, hw.sel [1, 2] rfl (by decide)⟩))

theorem rconfRead_s {S : List Nat} (o : Nat) (v : Value) (b : List UInt8) (a : Nat) (bad : Bool) (w : World) (hl : LenOk b.length) (ha : a ≤ b.length) (hin : Own w S [Res.row o 171 [v, Vj a, .bool bad]] w) (hb : Rd w S (Res.sl v b.length (b.map vb))) : Rets Tryz.prog 129 #[.pointer (some ⟨o, 0, none⟩)] w fun u_ w' => ∃ (r1 : Value) (l1 : List Int) (r2 : Value) (l2 : List Int) (a' : Nat) (bad' : Bool), u_ = .agg #[r1, r2] ∧ RdS pConf b a bad (⟨l1, l2⟩ : ConfA) a' bad' ∧ l1.length ≤ 16 ∧ l2.length ≤ 16 ∧ Own w S [Res.row o 171 [v, Vj a', .bool bad'], Res.vec 3 1 r1 l1.length (l1.flatMap I1), Res.vec 3 1 r2 l2.length (l2.flatMap I1)] w' := by
  refine fn_own Tryz.func129 rfl Tryz.ntmps129 hin ?_
  refine c_reg (l_new (v := .agg #[.slice none 0 0, .slice none 0 0]) (by kernel_rfl) rfl (fun b2 => l_end (c_reg (l_bld (cs := [.slice none 0 0, .slice none 0 0]) (z := [.slice none 0 0, .slice none 0 0]) (pl := [(0, 1), (1, 1)]) (by kernel_rfl) (by kernel_rfl) rfl (l_new (v := .agg #[.slice none 0 0, .slice none 0 0]) (by kernel_rfl) rfl (fun b3 => a_stN 2 rfl rfl rfl (allc rfl) rfl (l_end (c_reg (l_mv rfl (a_call rfl rfl (fun w' hw => (rinIds_s o v b a bad w' (by first | assumption | omega | (simp <;> omega) | (constructor <;> (first | omega | (simp only [LenOk]; omega) | (simp <;> omega)))) (by first | omega | (simp <;> omega)) (hw.give [0] rfl (by decide)) (hw.rdTo hb [0] rfl)).mono ?_)))))))))))
  rintro r1_ w1 ⟨_, l2_, a'3_, bad'4_, rfl, hf2_1, hf2_1_1, hO⟩
  have hq1 := hf2_1.le
  refine (?_ : CL _ _ _ _ _ _ (Own w S [Res.row b2 166 [.slice none 0 0, .slice none 0 0], Res.row b3 166 [.slice none 0 0, .slice none 0 0], Res.row o 171 [v, Vj a'3_, .bool bad'4_], Res.vec 3 1 r1_ l2_.length (l2_.flatMap I1)])) w1 (hw.frameL [0] rfl hO)
  refine a_fld (o := 0) rfl rfl ?_
  refine l_haveO (fun w' hw => Own.cell1Vec (i := 3) rfl hw) (fun hc1_ => ?_)
  refine a_st (cs := [.slice none 0 0, .slice none 0 0]) 1 rfl rfl rfl hc1_ rfl (l_end (c_reg (l_mv rfl (a_call rfl rfl (fun w' hw => (rinIds_s o v b a'3_ bad'4_ w' (by first | assumption | omega | (simp <;> omega) | (constructor <;> (first | omega | (simp only [LenOk]; omega) | (simp <;> omega)))) (by first | omega | (simp <;> omega)) (hw.give [2] rfl (by decide)) (hw.rdTo hb [2] rfl)).mono ?_)))))
  rintro r5_ w1 ⟨_, l6_, a'7_, bad'8_, rfl, hf3_1, hf3_1_1, hO⟩
  refine (?_ : CL _ _ _ _ _ _ (Own w S [Res.row b2 166 [.slice none 0 0, .slice none 0 0], Res.row b3 166 [r1_, .slice none 0 0], Res.vec 3 1 r1_ l2_.length (l2_.flatMap I1), Res.row o 171 [v, Vj a'7_, .bool bad'8_], Res.vec 3 1 r5_ l6_.length (l6_.flatMap I1)])) w1 (hw.frameL [2] rfl hO)
  refine a_fld (o := 1) rfl rfl ?_
  refine l_haveO (fun w' hw => Own.cell1Vec (i := 4) rfl hw) (fun hc2_ => ?_)
  refine a_st (cs := [r1_, .slice none 0 0]) 1 rfl rfl rfl hc2_ rfl (l_end (c_reg (a_ldr (cs := [r1_, r5_]) 1 rfl rfl rfl (a_stN 0 rfl rfl rfl (allc_cons hc1_ (allc_cons hc2_ allc_nil)) rfl (l_end ?_)))))
  exact c_ret (retc (cs := [r1_, r5_]) rfl rfl (by kernel_rfl) (Own.rowCells (i := 0) rfl) (fun w' hw => ⟨r1_, l2_, r5_, l6_, a'7_, bad'8_, rfl, hf2_1.bind (hf3_1.bind (RdS.pure _ hf3_1.le)), hf2_1_1, hf3_1_1, hw.sel [3, 2, 4] rfl (by decide)⟩))

/-- The reference's outcome: what was read, and whether it is one. -/
structure RefPost {α : Type} (d : Option α) (x : α) (f : Bool) : Prop where
  yes : f = true → d = some x
  no : f = false → d = none
theorem RefPost.on {α : Type} {p : List UInt8 → Nat → Option (α × Nat)} {ok : α → Prop} [DecidablePred ok] {b : List UInt8} {x : α} {a : Nat} {bad f : Bool} (h : RdS p b 0 false x a bad) (hw : bad = false ∧ a = b.length) (hf : f = true ↔ ok x) : RefPost (whole p ok b) x f :=
  ⟨fun q => whole_yes h hw.1 hw.2 (hf.1 q), fun q => whole_no h fun _ _ h3 => by rw [hf.2 h3] at q; cases q⟩
theorem RefPost.off {α : Type} {p : List UInt8 → Nat → Option (α × Nat)} {ok : α → Prop} [DecidablePred ok] {b : List UInt8} {x : α} {a : Nat} {bad : Bool} (h : RdS p b 0 false x a bad) (hw : ¬ (bad = false ∧ a = b.length)) : RefPost (whole p ok b) x false :=
  ⟨fun q => (by cases q), fun _ => whole_no h fun h1 h2 _ => hw ⟨h1, h2⟩⟩

theorem rtoConf_s (v : Value) (b : List UInt8) (w : World) (hl : LenOk b.length) (hb : Rd w [] (Res.sl v b.length (b.map vb))) : Rets Tryz.prog 96 #[v] w fun u_ w' => ∃ (r1 : Value) (l1 : List Int) (r2 : Value) (l2 : List Int) (f : Bool), u_ = .tuple #[.agg #[r1, r2], .bool f] ∧ RefPost (decConf b) (⟨l1, l2⟩ : ConfA) f ∧ l1.length ≤ 16 ∧ l2.length ≤ 16 ∧ Own w [] [Res.vec 3 1 r1 l1.length (l1.flatMap I1), Res.vec 3 1 r2 l2.length (l2.flatMap I1)] w' := by
  refine fn_own Tryz.func96 rfl Tryz.ntmps96 (Own.start w) ?_
  refine c_reg (l_new (v := .agg #[.slice none 0 0, .slice none 0 0]) (by kernel_rfl) rfl (fun b2 => l_as rfl (l_end (c_reg (l_mv rfl (l_bldc (cs := [v, Vi 0, .bool false]) (z := [.slice none 0 0, Vi 0, .bool false]) (pl := [(0, 1), (1, 1), (2, 1)]) (by kernel_rfl) ⟨(Sl.cell1 (Rd.φ hb)), trivial⟩ (by kernel_rfl) rfl (l_box rfl rfl (fun b8 => l_as rfl (l_end (c_reg (l_mv rfl (a_call rfl rfl (fun w' hw => ?_)))))))))))))
  refine (rconfRead_s b8 v b 0 false w' (by first | assumption | omega | (simp <;> omega) | (constructor <;> (first | omega | (simp only [LenOk]; omega) | (simp <;> omega)))) (by first | omega | (simp <;> omega)) (hw.give [1] rfl (by decide)) (hw.rdTo hb [1] rfl)).mono ?_
  rintro _ w1 ⟨r11_, l12_, r23_, l24_, a'5_, bad'6_, rfl, hf2_1, hf2_1_1, hf2_1_2, hO⟩
  refine (?_ : CL _ _ _ _ _ _ (Own w [] [Res.row b2 166 [.slice none 0 0, .slice none 0 0], Res.row b8 171 [v, Vj a'5_, .bool bad'6_], Res.vec 3 1 r11_ l12_.length (l12_.flatMap I1), Res.vec 3 1 r23_ l24_.length (l24_.flatMap I1)])) w1 (hw.frameL [1] rfl hO)
  refine l_new (v := .agg #[.slice none 0 0, .slice none 0 0]) (by kernel_rfl) rfl (fun b5 => ?_)
  refine l_haveO (fun w' hw => Own.cell1Vec (i := 2) rfl hw) (fun hc1_ => ?_)
  refine l_haveO (fun w' hw => Own.cell1Vec (i := 3) rfl hw) (fun hc2_ => ?_)
  refine a_stN 4 rfl rfl rfl (allc_cons hc1_ (allc_cons hc2_ allc_nil)) rfl (l_end (c_seq (c_heldo [2, 3, 4] rfl (by decide) (by kernel_rfl) (fun w' hw hS => g_tk 0 rfl (w_ldr (cs := [r11_, r23_]) 2 rfl rfl) hS (g_tk 1 rfl (v_mv) hS (g_one 2 rfl hw (a_call rfl rfl (fun w' hw => (whole_s b8 v b a'5_ bad'6_ w' (by first | assumption | omega | (simp <;> omega) | (constructor <;> (first | omega | (simp only [LenOk]; omega) | (simp <;> omega)))) (hw.give [1] rfl (by decide)) (hw.rdTo hb [1] rfl)).mono ?_))))))))
  rintro _ w1 ⟨rfl, hO⟩
  refine (?_ : CL _ _ _ _ _ _ (Own w [] [Res.row b2 166 [.slice none 0 0, .slice none 0 0], Res.vec 3 1 r11_ l12_.length (l12_.flatMap I1), Res.vec 3 1 r23_ l24_.length (l24_.flatMap I1), Res.row b5 166 [r11_, r23_], Res.row b8 171 [v, Vj a'5_, .bool bad'6_]])) w1 (hw.frameL [1] rfl hO)
  refine l_nilH [1, 2, 3] rfl (by decide) (fun w' hw hS => g_tk 3 rfl (v_mv) hS ?_)
  by_cases g3_3 : bad'6_ = false ∧ a'5_ = b.length
  ·
   refine g_tkg 4 rfl rfl (gT g3_3) (w_ldr (cs := [r11_, r23_]) 2 rfl rfl) hS (g_one 5 rfl hw (l_on rfl (gT g3_3) (a_call rfl rfl (fun w' hw => (confOK_spec ({ vv := r11_, vs := l12_, lv := r23_, ls := l24_ } : ConfD) w' (by first | assumption | omega | (simp <;> omega) | (constructor <;> (first | omega | (simp only [LenOk]; omega) | (simp <;> omega)))) ⟨(hw.rdVec0 1 rfl), (hw.rdVec0 2 rfl)⟩).mono ?_))))
   rintro _ w1 ⟨rfl, hO⟩
   refine (?_ : CL _ _ _ _ _ _ (Own w [] [Res.row b2 166 [.slice none 0 0, .slice none 0 0], Res.vec 3 1 r11_ l12_.length (l12_.flatMap I1), Res.vec 3 1 r23_ l24_.length (l24_.flatMap I1), Res.row b5 166 [r11_, r23_], Res.row b8 171 [v, Vj a'5_, .bool bad'6_]])) w1 (hw.frame0 hO)
   refine l_nilH [1, 2, 3] rfl (by decide) (fun w' hw hS => g_tk 6 rfl (v_pickT (gT g3_3)) hS (g_one 7 rfl hw (a_stN 0 rfl rfl rfl (allc_cons hc1_ (allc_cons hc2_ allc_nil)) rfl (l_nilH [1, 2, 3] rfl (by decide) (fun w' hw hS => g_tk 8 rfl (v_as) hS (g_done ?_))))))
   refine (?_ : C _ _ _ _ _ _ _ (Own w [] [Res.row b2 166 [r11_, r23_], Res.vec 3 1 r11_ l12_.length (l12_.flatMap I1), Res.vec 3 1 r23_ l24_.length (l24_.flatMap I1), Res.row b5 166 [r11_, r23_], Res.row b8 171 [v, Vj a'5_, .bool bad'6_]])) _ hw
   exact c_ret (retc2 (cs := [r11_, r23_]) (v := .bool (decide (({ vv := r11_, vs := l12_, lv := r23_, ls := l24_ } : ConfD).ok))) rfl rfl rfl (by kernel_rfl) (Own.rowCells (i := 0) rfl) (fun w' hw => ⟨r11_, l12_, r23_, l24_, (decide (({ vv := r11_, vs := l12_, lv := r23_, ls := l24_ } : ConfD).ok)), rfl, RefPost.on hf2_1 g3_3 decide_eq_true_iff, hf2_1_1, hf2_1_2, hw.sel [1, 2] rfl (by decide)⟩))
  ·
   refine g_ofg 4 rfl rfl (gF g3_3) rfl hS (g_ofg 5 rfl rfl (gF g3_3) rfl hS (g_tk 6 rfl (v_pickF (gF g3_3)) hS (g_one 7 rfl hw (a_stN 0 rfl rfl rfl (allc_cons hc1_ (allc_cons hc2_ allc_nil)) rfl (l_nilH [1, 2, 3] rfl (by decide) (fun w' hw hS => g_tk 8 rfl (v_as) hS (g_done ?_)))))))
   refine (?_ : C _ _ _ _ _ _ _ (Own w [] [Res.row b2 166 [r11_, r23_], Res.vec 3 1 r11_ l12_.length (l12_.flatMap I1), Res.vec 3 1 r23_ l24_.length (l24_.flatMap I1), Res.row b5 166 [r11_, r23_], Res.row b8 171 [v, Vj a'5_, .bool bad'6_]])) _ hw
   exact c_ret (retc2 (cs := [r11_, r23_]) (v := .bool false) rfl rfl rfl (by kernel_rfl) (Own.rowCells (i := 0) rfl) (fun w' hw => ⟨r11_, l12_, r23_, l24_, false, rfl, RefPost.off hf2_1 g3_3, hf2_1_1, hf2_1_2, hw.sel [1, 2] rfl (by decide)⟩))
end Go.Proofs.YthincafbmpialaaGreat
