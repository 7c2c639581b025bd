/-
  A CONFIGURATION OF BYTES: the program's and the reference's.
-/
import Derived.Test.YtlkoekhjegaimaaGreatIn2
import Derived.Test.YtlkoekhjegaimaaGreatConfB
set_option linter.unusedVariables false
set_option maxRecDepth 10000
namespace Go.Proofs.YtlkoekhjegaimaaGreat
open Go Go.Sc Go.Proofs

structure ConfA where
  vs : List Int
  ls : List Int
  deriving DecidableEq
def ConfD.a (c : ConfD) : ConfA := ⟨c.vs, c.ls⟩
def ConfA.ok (x : ConfA) : Prop := ((Rises x.vs ∧ Rises x.ls) ∧ 0 < x.vs.length) ∧ ∀ v ∈ x.vs, v ∉ x.ls
instance (x : ConfA) : Decidable x.ok := inferInstanceAs (Decidable ((_ ∧ _) ∧ _))
def pConf : List UInt8 → Nat → Option (ConfA × Nat) := pBind pIds fun vs => pBind pIds fun ls => pPure ⟨vs, ls⟩
/-- What bytes are that are read to their end, and sound. -/
def whole {α : Type} (p : List UInt8 → Nat → Option (α × Nat)) (ok : α → Prop) [DecidablePred ok] (b : List UInt8) : Option α := (p b 0).bind fun q => if q.2 = b.length ∧ ok q.1 then some q.1 else none
def ValPost {α : Type} (d : Option α) (x z : α) (e : Int) : Prop := (e = 0 ∧ d = some x) ∨ (e = 4 ∧ d = none ∧ x = z)
instance : DecidablePred ConfA.ok := fun x => inferInstance
def decConf (b : List UInt8) : Option ConfA := whole pConf ConfA.ok b
theorem whole_yes {α : Type} {p : List UInt8 → Nat → Option (α × Nat)} {ok : α → Prop} [DecidablePred ok] {b : List UInt8} {x : α} {a : Nat} {bad : Bool} (h : RdS p b 0 false x a bad) (hb : bad = false) (ha : a = b.length) (hok : ok x) : whole p ok b = some x := by
  obtain ⟨_, h2⟩ := h.good hb
  simp only [whole, h2, Option.bind_some]
  rw [if_pos ⟨ha, hok⟩]
theorem whole_no {α : Type} {p : List UInt8 → Nat → Option (α × Nat)} {ok : α → Prop} [DecidablePred ok] {b : List UInt8} {x : α} {a : Nat} {bad : Bool} (h : RdS p b 0 false x a bad) (hn : bad = false → a = b.length → ¬ ok x) : whole p ok b = none := by
  cases hp : p b 0 with
  | none => simp only [whole, hp, Option.bind_none]
  | some q =>
    obtain ⟨h1, h2, h3⟩ := h.ok q.1 q.2 rfl hp
    simp only [whole, hp, Option.bind_some]
    rw [if_neg]
    rintro ⟨h4, h5⟩
    rw [← h2] at h5
    exact hn h1 (h3.trans h4) h5

theorem confRead_s (o : Nat) (v : Value) (b : List UInt8) (a : Nat) (bad : Bool) (w : World) (hl : LenOk b.length) (ha : a ≤ b.length) (hb : Rd w (fps [Res.row o 133 [v, .int .i64 (a : Nat), .bool bad]]) (Res.sl v b.length (b.map vb))) (hin : Own w (fps [Res.row o 133 [v, .int .i64 (a : Nat), .bool bad]]) [Res.row o 133 [v, .int .i64 (a : Nat), .bool bad]] w) : Rets Tryz.prog 87 #[.pointer (some ⟨o, 0, none⟩)] w fun u_ w' => ∃ (r1 : Value) (l1 : List Int) (r2 : Value) (l2 : List Int) (a' : Nat) (bad' : Bool), u_ = .agg #[r1, r2] ∧ RdS pConf b a bad (⟨l1, l2⟩ : ConfA) a' bad' ∧ l1.length ≤ 16 ∧ l2.length ≤ 16 ∧ Own w (fps [Res.row o 133 [v, .int .i64 (a : Nat), .bool bad]]) [Res.row o 133 [v, .int .i64 (a' : Nat), .bool bad'], Res.vec 3 1 r1 l1.length (l1.flatMap I1), Res.vec 3 1 r2 l2.length (l2.flatMap I1)] w' := by
  refine fn_enter (args := [.pointer (some ⟨o, 0, none⟩)]) Tryz.func87 rfl Tryz.ntmps87 rfl (show Own w (fps [Res.row o 133 [v, .int .i64 (a : Nat), .bool bad]]) [Res.row o 133 [v, .int .i64 (a : Nat), .bool bad]] w from hin) ?_
  refine c_reg ?_
  refine l_new (v := .agg #[.slice none 0 0, .slice none 0 0]) (by kernel_rfl) rfl (fun b2 => ?_)
  refine l_end ?_
  refine c_reg ?_
  refine l_mv rfl ?_
  refine l_call (by kernel_rfl) rfl rfl (fun w' hw => ?_)
  refine (inIds_s o v b a bad w' (by first | assumption | omega | (simp <;> omega) | (constructor <;> (first | omega | (simp only [LenOk]; omega) | (simp <;> omega)))) (by first | assumption | omega | (simp <;> omega) | (constructor <;> (first | omega | (simp only [LenOk]; omega) | (simp <;> omega)))) (hw.rdTo hb [0] rfl) (hw.give [0] rfl (by decide))).mono ?_
  rintro r1_ w1 ⟨_, l2_, a'3_, bad'4_, rfl, hf1_1, hf1_1_1, hO⟩
  have hq1 := hf1_1.le
  refine (?_ : CL _ _ _ _ _ _ (Own w (fps [Res.row o 133 [v, .int .i64 (a : Nat), .bool bad]]) [Res.row b2 27 [.slice none 0 0, .slice none 0 0], Res.row o 133 [v, .int .i64 (a'3_ : Nat), .bool bad'4_], Res.vec 3 1 r1_ l2_.length (l2_.flatMap I1)])) w1 (hw.frameL [0] rfl hO)
  refine l_mv rfl ?_
  refine l_call (by kernel_rfl) rfl rfl (fun w' hw => ?_)
  refine (inIds_s o v b a'3_ bad'4_ w' (by first | assumption | omega | (simp <;> omega) | (constructor <;> (first | omega | (simp only [LenOk]; omega) | (simp <;> omega)))) (by first | assumption | omega | (simp <;> omega) | (constructor <;> (first | omega | (simp only [LenOk]; omega) | (simp <;> omega)))) (hw.rdTo hb [1] rfl) (hw.give [1] rfl (by decide))).mono ?_
  rintro r5_ w1 ⟨_, l6_, a'7_, bad'8_, rfl, hf1_3, hf1_3_1, hO⟩
  refine (?_ : CL _ _ _ _ _ _ (Own w (fps [Res.row o 133 [v, .int .i64 (a : Nat), .bool bad]]) [Res.row b2 27 [.slice none 0 0, .slice none 0 0], Res.vec 3 1 r1_ l2_.length (l2_.flatMap I1), Res.row o 133 [v, .int .i64 (a'7_ : Nat), .bool bad'8_], Res.vec 3 1 r5_ l6_.length (l6_.flatMap I1)])) w1 (hw.frameL [1] rfl hO)
  refine l_haveO (fun w' hw => Own.cell1Vec (i := 1) rfl hw) (fun hc1_ => ?_)
  refine l_haveO (fun w' hw => Own.cell1Vec (i := 3) rfl hw) (fun hc2_ => ?_)
  refine l_bldc (cs := [r1_, r5_]) (z := [.slice none 0 0, .slice none 0 0]) (pl := [(0, 1), (1, 1)]) (by kernel_rfl) ⟨hc1_, hc2_, trivial⟩ (by kernel_rfl) rfl ?_
  refine l_stN (cs := [.slice none 0 0, .slice none 0 0]) (vs := [r1_, r5_]) 0 rfl rfl rfl (by kernel_rfl) (allc_cons hc1_ (allc_cons hc2_ allc_nil)) (Nat.le_of_ble_eq_true rfl) ?_
  refine l_end ?_
  exact c_ret (retc (cs := [r1_, r5_]) rfl rfl (by kernel_rfl) (Own.rowCells (i := 0) rfl) (fun w' hw => ⟨r1_, l2_, r5_, l6_, a'7_, bad'8_, rfl, hf1_1.bind (hf1_3.bind (RdS.pure _ hf1_3.le)), hf1_1_1, hf1_3_1, hw.sel [2, 1, 3] rfl (by decide)⟩))

theorem confValue_s (v : Value) (b : List UInt8) (w : World) (hl : LenOk b.length) (hb : Rd w [] (Res.sl v b.length (b.map vb))) : Rets Tryz.prog 106 #[.agg #[.func (.func 80) #[] #[], .func (.func 85) #[] #[], .func (.func 87) #[] #[]], v] w fun u_ w' => ∃ (r1 : Value) (l1 : List Int) (r2 : Value) (l2 : List Int) (e : Int), u_ = .tuple #[.agg #[r1, r2], .int .i64 e] ∧ ValPost (decConf b) (⟨l1, l2⟩ : ConfA) ⟨[], []⟩ e ∧ l1.length ≤ 16 ∧ l2.length ≤ 16 ∧ Own w [] [Res.vec 3 1 r1 l1.length (l1.flatMap I1), Res.vec 3 1 r2 l2.length (l2.flatMap I1)] w' := by
  refine fn_enter (args := [.agg #[.func (.func 80) #[] #[], .func (.func 85) #[] #[], .func (.func 87) #[] #[]], v]) Tryz.func106 rfl Tryz.ntmps106 rfl (Own.start w) ?_
  refine c_reg ?_
  refine l_box rfl rfl (fun b2 => ?_)
  refine l_new (v := .agg #[.slice none 0 0, .slice none 0 0]) (by kernel_rfl) rfl (fun b4 => ?_)
  refine l_as rfl ?_
  refine l_end ?_
  refine c_reg ?_
  refine l_mv rfl ?_
  refine l_bldc (cs := [v, .int .i64 0, .bool false]) (z := [.slice none 0 0, .int .i64 0, .bool false]) (pl := [(0, 1), (1, 1), (2, 1)]) (by kernel_rfl) ⟨(Sl.cell1 (Rd.φ hb)), trivial⟩ (by kernel_rfl) rfl ?_
  refine l_box rfl rfl (fun b10 => ?_)
  refine l_as rfl ?_
  refine l_end ?_
  refine c_reg ?_
  refine l_fld (o := 2) rfl (by kernel_rfl) rfl ?_
  refine l_ldo 0 (v := .func (.func 87) #[] #[]) rfl rfl rfl (by kernel_rfl) rfl ?_
  refine l_mv rfl ?_
  refine l_callv (fst := []) (cap := []) rfl (by kernel_rfl) rfl rfl (fun w' hw => ?_)
  refine (confRead_s b10 v b 0 false w' (by first | assumption | omega | (simp <;> omega) | (constructor <;> (first | omega | (simp only [LenOk]; omega) | (simp <;> omega)))) (by first | assumption | omega | (simp <;> omega) | (constructor <;> (first | omega | (simp only [LenOk]; omega) | (simp <;> omega)))) (hw.rdTo hb [2] rfl) (hw.give [2] rfl (by decide))).mono ?_
  rintro _ w1 ⟨r11_, l12_, r23_, l24_, a'5_, bad'6_, rfl, hf2_3, hf2_3_1, hf2_3_2, hO⟩
  refine (?_ : CL _ _ _ _ _ _ (Own w [] [Res.row b2 115 [.func (.func 80) #[] #[], .func (.func 85) #[] #[], .func (.func 87) #[] #[]], Res.row b4 27 [.slice none 0 0, .slice none 0 0], Res.row b10 133 [v, .int .i64 (a'5_ : Nat), .bool bad'6_], Res.vec 3 1 r11_ l12_.length (l12_.flatMap I1), Res.vec 3 1 r23_ l24_.length (l24_.flatMap I1)])) w1 (hw.frameL [2] rfl hO)
  refine l_haveO (fun w' hw => Own.cell1Vec (i := 3) rfl hw) (fun hc1_ => ?_)
  refine l_haveO (fun w' hw => Own.cell1Vec (i := 4) rfl hw) (fun hc2_ => ?_)
  refine l_stN (cs := [.slice none 0 0, .slice none 0 0]) (vs := [r11_, r23_]) 1 rfl rfl rfl (by kernel_rfl) (allc_cons hc1_ (allc_cons hc2_ allc_nil)) (Nat.le_of_ble_eq_true rfl) ?_
  refine l_end ?_
  refine c_seq ?_
  refine c_reg ?_
  refine l_mv rfl ?_
  refine l_nck rfl rfl ?_
  refine l_fld (o := 2) rfl (by kernel_rfl) rfl ?_
  refine l_ldo 2 (v := .bool bad'6_) rfl rfl rfl (by kernel_rfl) rfl ?_
  refine l_mv rfl ?_
  refine l_bor (q := bad'6_ = true) 7 4 [26, 25, 24, 23, 22, 21, 20] (((a'5_ : Nat) : Int) ≠ ((b.length : Nat) : Int)) rfl rfl (bool_dec _) rfl rfl rfl trivial rfl (fun h3_4 => ?_) (fun g3_12 => ?_)
  ·
    refine l_on rfl (bF h3_4) ?_
    refine l_mv rfl ?_
    refine l_on rfl (bF h3_4) ?_
    refine l_nck rfl rfl ?_
    refine l_on rfl (bF h3_4) ?_
    refine l_fld (o := 1) rfl (by kernel_rfl) rfl ?_
    refine l_on rfl (bF h3_4) ?_
    refine l_ldo 2 (v := .int .i64 (a'5_ : Nat)) rfl rfl rfl (by kernel_rfl) rfl ?_
    refine l_on rfl (bF h3_4) ?_
    refine l_mv rfl ?_
    refine l_on rfl (bF h3_4) ?_
    refine l_lenS (len := b.length) (cs := (b.map vb)) (by kernel_rfl) rfl (fun w' hw' => Own.rd hb hw') rfl ?_
    refine l_on rfl (bF h3_4) ?_
    refine l_ne rfl rfl rfl ?_
    exact l_nil (fun w' hw => ⟨(by repeat (first | exact Out.refl _ _ | refine Out.upd rfl ?_ | refine Out.msk rfl ?_)), rfl, hw⟩)
  refine l_mv rfl ?_
  refine l_bor (q := (bad'6_ = true) ∨ (((a'5_ : Nat) : Int) ≠ ((b.length : Nat) : Int))) 5 13 [33, 32, 31, 30, 29] (¬ (({ vv := r11_, vs := l12_, lv := r23_, ls := l24_ } : ConfD).ok)) rfl rfl rfl rfl rfl rfl trivial rfl (fun h3_13 => ?_) (fun g3_19 => ?_)
  ·
    refine l_on rfl (gF h3_13) ?_
    refine l_fld (o := 0) rfl (by kernel_rfl) rfl ?_
    refine l_on rfl (gF h3_13) ?_
    refine l_ldo 0 (v := .func (.func 80) #[] #[]) rfl rfl rfl (by kernel_rfl) rfl ?_
    refine l_on rfl (gF h3_13) ?_
    refine l_ldr (cs := [r11_, r23_]) 1 rfl rfl (by kernel_rfl) rfl ?_
    refine l_on rfl (gF h3_13) ?_
    refine l_callv (fst := []) (cap := []) rfl (by kernel_rfl) rfl rfl (fun w' hw => ?_)
    refine (confSound_spec ({ vv := r11_, vs := l12_, lv := r23_, ls := l24_ } : ConfD) w' (by first | assumption | omega | (simp <;> omega) | (constructor <;> (first | omega | (simp only [LenOk]; omega) | (simp <;> omega)))) ⟨(hw.rdVec0 3 rfl), (hw.rdVec0 4 rfl)⟩).mono ?_
    rintro _ w1 ⟨rfl, hO⟩
    refine (?_ : CL _ _ _ _ _ _ (Own w [] [Res.row b2 115 [.func (.func 80) #[] #[], .func (.func 85) #[] #[], .func (.func 87) #[] #[]], Res.row b4 27 [r11_, r23_], Res.row b10 133 [v, .int .i64 (a'5_ : Nat), .bool bad'6_], Res.vec 3 1 r11_ l12_.length (l12_.flatMap I1), Res.vec 3 1 r23_ l24_.length (l24_.flatMap I1)])) w1 (hw.frame0 hO)
    refine l_on rfl (gF h3_13) ?_
    refine l_notp (q := ({ vv := r11_, vs := l12_, lv := r23_, ls := l24_ } : ConfD).ok) rfl rfl ?_
    exact l_nil (fun w' hw => ⟨(by repeat (first | exact Out.refl _ _ | refine Out.upd rfl ?_ | refine Out.msk rfl ?_)), rfl, hw⟩)
  refine l_end ?_
  refine c_dec rfl (fun c1 => ?_) (fun c1 => ?_)
  ·
    refine c_reg ?_
    refine l_new (v := .agg #[.slice none 0 0, .slice none 0 0]) (by kernel_rfl) rfl (fun b7 => ?_)
    refine l_end ?_
    refine c_reg ?_
    refine l_ldr (cs := [.slice none 0 0, .slice none 0 0]) 5 rfl rfl (by kernel_rfl) rfl ?_
    refine l_stN (cs := [r11_, r23_]) (vs := [.slice none 0 0, .slice none 0 0]) 1 rfl rfl rfl (by kernel_rfl) (allc_cons rfl (allc_cons rfl allc_nil)) (Nat.le_of_ble_eq_true rfl) ?_
    refine l_as rfl ?_
    refine l_end ?_
    exact c_ret (retc2 (cs := [.slice none 0 0, .slice none 0 0]) (v := .int .i64 4) rfl rfl rfl (by kernel_rfl) (Own.rowCells (i := 1) rfl) (fun w' hw => ⟨.slice none 0 0, [], .slice none 0 0, [], 4, rfl, .inr ⟨rfl, whole_no hf2_3 (fun h1 h2 h3 => c1.elim (fun h => h.elim (fun h => by rw [h1] at h; cases h) (fun h => h (by omega))) (fun h => h h3)), rfl⟩, (by simp), (by simp), own_nil (own_nil hw.drop 3 1) 3 1⟩))
  ·
    refine c_skipC ?_
    refine c_reg ?_
    refine l_ldr (cs := [r11_, r23_]) 1 rfl rfl (by kernel_rfl) rfl ?_
    refine l_stN (cs := [r11_, r23_]) (vs := [r11_, r23_]) 1 rfl rfl rfl (by kernel_rfl) (allc_cons hc1_ (allc_cons hc2_ allc_nil)) (Nat.le_of_ble_eq_true rfl) ?_
    refine l_as rfl ?_
    refine l_end ?_
    exact c_ret (retc2 (cs := [r11_, r23_]) (v := .int .i64 0) rfl rfl rfl (by kernel_rfl) (Own.rowCells (i := 1) rfl) (fun w' hw => ⟨r11_, l12_, r23_, l24_, 0, rfl, .inl ⟨rfl, whole_yes hf2_3 (by cases h : bad'6_; rfl; exact absurd (.inl (.inl h)) c1) (by have : ¬ (a'5_ : Int) ≠ b.length := fun h => c1 (.inl (.inr h)); omega) (Decidable.not_not.1 fun h => c1 (.inr h))⟩, hf2_3_1, hf2_3_2, hw.sel [3, 4] rfl (by decide)⟩))

theorem toConf_s (v : Value) (b : List UInt8) (w : World) (hl : LenOk b.length) (hb : Rd w [] (Res.sl v b.length (b.map vb))) : Rets Tryz.prog 90 #[v] w fun u_ w' => ∃ (r1 : Value) (l1 : List Int) (r2 : Value) (l2 : List Int) (e : Int), u_ = .tuple #[.agg #[r1, r2], .int .i64 e] ∧ ValPost (decConf b) (⟨l1, l2⟩ : ConfA) ⟨[], []⟩ e ∧ l1.length ≤ 16 ∧ l2.length ≤ 16 ∧ Own w [] [Res.vec 3 1 r1 l1.length (l1.flatMap I1), Res.vec 3 1 r2 l2.length (l2.flatMap I1)] w' := by
  refine fn_enter (args := [v]) Tryz.func90 rfl Tryz.ntmps90 rfl (Own.start w) ?_
  refine c_reg ?_
  refine l_new (v := .agg #[.slice none 0 0, .slice none 0 0]) (by kernel_rfl) rfl (fun b2 => ?_)
  refine l_as rfl ?_
  refine l_end ?_
  refine c_reg ?_
  refine l_call (by kernel_rfl) rfl rfl (fun w' hw => ?_)
  refine (confs_s w').mono ?_
  rintro _ w1 ⟨rfl, hO⟩
  refine (?_ : CL _ _ _ _ _ _ (Own w [] [Res.row b2 27 [.slice none 0 0, .slice none 0 0]])) w1 (hw.frame0 hO)
  refine l_mv rfl ?_
  refine l_call (by kernel_rfl) rfl rfl (fun w' hw => ?_)
  refine (confValue_s v b w' (by first | assumption | omega | (simp <;> omega) | (constructor <;> (first | omega | (simp only [LenOk]; omega) | (simp <;> omega)))) (hw.rd0 hb)).mono ?_
  rintro _ w1 ⟨r11_, l12_, r23_, l24_, e5_, rfl, hf1_2, hf1_2_1, hf1_2_2, hO⟩
  refine (?_ : CL _ _ _ _ _ _ (Own w [] [Res.row b2 27 [.slice none 0 0, .slice none 0 0], Res.vec 3 1 r11_ l12_.length (l12_.flatMap I1), Res.vec 3 1 r23_ l24_.length (l24_.flatMap I1)])) w1 (hw.frame0 hO)
  refine l_ext (vs := [.agg #[r11_, r23_], .int .i64 e5_]) rfl rfl rfl ?_
  refine l_ext (vs := [.agg #[r11_, r23_], .int .i64 e5_]) rfl rfl rfl ?_
  refine l_haveO (fun w' hw => Own.cell1Vec (i := 1) rfl hw) (fun hc1_ => ?_)
  refine l_haveO (fun w' hw => Own.cell1Vec (i := 2) rfl hw) (fun hc2_ => ?_)
  refine l_stN (cs := [.slice none 0 0, .slice none 0 0]) (vs := [r11_, r23_]) 0 rfl rfl rfl (by kernel_rfl) (allc_cons hc1_ (allc_cons hc2_ allc_nil)) (Nat.le_of_ble_eq_true rfl) ?_
  refine l_as rfl ?_
  refine l_end ?_
  exact c_ret (retc2 (cs := [r11_, r23_]) (v := .int .i64 e5_) rfl rfl rfl (by kernel_rfl) (Own.rowCells (i := 0) rfl) (fun w' hw => ⟨r11_, l12_, r23_, l24_, e5_, rfl, hf1_2, hf1_2_1, hf1_2_2, hw.sel [1, 2] rfl (by decide)⟩))

theorem rconfRead_s (o : Nat) (v : Value) (b : List UInt8) (a : Nat) (bad : Bool) (w : World) (hl : LenOk b.length) (ha : a ≤ b.length) (hb : Rd w (fps [Res.row o 71 [v, .int .i64 (a : Nat), .bool bad]]) (Res.sl v b.length (b.map vb))) (hin : Own w (fps [Res.row o 71 [v, .int .i64 (a : Nat), .bool bad]]) [Res.row o 71 [v, .int .i64 (a : Nat), .bool bad]] w) : Rets Tryz.prog 22 #[.pointer (some ⟨o, 0, none⟩)] w fun u_ w' => ∃ (r1 : Value) (l1 : List Int) (r2 : Value) (l2 : List Int) (a' : Nat) (bad' : Bool), u_ = .agg #[r1, r2] ∧ RdS pConf b a bad (⟨l1, l2⟩ : ConfA) a' bad' ∧ l1.length ≤ 16 ∧ l2.length ≤ 16 ∧ Own w (fps [Res.row o 71 [v, .int .i64 (a : Nat), .bool bad]]) [Res.row o 71 [v, .int .i64 (a' : Nat), .bool bad'], Res.vec 3 1 r1 l1.length (l1.flatMap I1), Res.vec 3 1 r2 l2.length (l2.flatMap I1)] w' := by
  refine fn_enter (args := [.pointer (some ⟨o, 0, none⟩)]) Tryz.func22 rfl Tryz.ntmps22 rfl (show Own w (fps [Res.row o 71 [v, .int .i64 (a : Nat), .bool bad]]) [Res.row o 71 [v, .int .i64 (a : Nat), .bool bad]] w from hin) ?_
  refine c_reg ?_
  refine l_new (v := .agg #[.slice none 0 0, .slice none 0 0]) (by kernel_rfl) rfl (fun b2 => ?_)
  refine l_end ?_
  refine c_reg ?_
  refine l_bld (cs := [.slice none 0 0, .slice none 0 0]) (z := [.slice none 0 0, .slice none 0 0]) (pl := [(0, 1), (1, 1)]) (by kernel_rfl) (by kernel_rfl) rfl ?_
  refine l_new (v := .agg #[.slice none 0 0, .slice none 0 0]) (by kernel_rfl) rfl (fun b3 => ?_)
  refine l_stN (cs := [.slice none 0 0, .slice none 0 0]) (vs := [.slice none 0 0, .slice none 0 0]) 2 rfl rfl rfl (by kernel_rfl) (allc_cons rfl (allc_cons rfl allc_nil)) (Nat.le_of_ble_eq_true rfl) ?_
  refine l_end ?_
  refine c_reg ?_
  refine l_mv rfl ?_
  refine l_call (by kernel_rfl) rfl rfl (fun w' hw => ?_)
  refine (rinIds_s o v b a bad w' (by first | assumption | omega | (simp <;> omega) | (constructor <;> (first | omega | (simp only [LenOk]; omega) | (simp <;> omega)))) (by first | assumption | omega | (simp <;> omega) | (constructor <;> (first | omega | (simp only [LenOk]; omega) | (simp <;> omega)))) (hw.rdTo hb [0] rfl) (hw.give [0] rfl (by decide))).mono ?_
  rintro r1_ w1 ⟨_, l2_, a'3_, bad'4_, rfl, hf2_1, hf2_1_1, hO⟩
  have hq1 := hf2_1.le
  refine (?_ : CL _ _ _ _ _ _ (Own w (fps [Res.row o 71 [v, .int .i64 (a : Nat), .bool bad]]) [Res.row b2 27 [.slice none 0 0, .slice none 0 0], Res.row b3 27 [.slice none 0 0, .slice none 0 0], Res.row o 71 [v, .int .i64 (a'3_ : Nat), .bool bad'4_], Res.vec 3 1 r1_ l2_.length (l2_.flatMap I1)])) w1 (hw.frameL [0] rfl hO)
  refine l_fld (o := 0) rfl (by kernel_rfl) rfl ?_
  refine l_haveO (fun w' hw => Own.cell1Vec (i := 3) rfl hw) (fun hc1_ => ?_)
  refine l_st (cs := [.slice none 0 0, .slice none 0 0]) 1 rfl rfl rfl (by kernel_rfl) hc1_ (Nat.le_of_ble_eq_true rfl) ?_
  refine l_end ?_
  refine c_reg ?_
  refine l_mv rfl ?_
  refine l_call (by kernel_rfl) rfl rfl (fun w' hw => ?_)
  refine (rinIds_s o v b a'3_ bad'4_ w' (by first | assumption | omega | (simp <;> omega) | (constructor <;> (first | omega | (simp only [LenOk]; omega) | (simp <;> omega)))) (by first | assumption | omega | (simp <;> omega) | (constructor <;> (first | omega | (simp only [LenOk]; omega) | (simp <;> omega)))) (hw.rdTo hb [2] rfl) (hw.give [2] rfl (by decide))).mono ?_
  rintro r5_ w1 ⟨_, l6_, a'7_, bad'8_, rfl, hf3_1, hf3_1_1, hO⟩
  refine (?_ : CL _ _ _ _ _ _ (Own w (fps [Res.row o 71 [v, .int .i64 (a : Nat), .bool bad]]) [Res.row b2 27 [.slice none 0 0, .slice none 0 0], Res.row b3 27 [r1_, .slice none 0 0], Res.vec 3 1 r1_ l2_.length (l2_.flatMap I1), Res.row o 71 [v, .int .i64 (a'7_ : Nat), .bool bad'8_], Res.vec 3 1 r5_ l6_.length (l6_.flatMap I1)])) w1 (hw.frameL [2] rfl hO)
  refine l_fld (o := 1) rfl (by kernel_rfl) rfl ?_
  refine l_haveO (fun w' hw => Own.cell1Vec (i := 4) rfl hw) (fun hc2_ => ?_)
  refine l_st (cs := [r1_, .slice none 0 0]) 1 rfl rfl rfl (by kernel_rfl) hc2_ (Nat.le_of_ble_eq_true rfl) ?_
  refine l_end ?_
  refine c_reg ?_
  refine l_ldr (cs := [r1_, r5_]) 1 rfl rfl (by kernel_rfl) rfl ?_
  refine l_stN (cs := [.slice none 0 0, .slice none 0 0]) (vs := [r1_, r5_]) 0 rfl rfl rfl (by kernel_rfl) (allc_cons hc1_ (allc_cons hc2_ allc_nil)) (Nat.le_of_ble_eq_true rfl) ?_
  refine l_end ?_
  exact c_ret (retc (cs := [r1_, r5_]) rfl rfl (by kernel_rfl) (Own.rowCells (i := 0) rfl) (fun w' hw => ⟨r1_, l2_, r5_, l6_, a'7_, bad'8_, rfl, hf2_1.bind (hf3_1.bind (RdS.pure _ hf3_1.le)), hf2_1_1, hf3_1_1, hw.sel [3, 2, 4] rfl (by decide)⟩))

/-- The reference's outcome: what was read, and whether it is one. -/
structure RefPost {α : Type} (d : Option α) (x : α) (f : Bool) : Prop where
  yes : f = true → d = some x
  no : f = false → d = none
theorem RefPost.on {α : Type} {p : List UInt8 → Nat → Option (α × Nat)} {ok : α → Prop} [DecidablePred ok] {b : List UInt8} {x : α} {a : Nat} {bad f : Bool} (h : RdS p b 0 false x a bad) (hw : bad = false ∧ a = b.length) (hf : f = true ↔ ok x) : RefPost (whole p ok b) x f :=
  ⟨fun q => whole_yes h hw.1 hw.2 (hf.1 q), fun q => whole_no h fun _ _ h3 => by rw [hf.2 h3] at q; cases q⟩
theorem RefPost.off {α : Type} {p : List UInt8 → Nat → Option (α × Nat)} {ok : α → Prop} [DecidablePred ok] {b : List UInt8} {x : α} {a : Nat} {bad : Bool} (h : RdS p b 0 false x a bad) (hw : ¬ (bad = false ∧ a = b.length)) : RefPost (whole p ok b) x false :=
  ⟨fun q => (by cases q), fun _ => whole_no h fun h1 h2 _ => hw ⟨h1, h2⟩⟩

theorem rtoConf_s (v : Value) (b : List UInt8) (w : World) (hl : LenOk b.length) (hb : Rd w [] (Res.sl v b.length (b.map vb))) : Rets Tryz.prog 100 #[v] w fun u_ w' => ∃ (r1 : Value) (l1 : List Int) (r2 : Value) (l2 : List Int) (f : Bool), u_ = .tuple #[.agg #[r1, r2], .bool f] ∧ RefPost (decConf b) (⟨l1, l2⟩ : ConfA) f ∧ l1.length ≤ 16 ∧ l2.length ≤ 16 ∧ Own w [] [Res.vec 3 1 r1 l1.length (l1.flatMap I1), Res.vec 3 1 r2 l2.length (l2.flatMap I1)] w' := by
  refine fn_enter (args := [v]) Tryz.func100 rfl Tryz.ntmps100 rfl (Own.start w) ?_
  refine c_reg ?_
  refine l_new (v := .agg #[.slice none 0 0, .slice none 0 0]) (by kernel_rfl) rfl (fun b2 => ?_)
  refine l_as rfl ?_
  refine l_end ?_
  refine c_reg ?_
  refine l_mv rfl ?_
  refine l_bldc (cs := [v, .int .i64 0, .bool false]) (z := [.slice none 0 0, .int .i64 0, .bool false]) (pl := [(0, 1), (1, 1), (2, 1)]) (by kernel_rfl) ⟨(Sl.cell1 (Rd.φ hb)), trivial⟩ (by kernel_rfl) rfl ?_
  refine l_box rfl rfl (fun b8 => ?_)
  refine l_as rfl ?_
  refine l_end ?_
  refine c_reg ?_
  refine l_mv rfl ?_
  refine l_call (by kernel_rfl) rfl rfl (fun w' hw => ?_)
  refine (rconfRead_s b8 v b 0 false w' (by first | assumption | omega | (simp <;> omega) | (constructor <;> (first | omega | (simp only [LenOk]; omega) | (simp <;> omega)))) (by first | assumption | omega | (simp <;> omega) | (constructor <;> (first | omega | (simp only [LenOk]; omega) | (simp <;> omega)))) (hw.rdTo hb [1] rfl) (hw.give [1] rfl (by decide))).mono ?_
  rintro _ w1 ⟨r11_, l12_, r23_, l24_, a'5_, bad'6_, rfl, hf2_1, hf2_1_1, hf2_1_2, hO⟩
  refine (?_ : CL _ _ _ _ _ _ (Own w [] [Res.row b2 27 [.slice none 0 0, .slice none 0 0], Res.row b8 71 [v, .int .i64 (a'5_ : Nat), .bool bad'6_], Res.vec 3 1 r11_ l12_.length (l12_.flatMap I1), Res.vec 3 1 r23_ l24_.length (l24_.flatMap I1)])) w1 (hw.frameL [1] rfl hO)
  refine l_new (v := .agg #[.slice none 0 0, .slice none 0 0]) (by kernel_rfl) rfl (fun b5 => ?_)
  refine l_haveO (fun w' hw => Own.cell1Vec (i := 2) rfl hw) (fun hc1_ => ?_)
  refine l_haveO (fun w' hw => Own.cell1Vec (i := 3) rfl hw) (fun hc2_ => ?_)
  refine l_stN (cs := [.slice none 0 0, .slice none 0 0]) (vs := [r11_, r23_]) 4 rfl rfl rfl (by kernel_rfl) (allc_cons hc1_ (allc_cons hc2_ allc_nil)) (Nat.le_of_ble_eq_true rfl) ?_
  refine l_end ?_
  refine c_seq ?_
  refine c_heldo [2, 3, 4] rfl (by decide) (by kernel_rfl) (fun w' hw hS => ?_)
  refine h_take 0 rfl (by kernel_rfl) (by kernel_rfl) (by kernel_rfl) (v_ldr (cs := [r11_, r23_]) 2 rfl rfl (by kernel_rfl)) rfl hS ?_
  refine h_take 1 rfl (by kernel_rfl) (by kernel_rfl) (by kernel_rfl) (v_mv) rfl hS ?_
  refine h_one 2 (by kernel_rfl) rfl hw ?_
  refine l_call (by kernel_rfl) rfl rfl (fun w' hw => ?_)
  refine (whole_s b8 v b a'5_ bad'6_ w' (by first | assumption | omega | (simp <;> omega) | (constructor <;> (first | omega | (simp only [LenOk]; omega) | (simp <;> omega)))) (hw.rdTo hb [1] rfl) (hw.give [1] rfl (by decide))).mono ?_
  rintro _ w1 ⟨rfl, hO⟩
  refine (?_ : CL _ _ _ _ _ _ (Own w [] [Res.row b2 27 [.slice none 0 0, .slice none 0 0], Res.vec 3 1 r11_ l12_.length (l12_.flatMap I1), Res.vec 3 1 r23_ l24_.length (l24_.flatMap I1), Res.row b5 27 [r11_, r23_], Res.row b8 71 [v, .int .i64 (a'5_ : Nat), .bool bad'6_]])) w1 (hw.frameL [1] rfl hO)
  refine l_nil (fun w' hw => ?_)
  have hS := hw.sel [1, 2, 3] rfl (by decide)
  refine ⟨hS, ?_⟩
  refine h_take 3 rfl (by kernel_rfl) (by kernel_rfl) (by kernel_rfl) (v_mv) rfl hS ?_
  by_cases g3_3 : bad'6_ = false ∧ a'5_ = b.length
  ·
    refine h_takeg 4 rfl rfl (gT g3_3) (by kernel_rfl) (by kernel_rfl) (by kernel_rfl) (v_ldr (cs := [r11_, r23_]) 2 rfl rfl (by kernel_rfl)) rfl hS ?_
    refine h_one 5 (by kernel_rfl) rfl hw ?_
    refine l_on rfl (gT g3_3) ?_
    refine l_call (by kernel_rfl) rfl rfl (fun w' hw => ?_)
    refine (confOK_spec ({ vv := r11_, vs := l12_, lv := r23_, ls := l24_ } : ConfD) w' (by first | assumption | omega | (simp <;> omega) | (constructor <;> (first | omega | (simp only [LenOk]; omega) | (simp <;> omega)))) ⟨(hw.rdVec0 1 rfl), (hw.rdVec0 2 rfl)⟩).mono ?_
    rintro _ w1 ⟨rfl, hO⟩
    refine (?_ : CL _ _ _ _ _ _ (Own w [] [Res.row b2 27 [.slice none 0 0, .slice none 0 0], Res.vec 3 1 r11_ l12_.length (l12_.flatMap I1), Res.vec 3 1 r23_ l24_.length (l24_.flatMap I1), Res.row b5 27 [r11_, r23_], Res.row b8 71 [v, .int .i64 (a'5_ : Nat), .bool bad'6_]])) w1 (hw.frame0 hO)
    refine l_nil (fun w' hw => ?_)
    have hS := hw.sel [1, 2, 3] rfl (by decide)
    refine ⟨hS, ?_⟩
    refine h_take 6 rfl (by kernel_rfl) (by kernel_rfl) (by kernel_rfl) (v_pickT (gT g3_3)) rfl hS ?_
    refine h_one 7 (by kernel_rfl) rfl hw ?_
    refine l_stN (cs := [.slice none 0 0, .slice none 0 0]) (vs := [r11_, r23_]) 0 rfl rfl rfl (by kernel_rfl) (allc_cons hc1_ (allc_cons hc2_ allc_nil)) (Nat.le_of_ble_eq_true rfl) ?_
    refine l_nil (fun w' hw => ?_)
    have hS := hw.sel [1, 2, 3] rfl (by decide)
    refine ⟨hS, ?_⟩
    refine h_take 8 rfl (by kernel_rfl) (by kernel_rfl) (by kernel_rfl) (v_as) rfl hS ?_
    refine h_done (by kernel_rfl) ?_
    refine (?_ : C _ _ _ _ _ _ _ (Own w [] [Res.row b2 27 [r11_, r23_], Res.vec 3 1 r11_ l12_.length (l12_.flatMap I1), Res.vec 3 1 r23_ l24_.length (l24_.flatMap I1), Res.row b5 27 [r11_, r23_], Res.row b8 71 [v, .int .i64 (a'5_ : Nat), .bool bad'6_]])) _ hw
    exact c_ret (retc2 (cs := [r11_, r23_]) (v := .bool (decide (({ vv := r11_, vs := l12_, lv := r23_, ls := l24_ } : ConfD).ok))) rfl rfl rfl (by kernel_rfl) (Own.rowCells (i := 0) rfl) (fun w' hw => ⟨r11_, l12_, r23_, l24_, (decide (({ vv := r11_, vs := l12_, lv := r23_, ls := l24_ } : ConfD).ok)), rfl, RefPost.on hf2_1 g3_3 decide_eq_true_iff, hf2_1_1, hf2_1_2, hw.sel [1, 2] rfl (by decide)⟩))
  ·
    refine h_offg 4 rfl rfl (gF g3_3) rfl (by kernel_rfl) (by kernel_rfl) (by kernel_rfl) rfl hS ?_
    refine h_offg 5 rfl rfl (gF g3_3) rfl (by kernel_rfl) (by kernel_rfl) (by kernel_rfl) rfl hS ?_
    refine h_take 6 rfl (by kernel_rfl) (by kernel_rfl) (by kernel_rfl) (v_pickF (gF g3_3)) rfl hS ?_
    refine h_one 7 (by kernel_rfl) rfl hw ?_
    refine l_stN (cs := [.slice none 0 0, .slice none 0 0]) (vs := [r11_, r23_]) 0 rfl rfl rfl (by kernel_rfl) (allc_cons hc1_ (allc_cons hc2_ allc_nil)) (Nat.le_of_ble_eq_true rfl) ?_
    refine l_nil (fun w' hw => ?_)
    have hS := hw.sel [1, 2, 3] rfl (by decide)
    refine ⟨hS, ?_⟩
    refine h_take 8 rfl (by kernel_rfl) (by kernel_rfl) (by kernel_rfl) (v_as) rfl hS ?_
    refine h_done (by kernel_rfl) ?_
    refine (?_ : C _ _ _ _ _ _ _ (Own w [] [Res.row b2 27 [r11_, r23_], Res.vec 3 1 r11_ l12_.length (l12_.flatMap I1), Res.vec 3 1 r23_ l24_.length (l24_.flatMap I1), Res.row b5 27 [r11_, r23_], Res.row b8 71 [v, .int .i64 (a'5_ : Nat), .bool bad'6_]])) _ hw
    exact c_ret (retc2 (cs := [r11_, r23_]) (v := .bool false) rfl rfl rfl (by kernel_rfl) (Own.rowCells (i := 0) rfl) (fun w' hw => ⟨r11_, l12_, r23_, l24_, false, rfl, RefPost.off hf2_1 g3_3, hf2_1_1, hf2_1_2, hw.sel [1, 2] rfl (by decide)⟩))
end Go.Proofs.YtlkoekhjegaimaaGreat
