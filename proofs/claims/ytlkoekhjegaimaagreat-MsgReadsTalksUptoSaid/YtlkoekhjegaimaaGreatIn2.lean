/-
  THE WALKS OF the readers of lists: data, ids; and the reference's readers.
-/
import Derived.Test.YtlkoekhjegaimaaGreatIn
set_option linter.unusedVariables false
set_option maxRecDepth 10000
namespace Go.Proofs.YtlkoekhjegaimaaGreat
open Go Go.Sc Go.Proofs

theorem BytesPost.yes {p : Option (List UInt8 × Nat)} {d : List UInt8} {k : Nat} {e : Int} (h : BytesPost p d k e) (he : e = 0) : p = some (d, k) := by
  rcases h with h | h
  · exact h.2
  · exact absurd he h.1
theorem BytesPost.no {p : Option (List UInt8 × Nat)} {d : List UInt8} {k : Nat} {e : Int} (h : BytesPost p d k e) (he : e ≠ 0) : p = none := by
  rcases h with h | h
  · exact absurd h.1 he
  · exact h.2
def pRep {α : Type} (p : List UInt8 → Nat → Option (α × Nat)) : Nat → List UInt8 → Nat → Option (List α × Nat)
  | 0 => pPure []
  | k + 1 => pBind (pRep p k) fun l => pBind p fun x => pPure (l ++ [x])
theorem RdS.snoc {α : Type} {p : List UInt8 → Nat → Option (α × Nat)} {b : List UInt8} {a a1 a2 k : Nat} {bad bad1 bad2 : Bool} {l : List α} {x : α} (h1 : RdS (pRep p k) b a bad l a1 bad1) (h2 : RdS p b a1 bad1 x a2 bad2) : RdS (pRep p (k + 1)) b a bad (l ++ [x]) a2 bad2 :=
  h1.bind (h2.map (l ++ [·]))
theorem pRep_none {α : Type} {p : List UInt8 → Nat → Option (α × Nat)} {b : List UInt8} {a k : Nat} (h : pRep p k b a = none) : ∀ n, k ≤ n → pRep p n b a = none := by
  intro n hn
  induction n with
  | zero => rw [show k = 0 by omega] at h; exact h
  | succ n ih =>
    by_cases hk : k = n + 1
    · rw [← hk]; exact h
    · simp only [pRep, pBind, ih (by omega), Option.bind_none]
theorem RdS.stop {α : Type} {p : List UInt8 → Nat → Option (α × Nat)} {b : List UInt8} {a a1 k n : Nat} {bad : Bool} {l : List α} (h : RdS (pRep p k) b a bad l a1 true) (hn : k ≤ n) : RdS (pRep p n) b a bad l a1 true := by
  refine ⟨h.le, h.st, fun v j hb hv => ?_, fun _ _ => rfl⟩
  cases hp : pRep p k b a with
  | none => rw [pRep_none hp n hn] at hv; cases hv
  | some q => have := (h.ok q.1 q.2 hb hp).1; cases this
def pInt (most : Nat) : List UInt8 → Nat → Option (Int × Nat) := pBind (pUpto most) fun n => pPure (n : Int)
def pIds : List UInt8 → Nat → Option (List Int × Nat) := pBind (pUpto 16) fun n => pRep (pInt 16) n

theorem ids_end {b : List UInt8} {a a1 a2 n k : Nat} {bad bad1 bad2 : Bool} {l : List Int} (h1 : RdS (pUpto 16) b a bad n a1 bad1) (h2 : RdS (pRep (pInt 16) k) b a1 bad1 l a2 bad2) (e : k = n) : RdS pIds b a bad l a2 bad2 := by
  subst e; exact h1.bind h2

theorem ids_end2 {b : List UInt8} {a a1 a2 n k : Nat} {bad bad1 bad2 : Bool} {l : List Int} (h1 : RdS (pUpto 16) b a bad n a1 bad1) (h2 : RdS (pRep (pInt 16) k) b a1 bad1 l a2 bad2) (c : ¬ ((k : Int) < n ∧ (!bad2) = true)) (hk : k ≤ n) : RdS pIds b a bad l a2 bad2 := by
  by_cases e : k = n
  · exact ids_end h1 h2 e
  · have hb : bad2 = true := by cases bad2; exact absurd ⟨by omega, rfl⟩ c; rfl
    subst hb
    exact h1.bind (h2.stop hk)

theorem inData_s (o : Nat) (v : Value) (b : List UInt8) (a : Nat) (bad : Bool) (w : World) (hl : LenOk b.length) (ha : a ≤ b.length) (hb : Rd w (fps [Res.row o 133 [v, .int .i64 (a : Nat), .bool bad]]) (Res.sl v b.length (b.map vb))) (hin : Own w (fps [Res.row o 133 [v, .int .i64 (a : Nat), .bool bad]]) [Res.row o 133 [v, .int .i64 (a : Nat), .bool bad]] w) : Rets Tryz.prog 58 #[.pointer (some ⟨o, 0, none⟩)] w fun u_ w' => ∃ (r : Value) (d : List UInt8) (a' : Nat) (bad' : Bool), u_ = r ∧ RdS pBytes b a bad d a' bad' ∧ d.length ≤ b.length ∧ Own w (fps [Res.row o 133 [v, .int .i64 (a : Nat), .bool bad]]) [Res.row o 133 [v, .int .i64 (a' : Nat), .bool bad'], Res.vec 5 1 r d.length (d.map vb)] w' := by
  refine fn_enter (args := [.pointer (some ⟨o, 0, none⟩)]) Tryz.func58 rfl Tryz.ntmps58 rfl (show Own w (fps [Res.row o 133 [v, .int .i64 (a : Nat), .bool bad]]) [Res.row o 133 [v, .int .i64 (a : Nat), .bool bad]] w from hin) ?_
  refine c_reg ?_
  refine l_as rfl ?_
  refine l_end ?_
  refine c_seq ?_
  refine c_reg ?_
  refine l_mv rfl ?_
  refine l_nck rfl rfl ?_
  refine l_fld (o := 2) rfl (by kernel_rfl) rfl ?_
  refine l_ldo 0 (v := .bool bad) rfl rfl rfl (by kernel_rfl) rfl ?_
  refine l_end ?_
  refine c_if rfl (fun c1 => ?_) (fun c1 => ?_)
  ·
    refine c_reg ?_
    refine l_as rfl ?_
    refine l_end ?_
    exact c_ret (ret1 (v := .slice none 0 0) rfl rfl (fun w' hw => ⟨.slice none 0 0, [], a, bad, rfl, RdS.badly c1 ha, (by simp), own_nil hw 5 1⟩))
  ·
    refine c_skipC ?_
    refine c_seq ?_
    refine c_heldo [0] rfl (by decide) (by kernel_rfl) (fun w' hw hS => ?_)
    refine h_take 0 rfl (by kernel_rfl) (by kernel_rfl) (by kernel_rfl) (v_mv) rfl hS ?_
    refine h_take 1 rfl (by kernel_rfl) (by kernel_rfl) (by kernel_rfl) (v_nck rfl) rfl hS ?_
    refine h_take 2 rfl (by kernel_rfl) (by kernel_rfl) (by kernel_rfl) (v_fld (o := 0) rfl (by kernel_rfl)) rfl hS ?_
    refine h_take 3 rfl (by kernel_rfl) (by kernel_rfl) (by kernel_rfl) (v_ldo 0 (v := v) rfl rfl rfl (by kernel_rfl)) rfl hS ?_
    refine h_take 4 rfl (by kernel_rfl) (by kernel_rfl) (by kernel_rfl) (v_mv) rfl hS ?_
    refine h_take 5 rfl (by kernel_rfl) (by kernel_rfl) (by kernel_rfl) (v_nck rfl) rfl hS ?_
    refine h_take 6 rfl (by kernel_rfl) (by kernel_rfl) (by kernel_rfl) (v_fld (o := 1) rfl (by kernel_rfl)) rfl hS ?_
    refine h_take 7 rfl (by kernel_rfl) (by kernel_rfl) (by kernel_rfl) (v_ldo 0 (v := .int .i64 (a : Nat)) rfl rfl rfl (by kernel_rfl)) rfl hS ?_
    refine h_one 8 (by kernel_rfl) rfl hw ?_
    refine l_call (by kernel_rfl) rfl rfl (fun w' hw => ?_)
    refine (bytes_s v b a w' (by first | assumption | omega | (simp <;> omega) | (constructor <;> (first | omega | (simp only [LenOk]; omega) | (simp <;> omega)))) (by first | assumption | omega | (simp <;> omega) | (constructor <;> (first | omega | (simp only [LenOk]; omega) | (simp <;> omega)))) (hw.rd0 hb)).mono ?_
    rintro _ w1 ⟨r1_, d2_, k3_, e4_, rfl, hf3_8, hO⟩
    refine (?_ : CL _ _ _ _ _ _ (Own w (fps [Res.row o 133 [v, .int .i64 (a : Nat), .bool bad]]) [Res.row o 133 [v, .int .i64 (a : Nat), .bool bad], Res.vec 5 1 r1_ d2_.length (d2_.map vb)])) w1 (hw.frame0 hO)
    refine l_nil (fun w' hw => ?_)
    have hS := hw.sel [0] rfl (by decide)
    refine ⟨hS, ?_⟩
    refine h_take 9 rfl (by kernel_rfl) (by kernel_rfl) (by kernel_rfl) (v_mv) rfl hS ?_
    refine h_take 10 rfl (by kernel_rfl) (by kernel_rfl) (by kernel_rfl) (v_ext (vs := [r1_, .int .i64 (k3_ : Nat), .int .i64 e4_]) rfl rfl) rfl hS ?_
    refine h_take 11 rfl (by kernel_rfl) (by kernel_rfl) (by kernel_rfl) (v_ext (vs := [r1_, .int .i64 (k3_ : Nat), .int .i64 e4_]) rfl rfl) rfl hS ?_
    refine h_take 12 rfl (by kernel_rfl) (by kernel_rfl) (by kernel_rfl) (v_ext (vs := [r1_, .int .i64 (k3_ : Nat), .int .i64 e4_]) rfl rfl) rfl hS ?_
    refine h_take 13 rfl (by kernel_rfl) (by kernel_rfl) (by kernel_rfl) (v_as) rfl hS ?_
    refine h_take 14 rfl (by kernel_rfl) (by kernel_rfl) (by kernel_rfl) (v_as) rfl hS ?_
    refine h_take 15 rfl (by kernel_rfl) (by kernel_rfl) (by kernel_rfl) (v_as) rfl hS ?_
    refine h_done (by kernel_rfl) ?_
    refine (?_ : C _ _ _ _ _ _ _ (Own w (fps [Res.row o 133 [v, .int .i64 (a : Nat), .bool bad]]) [Res.row o 133 [v, .int .i64 (a : Nat), .bool bad], Res.vec 5 1 r1_ d2_.length (d2_.map vb)])) _ hw
    refine c_seq ?_
    refine c_reg ?_
    refine l_mv rfl ?_
    refine l_ne rfl rfl rfl ?_
    refine l_end ?_
    refine c_dec rfl (fun c2 => ?_) (fun c2 => ?_)
    ·
      refine c_reg ?_
      refine l_mv rfl ?_
      refine l_nck rfl rfl ?_
      refine l_fld (o := 2) rfl (by kernel_rfl) rfl ?_
      refine l_st (cs := [v, .int .i64 (a : Nat), .bool bad]) 0 rfl rfl rfl (by kernel_rfl) rfl (Nat.le_of_ble_eq_true rfl) ?_
      refine l_end ?_
      refine c_reg ?_
      refine l_as rfl ?_
      refine l_end ?_
      exact c_ret (ret1 (v := .slice none 0 0) rfl rfl (fun w' hw => ⟨.slice none 0 0, [], a, true, rfl, RdS.fail ha fun _ => hf3_8.no c2, (by simp), own_nil (hw.one 0 rfl) 5 1⟩))
    ·
      refine c_skipC ?_
      refine c_reg ?_
      refine l_mv rfl ?_
      refine l_mv rfl ?_
      refine l_nck rfl rfl ?_
      refine l_fld (o := 1) rfl (by kernel_rfl) rfl ?_
      refine l_st (cs := [v, .int .i64 (a : Nat), .bool bad]) 0 rfl rfl rfl (by kernel_rfl) rfl (Nat.le_of_ble_eq_true rfl) ?_
      refine l_end ?_
      refine c_reg ?_
      refine l_mv rfl ?_
      refine l_as rfl ?_
      refine l_end ?_
      exact c_ret (ret1 (v := r1_) rfl rfl (fun w' hw => ⟨r1_, d2_, k3_, bad, rfl, RdS.done (pBytes_some (hf3_8.yes (by omega))).1 (hf3_8.yes (by omega)), (pBytes_some (hf3_8.yes (by omega))).2, hw⟩))

theorem inIds_s (o : Nat) (v : Value) (b : List UInt8) (a : Nat) (bad : Bool) (w : World) (hl : LenOk b.length) (ha : a ≤ b.length) (hb : Rd w (fps [Res.row o 133 [v, .int .i64 (a : Nat), .bool bad]]) (Res.sl v b.length (b.map vb))) (hin : Own w (fps [Res.row o 133 [v, .int .i64 (a : Nat), .bool bad]]) [Res.row o 133 [v, .int .i64 (a : Nat), .bool bad]] w) : Rets Tryz.prog 88 #[.pointer (some ⟨o, 0, none⟩)] w fun u_ w' => ∃ (r : Value) (l : List Int) (a' : Nat) (bad' : Bool), u_ = r ∧ RdS pIds b a bad l a' bad' ∧ l.length ≤ 16 ∧ Own w (fps [Res.row o 133 [v, .int .i64 (a : Nat), .bool bad]]) [Res.row o 133 [v, .int .i64 (a' : Nat), .bool bad'], Res.vec 3 1 r l.length (l.flatMap I1)] w' := by
  refine fn_enter (args := [.pointer (some ⟨o, 0, none⟩)]) Tryz.func88 rfl Tryz.ntmps88 rfl (show Own w (fps [Res.row o 133 [v, .int .i64 (a : Nat), .bool bad]]) [Res.row o 133 [v, .int .i64 (a : Nat), .bool bad]] w from hin) ?_
  refine c_reg ?_
  refine l_as rfl ?_
  refine l_end ?_
  refine c_reg ?_
  refine l_as rfl ?_
  refine l_end ?_
  refine c_seq ?_
  refine c_reg ?_
  refine l_mv rfl ?_
  refine l_call (by kernel_rfl) rfl rfl (fun w' hw => ?_)
  refine (inUpto_s o v b a bad 16 w' (by first | assumption | omega | (simp <;> omega) | (constructor <;> (first | omega | (simp only [LenOk]; omega) | (simp <;> omega)))) (by first | assumption | omega | (simp <;> omega) | (constructor <;> (first | omega | (simp only [LenOk]; omega) | (simp <;> omega)))) (by first | assumption | omega | (simp <;> omega) | (constructor <;> (first | omega | (simp only [LenOk]; omega) | (simp <;> omega)))) (hw.rdTo hb [0] rfl) (hw.give [0] rfl (by decide))).mono ?_
  rintro _ w1 ⟨n1_, a'2_, bad'3_, rfl, hf2_1, hf2_1_1, hO⟩
  refine (?_ : CL _ _ _ _ _ _ (Own w (fps [Res.row o 133 [v, .int .i64 (a : Nat), .bool bad]]) [Res.row o 133 [v, .int .i64 (a'2_ : Nat), .bool bad'3_]])) w1 (hw.frameL [0] rfl hO)
  refine l_mv rfl ?_
  refine l_end ?_
  refine c_block ?_
  refine c_loop5 (fun (k : Nat) (lv : Value) (l : List Int) (a2 : Nat) (bad2 : Bool) => [(0, .pointer (some ⟨o, 0, none⟩)), (3, lv), (5, .int .i64 (n1_ : Nat)), (6, .int .i64 (k : Nat))]) (fun (k : Nat) (lv : Value) (l : List Int) (a2 : Nat) (bad2 : Bool) => (k ≤ n1_ ∧ l.length = k) ∧ RdS (pRep (pInt 16) k) b a'2_ bad'3_ l a2 bad2) (fun (k : Nat) (lv : Value) (l : List Int) (a2 : Nat) (bad2 : Bool) => [Res.row o 133 [v, .int .i64 (a2 : Nat), .bool bad2], Res.vec 3 1 lv l.length (l.flatMap I1)]) (fun (k : Nat) (lv : Value) (l : List Int) (a2 : Nat) (bad2 : Bool) => n1_ - k) (fun w' hw => ⟨0, .slice none 0 0, [], a'2_, bad'3_, ⟨rfl, rfl, rfl, rfl, trivial⟩, ⟨⟨Nat.zero_le _, rfl⟩, RdS.pure _ hf2_1.le⟩, own_nil hw 3 1⟩) (fun k lv l a2 bad2 g hΦ => ?_)
  have ha2 := hΦ.2.le
  have hlk := hΦ.1.2
  refine c_reg ?_
  refine l_lss rfl rfl rfl ?_
  refine l_end ?_
  refine c_seq ?_
  refine c_dec rfl (fun c1 => ?_) (fun c1 => ?_)
  ·
    refine c_skipC ?_
    refine c_seq ?_
    refine c_block ?_
    refine c_last ?_
    refine l_mv rfl ?_
    refine l_mv rfl ?_
    refine l_call (by kernel_rfl) rfl rfl (fun w' hw => ?_)
    refine (inUpto_s o v b a2 bad2 16 w' (by first | assumption | omega | (simp <;> omega) | (constructor <;> (first | omega | (simp only [LenOk]; omega) | (simp <;> omega)))) (by first | assumption | omega | (simp <;> omega) | (constructor <;> (first | omega | (simp only [LenOk]; omega) | (simp <;> omega)))) (by first | assumption | omega | (simp <;> omega) | (constructor <;> (first | omega | (simp only [LenOk]; omega) | (simp <;> omega)))) (hw.rdTo hb [0] rfl) (hw.give [0] rfl (by decide))).mono ?_
    rintro _ w1 ⟨n4_, a'5_, bad'6_, rfl, hf4_2, hf4_2_1, hO⟩
    refine (?_ : CL _ _ _ _ _ _ (Own w (fps [Res.row o 133 [v, .int .i64 (a : Nat), .bool bad]]) [Res.vec 3 1 lv l.length (l.flatMap I1), Res.row o 133 [v, .int .i64 (a'5_ : Nat), .bool bad'6_]])) w1 (hw.frameL [0] rfl hO)
    refine l_bsl (e := 3) (sz := 1) (vs := [.int .i64 (n4_ : Nat)]) (by kernel_rfl) rfl rfl (by simp [Value.cells]) (by decide) rfl (fun b11 => ?_)
    refine l_appF (g := I1) (sz := 1) (by' := 8) (fun _ => rfl) (l := l) (l' := [((n4_ : Nat) : Int)]) (by simp [cell1, I1]) 0 (by kernel_rfl) rfl rfl rfl (fun w' hw' => Vec.sl (Own.holds hw' 2 _ rfl)) (by first | omega | (simp; omega)) (by decide) rfl (fun v12 => ?_)
    refine l_as rfl ?_
    refine l_end ?_
    refine c_last ?_
    refine l_add rfl rfl (wi64 (by omega)) rfl ?_
    refine l_mv rfl ?_
    exact l_nil (fun w' hw => ⟨k + 1, v12, l ++ [((n4_ : Nat) : Int)], a'5_, bad'6_, ⟨rfl, rfl, rfl, rfl, trivial⟩, ⟨⟨by omega, by simp [hlk]⟩, hΦ.2.snoc (RdS.map (fun n : Nat => (n : Int)) hf4_2)⟩, hw.sel [1, 0] rfl (by decide), (by omega)⟩)
  ·
    refine c_exitC rfl ?_
    refine c_reg ?_
    refine l_mv rfl ?_
    refine l_as rfl ?_
    refine l_end ?_
    exact c_ret (ret1 (v := lv) rfl rfl (fun w' hw => ⟨lv, l, a2, bad2, rfl, ids_end hf2_1 hΦ.2 (by omega), (by omega), hw⟩))

/-! the reference's -/
theorem rnum_r (v : Value) (b : List UInt8) (a : Nat) (w : World) (hl : LenOk b.length) (ha : a ≤ b.length) (hb : Rd w [] (Res.sl v b.length (b.map vb))) : Rets Tryz.prog 59 #[v, .int .i64 (a : Nat)] w fun u_ w' => ∃ (n : Nat) (k : Nat) (e : Int), u_ = .tuple #[.int .u64 (n : Nat), .int .i64 (k : Nat), .int .i64 e] ∧ NumPost (pNum b a) n k e ∧ Own w [] [] w' := by
  have hk := (nth b a).toNat_lt
  have hd : (b.drop a).length = b.length - a := by simp
  have e0 : nth (b.drop a) 0 = nth b a := by rw [nth_drop]; rfl
  have e1 : nth (b.drop a) 1 = nth b (a + 1) := nth_drop b a 1
  have hsub : (((b.drop a).take (1 + (nth b a).toNat)).drop 1).length = min (1 + (nth b a).toNat) (b.length - a) - 1 := by simp
  refine fn_enter (args := [v, .int .i64 (a : Nat)]) Tryz.func59 rfl Tryz.ntmps59 rfl (Own.start w) ?_
  refine c_reg ?_
  refine l_as rfl ?_
  refine l_as rfl ?_
  refine l_as rfl ?_
  refine l_end ?_
  refine c_seq ?_
  refine c_reg ?_
  refine l_mv rfl ?_
  refine l_lss rfl rfl rfl ?_
  refine l_mv rfl ?_
  refine l_bor (q := ((a : Nat) : Int) < 0) 4 2 [16, 15, 14, 13] (((b.length : Nat) : Int) < ((a : Nat) : Int)) rfl rfl rfl rfl rfl rfl trivial rfl (fun h1_2 => ?_) (fun g1_7 => ?_)
  ·
    refine l_on rfl (gF h1_2) ?_
    refine l_mv rfl ?_
    refine l_on rfl (gF h1_2) ?_
    refine l_mv rfl ?_
    refine l_on rfl (gF h1_2) ?_
    refine l_lenS (len := b.length) (cs := (b.map vb)) (by kernel_rfl) rfl (fun w' hw' => Own.rd hb hw') rfl ?_
    refine l_on rfl (gF h1_2) ?_
    refine l_gtr rfl rfl rfl ?_
    exact l_nil (fun w' hw => ⟨(by repeat (first | exact Out.refl _ _ | refine Out.upd rfl ?_ | refine Out.msk rfl ?_)), rfl, hw⟩)
  refine l_end ?_
  refine c_decF rfl (by omega) ?_
  refine c_skipC ?_
  refine c_seq ?_
  refine c_reg ?_
  refine l_mv rfl ?_
  refine l_mv rfl ?_
  refine l_lenS (len := b.length) (cs := (b.map vb)) (by kernel_rfl) rfl (fun w' hw' => Own.rd hb hw') rfl ?_
  refine l_eq rfl rfl rfl ?_
  refine l_end ?_
  refine c_dec rfl (fun c2 => ?_) (fun c2 => ?_)
  ·
    refine c_reg ?_
    refine l_as rfl ?_
    refine l_as rfl ?_
    refine l_as rfl ?_
    refine l_end ?_
    exact c_ret (ret3 (v := .int .u64 (0 : Nat)) (v' := .int .i64 0) (v'' := .int .i64 5) rfl rfl rfl rfl (fun w' hw => ⟨0, 0, 5, rfl, .inr ⟨by decide, rfl, rfl, by unfold pNum pRest; rw [if_pos (by omega)]; rfl⟩, hw.drop⟩))
  ·
    refine c_skipC ?_
    refine c_reg ?_
    refine l_mv rfl ?_
    refine l_mv rfl ?_
    refine l_idxS (j := a) (sz := 1) (len := b.length) (cs := (b.map vb)) rfl rfl (by kernel_rfl) (fun w' hw' => Own.rd hb hw') rfl (by omega) rfl ?_
    refine l_ldS (v := v) (off := offV v + a * 1) a (cs := (b.map vb)) rfl (by omega) (fun w' hw' => Own.rd hb hw') (by rw [List.getElem?_map, (nth_some (by omega))]; rfl) (by kernel_rfl) rfl ?_
    refine l_cvt (by kernel_rfl) rfl (wi64 (by omega)) rfl ?_ (by kernel_rfl)
    refine l_as rfl ?_
    refine l_end ?_
    refine c_seq ?_
    refine c_reg ?_
    refine l_mv rfl ?_
    refine l_gtr rfl rfl rfl ?_
    refine l_mv rfl ?_
    refine l_bor (q := 8 < (((nth b a).toNat : Nat) : Int)) 17 2 [46, 45, 44, 43, 42, 41, 40, 39, 38, 37, 36, 35, 34, 33, 32, 31, 30] (((0 < (((nth b a).toNat : Nat) : Int)) ∧ (((a + 1 : Nat) : Int) < ((b.length : Nat) : Int))) ∧ ((((nth b (a + 1)).toNat : Nat) : Int) = ((0 : Nat) : Int))) rfl rfl rfl rfl rfl rfl trivial rfl (fun h6_2 => ?_) (fun g6_20 => ?_)
    ·
      refine l_on rfl (gF h6_2) ?_
      refine l_mv rfl ?_
      refine l_on rfl (gF h6_2) ?_
      refine l_gtr rfl rfl rfl ?_
      refine l_on rfl (gF h6_2) ?_
      refine l_mv rfl ?_
      refine l_band (q := 0 < (((nth b a).toNat : Nat) : Int)) 5 5 [37, 36, 35, 34, 33] (((a + 1 : Nat) : Int) < ((b.length : Nat) : Int)) rfl rfl rfl rfl rfl rfl ⟨_, rfl, rfl, gF h6_2⟩ rfl (fun h6_5 => ?_) (fun g6_11 => ?_)
      ·
        refine l_on rfl (gT h6_5) ?_
        refine l_mv rfl ?_
        refine l_on rfl (gT h6_5) ?_
        refine l_add rfl rfl (wi64 (by omega)) rfl ?_
        refine l_on rfl (gT h6_5) ?_
        refine l_mv rfl ?_
        refine l_on rfl (gT h6_5) ?_
        refine l_lenS (len := b.length) (cs := (b.map vb)) (by kernel_rfl) rfl (fun w' hw' => Own.rd hb hw') rfl ?_
        refine l_on rfl (gT h6_5) ?_
        refine l_lss rfl rfl rfl ?_
        exact l_nil (fun w' hw => ⟨(by repeat (first | exact Out.refl _ _ | refine Out.upd rfl ?_ | refine Out.msk rfl ?_)), rfl, hw⟩)
      refine l_on rfl (gF h6_2) ?_
      refine l_mv rfl ?_
      refine l_band (q := (0 < (((nth b a).toNat : Nat) : Int)) ∧ (((a + 1 : Nat) : Int) < ((b.length : Nat) : Int))) 6 12 [45, 44, 43, 42, 41, 40] ((((nth b (a + 1)).toNat : Nat) : Int) = ((0 : Nat) : Int)) rfl rfl rfl rfl rfl rfl ⟨_, rfl, rfl, gF h6_2⟩ rfl (fun h6_12 => ?_) (fun g6_19 => ?_)
      ·
        refine l_on rfl (gT h6_12) ?_
        refine l_mv rfl ?_
        refine l_on rfl (gT h6_12) ?_
        refine l_mv rfl ?_
        refine l_on rfl (gT h6_12) ?_
        refine l_add rfl rfl (wi64 (by omega)) rfl ?_
        refine l_on rfl (gT h6_12) ?_
        refine l_idxS (j := a + 1) (sz := 1) (len := b.length) (cs := (b.map vb)) rfl rfl (by kernel_rfl) (fun w' hw' => Own.rd hb hw') rfl (by omega) rfl ?_
        refine l_on rfl (gT h6_12) ?_
        refine l_ldS (v := v) (off := offV v + (a + 1) * 1) (a + 1) (cs := (b.map vb)) rfl (by omega) (fun w' hw' => Own.rd hb hw') (by rw [List.getElem?_map, (nth_some (by omega))]; rfl) (by kernel_rfl) rfl ?_
        refine l_on rfl (gT h6_12) ?_
        refine l_eq rfl rfl rfl ?_
        exact l_nil (fun w' hw => ⟨(by repeat (first | exact Out.refl _ _ | refine Out.upd rfl ?_ | refine Out.msk rfl ?_)), rfl, hw⟩)
      exact l_nil (fun w' hw => ⟨(by repeat (first | exact Out.refl _ _ | refine Out.upd rfl ?_ | refine Out.msk rfl ?_)), rfl, hw⟩)
    refine l_end ?_
    refine c_dec rfl (fun c3 => ?_) (fun c3 => ?_)
    ·
      refine c_reg ?_
      refine l_as rfl ?_
      refine l_as rfl ?_
      refine l_as rfl ?_
      refine l_end ?_
      exact c_ret (ret3 (v := .int .u64 (0 : Nat)) (v' := .int .i64 0) (v'' := .int .i64 4) rfl rfl rfl rfl (fun w' hw => ⟨0, 0, 4, rfl, .inr ⟨by decide, rfl, rfl, by unfold pNum pRest; rw [e0, e1, if_neg (by omega), if_pos (by omega)]; rfl⟩, hw.drop⟩))
    ·
      refine c_skipC ?_
      refine c_seq ?_
      refine c_reg ?_
      refine l_mv rfl ?_
      refine l_lenS (len := b.length) (cs := (b.map vb)) (by kernel_rfl) rfl (fun w' hw' => Own.rd hb hw') rfl ?_
      refine l_mv rfl ?_
      refine l_sub rfl rfl (wi64 (by omega)) rfl ?_
      refine l_sub rfl rfl (wi64 (by omega)) rfl ?_
      refine l_mv rfl ?_
      refine l_lss rfl rfl rfl ?_
      refine l_end ?_
      refine c_dec rfl (fun c4 => ?_) (fun c4 => ?_)
      ·
        refine c_reg ?_
        refine l_as rfl ?_
        refine l_as rfl ?_
        refine l_as rfl ?_
        refine l_end ?_
        exact c_ret (ret3 (v := .int .u64 (0 : Nat)) (v' := .int .i64 0) (v'' := .int .i64 5) rfl rfl rfl rfl (fun w' hw => ⟨0, 0, 5, rfl, .inr ⟨by decide, rfl, rfl, by unfold pNum pRest; rw [e0, e1, if_neg (by omega), if_neg (by omega), if_pos (by omega)]; rfl⟩, hw.drop⟩))
      ·
        refine c_skipC ?_
        refine c_reg ?_
        refine l_as rfl ?_
        refine l_end ?_
        refine c_seq ?_
        refine c_reg ?_
        refine l_as rfl ?_
        refine l_end ?_
        refine c_block ?_
        refine c_loop1 (fun (j : Nat) => [(0, v), (1, .int .i64 (a : Nat)), (7, .int .i64 ((nth b a).toNat : Nat)), (8, .int .u64 ((beN ((((b.drop a).take (1 + (nth b a).toNat)).drop 1).take j)) : Nat)), (9, .int .i64 ((j + 1) : Nat))]) (fun (j : Nat) => j ≤ (nth b a).toNat) (fun (j : Nat) => []) (fun (j : Nat) => (nth b a).toNat - j) (fun w' hw => ⟨0, ⟨rfl, rfl, rfl, rfl, rfl, trivial⟩, Nat.zero_le _, hw⟩) (fun j g hΦ => ?_)
        have hlt := beN_lt ((((b.drop a).take (1 + (nth b a).toNat)).drop 1).take j)
        have hlj : ((((b.drop a).take (1 + (nth b a).toNat)).drop 1).take j).length = j := by rw [List.length_take]; omega
        rw [hlj] at hlt
        refine c_seq ?_
        refine c_reg ?_
        refine l_mv rfl ?_
        refine l_mv rfl ?_
        refine l_leq rfl rfl rfl ?_
        refine l_end ?_
        refine c_dec rfl (fun c5 => ?_) (fun c5 => ?_)
        ·
          have hp7 := pow256_le7 (k := j) (by omega)
          have hcl := (nth b (a + (j + 1))).toNat_lt
          refine c_skipC ?_
          refine c_seq ?_
          refine c_block ?_
          refine c_last ?_
          refine l_mv rfl ?_
          refine l_mul rfl rfl (wu64 (by omega)) rfl ?_
          refine l_mv rfl ?_
          refine l_mv rfl ?_
          refine l_mv rfl ?_
          refine l_add rfl rfl (wi64 (by omega)) rfl ?_
          refine l_idxS (j := a + (j + 1)) (sz := 1) (len := b.length) (cs := (b.map vb)) rfl rfl (by kernel_rfl) (fun w' hw' => Own.rd hb hw') rfl (by omega) rfl ?_
          refine l_ldS (v := v) (off := offV v + (a + (j + 1)) * 1) (a + (j + 1)) (cs := (b.map vb)) rfl (by omega) (fun w' hw' => Own.rd hb hw') (by rw [List.getElem?_map, (nth_some (by omega))]; rfl) (by kernel_rfl) rfl ?_
          refine l_cvt (by kernel_rfl) rfl (wu64 (by omega)) rfl ?_ (by kernel_rfl)
          refine l_add rfl rfl (wu64 (by omega)) rfl ?_
          refine l_as rfl ?_
          refine l_end ?_
          refine c_last ?_
          refine l_mv rfl ?_
          refine l_add rfl rfl (wi64 (by omega)) rfl ?_
          refine l_as rfl ?_
          exact l_nil (fun w' hw => ⟨j + 1, ⟨rfl, rfl, rfl, by rw [take_nth (by omega), beN_snoc, nth_drop, nth_take (by omega), nth_drop, show a + (1 + j) = a + (j + 1) by omega]; rfl, rfl, trivial⟩, (by omega), hw, (by omega)⟩)
        ·
          refine c_exitC rfl ?_
          refine c_reg ?_
          refine l_mv rfl ?_
          refine l_mv rfl ?_
          refine l_add rfl rfl (wi64 (by omega)) rfl ?_
          refine l_mv rfl ?_
          refine l_add rfl rfl (wi64 (by omega)) rfl ?_
          refine l_as rfl ?_
          refine l_as rfl ?_
          refine l_as rfl ?_
          refine l_end ?_
          exact c_ret (ret3 (v := .int .u64 ((beN ((((b.drop a).take (1 + (nth b a).toNat)).drop 1).take j)) : Nat)) (v' := .int .i64 ((a + 1) + ((nth b a).toNat) : Nat)) (v'' := .int .i64 0) rfl rfl rfl rfl (fun w' hw => ⟨(beN ((((b.drop a).take (1 + (nth b a).toNat)).drop 1).take j)), (a + 1) + ((nth b a).toNat), 0, rfl, .inl ⟨rfl, by unfold pNum pRest; rw [e0, e1, if_neg (by omega), if_neg (by omega), if_neg (by omega), List.take_of_length_le (i := j) (by omega)]; simp [Nat.add_assoc]⟩, hw.drop⟩))

theorem rbytes_r (v : Value) (b : List UInt8) (a : Nat) (w : World) (hl : LenOk b.length) (ha : a ≤ b.length) (hb : Rd w [] (Res.sl v b.length (b.map vb))) : Rets Tryz.prog 61 #[v, .int .i64 (a : Nat)] w fun u_ w' => ∃ (r : Value) (d : List UInt8) (k : Nat) (e : Int), u_ = .tuple #[r, .int .i64 (k : Nat), .int .i64 e] ∧ BytesPost (pBytes b a) d k e ∧ Own w [] [Res.vec 5 1 r d.length (d.map vb)] w' := by
  refine fn_enter (args := [v, .int .i64 (a : Nat)]) Tryz.func61 rfl Tryz.ntmps61 rfl (Own.start w) ?_
  refine c_reg ?_
  refine l_as rfl ?_
  refine l_as rfl ?_
  refine l_as rfl ?_
  refine l_end ?_
  refine c_reg ?_
  refine l_mv rfl ?_
  refine l_mv rfl ?_
  refine l_call (by kernel_rfl) rfl rfl (fun w' hw => ?_)
  refine (rnum_r v b a w' (by first | assumption | omega | (simp <;> omega) | (constructor <;> (first | omega | (simp only [LenOk]; omega) | (simp <;> omega)))) (by first | assumption | omega | (simp <;> omega) | (constructor <;> (first | omega | (simp only [LenOk]; omega) | (simp <;> omega)))) (hw.rd0 hb)).mono ?_
  rintro _ w1 ⟨n1_, k2_, e3_, rfl, hf1_2, hO⟩
  have hn := hf1_2
  refine (?_ : CL _ _ _ _ _ _ (Own w [] [])) w1 (hw.frame0 hO)
  refine l_mv rfl ?_
  refine l_ext (vs := [.int .u64 (n1_ : Nat), .int .i64 (k2_ : Nat), .int .i64 e3_]) rfl rfl rfl ?_
  refine l_ext (vs := [.int .u64 (n1_ : Nat), .int .i64 (k2_ : Nat), .int .i64 e3_]) rfl rfl rfl ?_
  refine l_ext (vs := [.int .u64 (n1_ : Nat), .int .i64 (k2_ : Nat), .int .i64 e3_]) rfl rfl rfl ?_
  refine l_as rfl ?_
  refine l_as rfl ?_
  refine l_as rfl ?_
  refine l_end ?_
  refine c_seq ?_
  refine c_reg ?_
  refine l_mv rfl ?_
  refine l_ne rfl rfl rfl ?_
  refine l_end ?_
  refine c_dec rfl (fun c1 => ?_) (fun c1 => ?_)
  ·
    refine c_reg ?_
    refine l_mv rfl ?_
    refine l_as rfl ?_
    refine l_as rfl ?_
    refine l_as rfl ?_
    refine l_end ?_
    exact c_ret (ret3 (v := .slice none 0 0) (v' := .int .i64 0) (v'' := .int .i64 e3_) rfl rfl rfl rfl (fun w' hw => ⟨.slice none 0 0, [], 0, e3_, rfl, .inr ⟨c1, by unfold pBytes; rw [hn.no c1]; rfl⟩, own_nil hw.drop 5 1⟩))
  ·
    have hy := hn.yes (by omega)
    obtain ⟨hn1, hn2, hn3⟩ := pNum_some hy
    refine c_skipC ?_
    refine c_seq ?_
    refine c_reg ?_
    refine l_mv rfl ?_
    refine l_mv rfl ?_
    refine l_lenS (len := b.length) (cs := (b.map vb)) (by kernel_rfl) rfl (fun w' hw' => Own.rd hb hw') rfl ?_
    refine l_cvt (by kernel_rfl) rfl (wu64 (by omega)) rfl ?_ (by kernel_rfl)
    refine l_gtr rfl rfl rfl ?_
    refine l_mv rfl ?_
    refine l_bor (q := ((b.length : Nat) : Int) < ((n1_ : Nat) : Int)) 7 5 [32, 31, 30, 29, 28, 27, 26] ((((b.length : Nat) : Int) - ((k2_ : Nat) : Int)) < ((n1_ : Nat) : Int)) rfl rfl rfl rfl rfl rfl trivial rfl (fun h4_5 => ?_) (fun g4_13 => ?_)
    ·
      refine l_on rfl (gF h4_5) ?_
      refine l_mv rfl ?_
      refine l_on rfl (gF h4_5) ?_
      refine l_lenS (len := b.length) (cs := (b.map vb)) (by kernel_rfl) rfl (fun w' hw' => Own.rd hb hw') rfl ?_
      refine l_on rfl (gF h4_5) ?_
      refine l_mv rfl ?_
      refine l_on rfl (gF h4_5) ?_
      refine l_sub rfl rfl (wi64 (by omega)) rfl ?_
      refine l_on rfl (gF h4_5) ?_
      refine l_mv rfl ?_
      refine l_on rfl (gF h4_5) ?_
      refine l_cvt (by kernel_rfl) rfl (wi64 (by omega)) rfl ?_ (by kernel_rfl)
      refine l_on rfl (gF h4_5) ?_
      refine l_lss rfl rfl rfl ?_
      exact l_nil (fun w' hw => ⟨(by repeat (first | exact Out.refl _ _ | refine Out.upd rfl ?_ | refine Out.msk rfl ?_)), rfl, hw⟩)
    refine l_end ?_
    refine c_dec rfl (fun c2 => ?_) (fun c2 => ?_)
    ·
      refine c_reg ?_
      refine l_as rfl ?_
      refine l_as rfl ?_
      refine l_as rfl ?_
      refine l_end ?_
      exact c_ret (ret3 (v := .slice none 0 0) (v' := .int .i64 0) (v'' := .int .i64 5) rfl rfl rfl rfl (fun w' hw => ⟨.slice none 0 0, [], 0, 5, rfl, .inr ⟨by decide, by unfold pBytes; rw [hy]; simp only [Option.bind_some]; rw [if_pos (by omega)]⟩, own_nil hw.drop 5 1⟩))
    ·
      refine c_skipC ?_
      refine c_reg ?_
      refine l_bsl (e := 5) (sz := 1) (vs := []) (by kernel_rfl) rfl rfl (by simp [Value.cells]) (by decide) rfl (fun b34 => ?_)
      refine l_mv rfl ?_
      refine l_mv rfl ?_
      refine l_mv rfl ?_
      refine l_mv rfl ?_
      refine l_cvt (by kernel_rfl) rfl (wi64 (by omega)) rfl ?_ (by kernel_rfl)
      refine l_add rfl rfl (wi64 (by omega)) rfl ?_
      refine l_slcS (v := v) (sz := 1) (l := k2_) (h := k2_ + n1_) (len := b.length) (cs := (b.map vb)) (by kernel_rfl) rfl (fun w' hw' => Own.rd hb hw') ⟨_, rfl⟩ ⟨_, rfl⟩ (by omega) (by omega) rfl ?_
      have hs4_ := Rd.subL_m (g := vb) (xs := b)  hb (l := k2_) (h := k2_ + n1_) (by omega) (by omega)
      refine l_appM (l := ([] : List UInt8)) (l' := ((b.take (k2_ + n1_)).drop k2_)) 0 (by kernel_rfl) rfl rfl rfl (fun w' hw' => Own.rd hs4_ hw') (by first | omega | (simp; omega)) rfl (fun v42 => ?_)
      refine l_mv rfl ?_
      refine l_mv rfl ?_
      refine l_cvt (by kernel_rfl) rfl (wi64 (by omega)) rfl ?_ (by kernel_rfl)
      refine l_add rfl rfl (wi64 (by omega)) rfl ?_
      refine l_as rfl ?_
      refine l_as rfl ?_
      refine l_as rfl ?_
      refine l_end ?_
      exact c_ret (ret3 (v := v42) (v' := .int .i64 (k2_ + n1_ : Nat)) (v'' := .int .i64 0) rfl rfl rfl rfl (fun w' hw => ⟨v42, ((b.take (k2_ + n1_)).drop k2_), k2_ + n1_, 0, rfl, .inl ⟨rfl, by unfold pBytes; rw [hy]; simp only [Option.bind_some]; rw [if_neg (by omega)]⟩, hw⟩))

theorem rinNum_s (o : Nat) (v : Value) (b : List UInt8) (a : Nat) (bad : Bool) (w : World) (hl : LenOk b.length) (ha : a ≤ b.length) (hb : Rd w (fps [Res.row o 71 [v, .int .i64 (a : Nat), .bool bad]]) (Res.sl v b.length (b.map vb))) (hin : Own w (fps [Res.row o 71 [v, .int .i64 (a : Nat), .bool bad]]) [Res.row o 71 [v, .int .i64 (a : Nat), .bool bad]] w) : Rets Tryz.prog 20 #[.pointer (some ⟨o, 0, none⟩)] w fun u_ w' => ∃ (n : Nat) (a' : Nat) (bad' : Bool), u_ = .int .u64 (n : Nat) ∧ RdS pNum b a bad n a' bad' ∧ n < 18446744073709551616 ∧ Own w (fps [Res.row o 71 [v, .int .i64 (a : Nat), .bool bad]]) [Res.row o 71 [v, .int .i64 (a' : Nat), .bool bad']] w' := by
  refine fn_enter (args := [.pointer (some ⟨o, 0, none⟩)]) Tryz.func20 rfl Tryz.ntmps20 rfl (show Own w (fps [Res.row o 71 [v, .int .i64 (a : Nat), .bool bad]]) [Res.row o 71 [v, .int .i64 (a : Nat), .bool bad]] w from hin) ?_
  refine c_reg ?_
  refine l_as rfl ?_
  refine l_end ?_
  refine c_seq ?_
  refine c_reg ?_
  refine l_mv rfl ?_
  refine l_nck rfl rfl ?_
  refine l_fld (o := 2) rfl (by kernel_rfl) rfl ?_
  refine l_ldo 0 (v := .bool bad) rfl rfl rfl (by kernel_rfl) rfl ?_
  refine l_end ?_
  refine c_if rfl (fun c1 => ?_) (fun c1 => ?_)
  ·
    refine c_reg ?_
    refine l_as rfl ?_
    refine l_end ?_
    exact c_ret (ret1 (v := .int .u64 (0 : Nat)) rfl rfl (fun w' hw => ⟨0, a, bad, rfl, RdS.badly c1 ha, (by omega), hw⟩))
  ·
    refine c_skipC ?_
    refine c_seq ?_
    refine c_heldo [0] rfl (by decide) (by kernel_rfl) (fun w' hw hS => ?_)
    refine h_take 0 rfl (by kernel_rfl) (by kernel_rfl) (by kernel_rfl) (v_mv) rfl hS ?_
    refine h_take 1 rfl (by kernel_rfl) (by kernel_rfl) (by kernel_rfl) (v_nck rfl) rfl hS ?_
    refine h_take 2 rfl (by kernel_rfl) (by kernel_rfl) (by kernel_rfl) (v_fld (o := 0) rfl (by kernel_rfl)) rfl hS ?_
    refine h_take 3 rfl (by kernel_rfl) (by kernel_rfl) (by kernel_rfl) (v_ldo 0 (v := v) rfl rfl rfl (by kernel_rfl)) rfl hS ?_
    refine h_take 4 rfl (by kernel_rfl) (by kernel_rfl) (by kernel_rfl) (v_mv) rfl hS ?_
    refine h_take 5 rfl (by kernel_rfl) (by kernel_rfl) (by kernel_rfl) (v_nck rfl) rfl hS ?_
    refine h_take 6 rfl (by kernel_rfl) (by kernel_rfl) (by kernel_rfl) (v_fld (o := 1) rfl (by kernel_rfl)) rfl hS ?_
    refine h_take 7 rfl (by kernel_rfl) (by kernel_rfl) (by kernel_rfl) (v_ldo 0 (v := .int .i64 (a : Nat)) rfl rfl rfl (by kernel_rfl)) rfl hS ?_
    refine h_one 8 (by kernel_rfl) rfl hw ?_
    refine l_call (by kernel_rfl) rfl rfl (fun w' hw => ?_)
    refine (rnum_r v b a w' (by first | assumption | omega | (simp <;> omega) | (constructor <;> (first | omega | (simp only [LenOk]; omega) | (simp <;> omega)))) (by first | assumption | omega | (simp <;> omega) | (constructor <;> (first | omega | (simp only [LenOk]; omega) | (simp <;> omega)))) (hw.rd0 hb)).mono ?_
    rintro _ w1 ⟨n1_, k2_, e3_, rfl, hf3_8, hO⟩
    refine (?_ : CL _ _ _ _ _ _ (Own w (fps [Res.row o 71 [v, .int .i64 (a : Nat), .bool bad]]) [Res.row o 71 [v, .int .i64 (a : Nat), .bool bad]])) w1 (hw.frame0 hO)
    refine l_nil (fun w' hw => ?_)
    have hS := hw.sel [0] rfl (by decide)
    refine ⟨hS, ?_⟩
    refine h_take 9 rfl (by kernel_rfl) (by kernel_rfl) (by kernel_rfl) (v_mv) rfl hS ?_
    refine h_take 10 rfl (by kernel_rfl) (by kernel_rfl) (by kernel_rfl) (v_ext (vs := [.int .u64 (n1_ : Nat), .int .i64 (k2_ : Nat), .int .i64 e3_]) rfl rfl) rfl hS ?_
    refine h_take 11 rfl (by kernel_rfl) (by kernel_rfl) (by kernel_rfl) (v_ext (vs := [.int .u64 (n1_ : Nat), .int .i64 (k2_ : Nat), .int .i64 e3_]) rfl rfl) rfl hS ?_
    refine h_take 12 rfl (by kernel_rfl) (by kernel_rfl) (by kernel_rfl) (v_ext (vs := [.int .u64 (n1_ : Nat), .int .i64 (k2_ : Nat), .int .i64 e3_]) rfl rfl) rfl hS ?_
    refine h_take 13 rfl (by kernel_rfl) (by kernel_rfl) (by kernel_rfl) (v_as) rfl hS ?_
    refine h_take 14 rfl (by kernel_rfl) (by kernel_rfl) (by kernel_rfl) (v_as) rfl hS ?_
    refine h_take 15 rfl (by kernel_rfl) (by kernel_rfl) (by kernel_rfl) (v_as) rfl hS ?_
    refine h_done (by kernel_rfl) ?_
    refine (?_ : C _ _ _ _ _ _ _ (Own w (fps [Res.row o 71 [v, .int .i64 (a : Nat), .bool bad]]) [Res.row o 71 [v, .int .i64 (a : Nat), .bool bad]])) _ hw
    refine c_seq ?_
    refine c_reg ?_
    refine l_mv rfl ?_
    refine l_ne rfl rfl rfl ?_
    refine l_end ?_
    refine c_dec rfl (fun c2 => ?_) (fun c2 => ?_)
    ·
      refine c_reg ?_
      refine l_mv rfl ?_
      refine l_nck rfl rfl ?_
      refine l_fld (o := 2) rfl (by kernel_rfl) rfl ?_
      refine l_st (cs := [v, .int .i64 (a : Nat), .bool bad]) 0 rfl rfl rfl (by kernel_rfl) rfl (Nat.le_of_ble_eq_true rfl) ?_
      refine l_end ?_
      refine c_reg ?_
      refine l_as rfl ?_
      refine l_end ?_
      exact c_ret (ret1 (v := .int .u64 (0 : Nat)) rfl rfl (fun w' hw => ⟨0, a, true, rfl, RdS.fail ha fun _ => hf3_8.no c2, (by omega), hw⟩))
    ·
      refine c_skipC ?_
      refine c_reg ?_
      refine l_mv rfl ?_
      refine l_mv rfl ?_
      refine l_nck rfl rfl ?_
      refine l_fld (o := 1) rfl (by kernel_rfl) rfl ?_
      refine l_st (cs := [v, .int .i64 (a : Nat), .bool bad]) 0 rfl rfl rfl (by kernel_rfl) rfl (Nat.le_of_ble_eq_true rfl) ?_
      refine l_end ?_
      refine c_reg ?_
      refine l_mv rfl ?_
      refine l_as rfl ?_
      refine l_end ?_
      exact c_ret (ret1 (v := .int .u64 (n1_ : Nat)) rfl rfl (fun w' hw => ⟨n1_, k2_, bad, rfl, RdS.done (pNum_some (hf3_8.yes (by omega))).2.1 (hf3_8.yes (by omega)), (pNum_some (hf3_8.yes (by omega))).1, hw⟩))
theorem rinInt_s (o : Nat) (v : Value) (b : List UInt8) (a : Nat) (bad : Bool) (most : Nat) (w : World) (hl : LenOk b.length) (ha : a ≤ b.length) (hm : most ≤ 1000000) (hb : Rd w (fps [Res.row o 71 [v, .int .i64 (a : Nat), .bool bad]]) (Res.sl v b.length (b.map vb))) (hin : Own w (fps [Res.row o 71 [v, .int .i64 (a : Nat), .bool bad]]) [Res.row o 71 [v, .int .i64 (a : Nat), .bool bad]] w) : Rets Tryz.prog 19 #[.pointer (some ⟨o, 0, none⟩), .int .u64 (most : Nat)] w fun u_ w' => ∃ (n : Nat) (a' : Nat) (bad' : Bool), u_ = .int .i64 (n : Nat) ∧ RdS (pUpto most) b a bad n a' bad' ∧ n ≤ most ∧ Own w (fps [Res.row o 71 [v, .int .i64 (a : Nat), .bool bad]]) [Res.row o 71 [v, .int .i64 (a' : Nat), .bool bad']] w' := by
  refine fn_enter (args := [.pointer (some ⟨o, 0, none⟩), .int .u64 (most : Nat)]) Tryz.func19 rfl Tryz.ntmps19 rfl (show Own w (fps [Res.row o 71 [v, .int .i64 (a : Nat), .bool bad]]) [Res.row o 71 [v, .int .i64 (a : Nat), .bool bad]] w from hin) ?_
  refine c_reg ?_
  refine l_as rfl ?_
  refine l_end ?_
  refine c_reg ?_
  refine l_mv rfl ?_
  refine l_call (by kernel_rfl) rfl rfl (fun w' hw => ?_)
  refine (rinNum_s o v b a bad w' (by first | assumption | omega | (simp <;> omega) | (constructor <;> (first | omega | (simp only [LenOk]; omega) | (simp <;> omega)))) (by first | assumption | omega | (simp <;> omega) | (constructor <;> (first | omega | (simp only [LenOk]; omega) | (simp <;> omega)))) (hw.rdTo hb [0] rfl) (hw.give [0] rfl (by decide))).mono ?_
  rintro _ w1 ⟨n1_, a'2_, bad'3_, rfl, hf1_1, hf1_1_1, hO⟩
  have hq := hf1_1.le
  refine (?_ : CL _ _ _ _ _ _ (Own w (fps [Res.row o 71 [v, .int .i64 (a : Nat), .bool bad]]) [Res.row o 71 [v, .int .i64 (a'2_ : Nat), .bool bad'3_]])) w1 (hw.frameL [0] rfl hO)
  refine l_as rfl ?_
  refine l_end ?_
  refine c_seq ?_
  refine c_reg ?_
  refine l_mv rfl ?_
  refine l_mv rfl ?_
  refine l_gtr rfl rfl rfl ?_
  refine l_end ?_
  refine c_dec rfl (fun c1 => ?_) (fun c1 => ?_)
  ·
    refine c_reg ?_
    refine l_mv rfl ?_
    refine l_nck rfl rfl ?_
    refine l_fld (o := 2) rfl (by kernel_rfl) rfl ?_
    refine l_st (cs := [v, .int .i64 (a'2_ : Nat), .bool bad'3_]) 0 rfl rfl rfl (by kernel_rfl) rfl (Nat.le_of_ble_eq_true rfl) ?_
    refine l_end ?_
    refine c_reg ?_
    refine l_as rfl ?_
    refine l_end ?_
    exact c_ret (ret1 (v := .int .i64 0) rfl rfl (fun w' hw => ⟨0, a'2_, true, rfl, RdS.fail hq fun h0 => (by cases hp : pUpto most b a with | none => rfl | some q => obtain ⟨h1, h2⟩ := pUpto_some hp; obtain ⟨_, h3, _⟩ := hf1_1.ok q.1 q.2 h0 h1; omega), (by omega), hw⟩))
  ·
    refine c_skipC ?_
    refine c_reg ?_
    refine l_mv rfl ?_
    refine l_cvt (by kernel_rfl) rfl (wi64 (by omega)) rfl ?_ (by kernel_rfl)
    refine l_as rfl ?_
    refine l_end ?_
    exact c_ret (ret1 (v := .int .i64 (n1_ : Nat)) rfl rfl (fun w' hw => ⟨n1_, a'2_, bad'3_, rfl, ⟨hq, hf1_1.st, fun u k h0 h => hf1_1.ok u k h0 (pUpto_some h).1, fun h0 h => (by cases hp : pNum b a with | none => exact hf1_1.no h0 hp | some q => simp only [pUpto, hp, Option.bind_some] at h; obtain ⟨_, h3, _⟩ := hf1_1.ok q.1 q.2 h0 hp; rw [if_neg (by omega)] at h; cases h)⟩, (by omega), hw⟩))
theorem rinData_s (o : Nat) (v : Value) (b : List UInt8) (a : Nat) (bad : Bool) (w : World) (hl : LenOk b.length) (ha : a ≤ b.length) (hb : Rd w (fps [Res.row o 71 [v, .int .i64 (a : Nat), .bool bad]]) (Res.sl v b.length (b.map vb))) (hin : Own w (fps [Res.row o 71 [v, .int .i64 (a : Nat), .bool bad]]) [Res.row o 71 [v, .int .i64 (a : Nat), .bool bad]] w) : Rets Tryz.prog 23 #[.pointer (some ⟨o, 0, none⟩)] w fun u_ w' => ∃ (r : Value) (d : List UInt8) (a' : Nat) (bad' : Bool), u_ = r ∧ RdS pBytes b a bad d a' bad' ∧ d.length ≤ b.length ∧ Own w (fps [Res.row o 71 [v, .int .i64 (a : Nat), .bool bad]]) [Res.row o 71 [v, .int .i64 (a' : Nat), .bool bad'], Res.vec 5 1 r d.length (d.map vb)] w' := by
  refine fn_enter (args := [.pointer (some ⟨o, 0, none⟩)]) Tryz.func23 rfl Tryz.ntmps23 rfl (show Own w (fps [Res.row o 71 [v, .int .i64 (a : Nat), .bool bad]]) [Res.row o 71 [v, .int .i64 (a : Nat), .bool bad]] w from hin) ?_
  refine c_reg ?_
  refine l_as rfl ?_
  refine l_end ?_
  refine c_seq ?_
  refine c_reg ?_
  refine l_mv rfl ?_
  refine l_nck rfl rfl ?_
  refine l_fld (o := 2) rfl (by kernel_rfl) rfl ?_
  refine l_ldo 0 (v := .bool bad) rfl rfl rfl (by kernel_rfl) rfl ?_
  refine l_end ?_
  refine c_if rfl (fun c1 => ?_) (fun c1 => ?_)
  ·
    refine c_reg ?_
    refine l_as rfl ?_
    refine l_end ?_
    exact c_ret (ret1 (v := .slice none 0 0) rfl rfl (fun w' hw => ⟨.slice none 0 0, [], a, bad, rfl, RdS.badly c1 ha, (by simp), own_nil hw 5 1⟩))
  ·
    refine c_skipC ?_
    refine c_seq ?_
    refine c_heldo [0] rfl (by decide) (by kernel_rfl) (fun w' hw hS => ?_)
    refine h_take 0 rfl (by kernel_rfl) (by kernel_rfl) (by kernel_rfl) (v_mv) rfl hS ?_
    refine h_take 1 rfl (by kernel_rfl) (by kernel_rfl) (by kernel_rfl) (v_nck rfl) rfl hS ?_
    refine h_take 2 rfl (by kernel_rfl) (by kernel_rfl) (by kernel_rfl) (v_fld (o := 0) rfl (by kernel_rfl)) rfl hS ?_
    refine h_take 3 rfl (by kernel_rfl) (by kernel_rfl) (by kernel_rfl) (v_ldo 0 (v := v) rfl rfl rfl (by kernel_rfl)) rfl hS ?_
    refine h_take 4 rfl (by kernel_rfl) (by kernel_rfl) (by kernel_rfl) (v_mv) rfl hS ?_
    refine h_take 5 rfl (by kernel_rfl) (by kernel_rfl) (by kernel_rfl) (v_nck rfl) rfl hS ?_
    refine h_take 6 rfl (by kernel_rfl) (by kernel_rfl) (by kernel_rfl) (v_fld (o := 1) rfl (by kernel_rfl)) rfl hS ?_
    refine h_take 7 rfl (by kernel_rfl) (by kernel_rfl) (by kernel_rfl) (v_ldo 0 (v := .int .i64 (a : Nat)) rfl rfl rfl (by kernel_rfl)) rfl hS ?_
    refine h_one 8 (by kernel_rfl) rfl hw ?_
    refine l_call (by kernel_rfl) rfl rfl (fun w' hw => ?_)
    refine (rbytes_r v b a w' (by first | assumption | omega | (simp <;> omega) | (constructor <;> (first | omega | (simp only [LenOk]; omega) | (simp <;> omega)))) (by first | assumption | omega | (simp <;> omega) | (constructor <;> (first | omega | (simp only [LenOk]; omega) | (simp <;> omega)))) (hw.rd0 hb)).mono ?_
    rintro _ w1 ⟨r1_, d2_, k3_, e4_, rfl, hf3_8, hO⟩
    refine (?_ : CL _ _ _ _ _ _ (Own w (fps [Res.row o 71 [v, .int .i64 (a : Nat), .bool bad]]) [Res.row o 71 [v, .int .i64 (a : Nat), .bool bad], Res.vec 5 1 r1_ d2_.length (d2_.map vb)])) w1 (hw.frame0 hO)
    refine l_nil (fun w' hw => ?_)
    have hS := hw.sel [0] rfl (by decide)
    refine ⟨hS, ?_⟩
    refine h_take 9 rfl (by kernel_rfl) (by kernel_rfl) (by kernel_rfl) (v_mv) rfl hS ?_
    refine h_take 10 rfl (by kernel_rfl) (by kernel_rfl) (by kernel_rfl) (v_ext (vs := [r1_, .int .i64 (k3_ : Nat), .int .i64 e4_]) rfl rfl) rfl hS ?_
    refine h_take 11 rfl (by kernel_rfl) (by kernel_rfl) (by kernel_rfl) (v_ext (vs := [r1_, .int .i64 (k3_ : Nat), .int .i64 e4_]) rfl rfl) rfl hS ?_
    refine h_take 12 rfl (by kernel_rfl) (by kernel_rfl) (by kernel_rfl) (v_ext (vs := [r1_, .int .i64 (k3_ : Nat), .int .i64 e4_]) rfl rfl) rfl hS ?_
    refine h_take 13 rfl (by kernel_rfl) (by kernel_rfl) (by kernel_rfl) (v_as) rfl hS ?_
    refine h_take 14 rfl (by kernel_rfl) (by kernel_rfl) (by kernel_rfl) (v_as) rfl hS ?_
    refine h_take 15 rfl (by kernel_rfl) (by kernel_rfl) (by kernel_rfl) (v_as) rfl hS ?_
    refine h_done (by kernel_rfl) ?_
    refine (?_ : C _ _ _ _ _ _ _ (Own w (fps [Res.row o 71 [v, .int .i64 (a : Nat), .bool bad]]) [Res.row o 71 [v, .int .i64 (a : Nat), .bool bad], Res.vec 5 1 r1_ d2_.length (d2_.map vb)])) _ hw
    refine c_seq ?_
    refine c_reg ?_
    refine l_mv rfl ?_
    refine l_ne rfl rfl rfl ?_
    refine l_end ?_
    refine c_dec rfl (fun c2 => ?_) (fun c2 => ?_)
    ·
      refine c_reg ?_
      refine l_mv rfl ?_
      refine l_nck rfl rfl ?_
      refine l_fld (o := 2) rfl (by kernel_rfl) rfl ?_
      refine l_st (cs := [v, .int .i64 (a : Nat), .bool bad]) 0 rfl rfl rfl (by kernel_rfl) rfl (Nat.le_of_ble_eq_true rfl) ?_
      refine l_end ?_
      refine c_reg ?_
      refine l_as rfl ?_
      refine l_end ?_
      exact c_ret (ret1 (v := .slice none 0 0) rfl rfl (fun w' hw => ⟨.slice none 0 0, [], a, true, rfl, RdS.fail ha fun _ => hf3_8.no c2, (by simp), own_nil (hw.one 0 rfl) 5 1⟩))
    ·
      refine c_skipC ?_
      refine c_reg ?_
      refine l_mv rfl ?_
      refine l_mv rfl ?_
      refine l_nck rfl rfl ?_
      refine l_fld (o := 1) rfl (by kernel_rfl) rfl ?_
      refine l_st (cs := [v, .int .i64 (a : Nat), .bool bad]) 0 rfl rfl rfl (by kernel_rfl) rfl (Nat.le_of_ble_eq_true rfl) ?_
      refine l_end ?_
      refine c_reg ?_
      refine l_mv rfl ?_
      refine l_as rfl ?_
      refine l_end ?_
      exact c_ret (ret1 (v := r1_) rfl rfl (fun w' hw => ⟨r1_, d2_, k3_, bad, rfl, RdS.done (pBytes_some (hf3_8.yes (by omega))).1 (hf3_8.yes (by omega)), (pBytes_some (hf3_8.yes (by omega))).2, hw⟩))
theorem rinIds_s (o : Nat) (v : Value) (b : List UInt8) (a : Nat) (bad : Bool) (w : World) (hl : LenOk b.length) (ha : a ≤ b.length) (hb : Rd w (fps [Res.row o 71 [v, .int .i64 (a : Nat), .bool bad]]) (Res.sl v b.length (b.map vb))) (hin : Own w (fps [Res.row o 71 [v, .int .i64 (a : Nat), .bool bad]]) [Res.row o 71 [v, .int .i64 (a : Nat), .bool bad]] w) : Rets Tryz.prog 60 #[.pointer (some ⟨o, 0, none⟩)] w fun u_ w' => ∃ (r : Value) (l : List Int) (a' : Nat) (bad' : Bool), u_ = r ∧ RdS pIds b a bad l a' bad' ∧ l.length ≤ 16 ∧ Own w (fps [Res.row o 71 [v, .int .i64 (a : Nat), .bool bad]]) [Res.row o 71 [v, .int .i64 (a' : Nat), .bool bad'], Res.vec 3 1 r l.length (l.flatMap I1)] w' := by
  refine fn_enter (args := [.pointer (some ⟨o, 0, none⟩)]) Tryz.func60 rfl Tryz.ntmps60 rfl (show Own w (fps [Res.row o 71 [v, .int .i64 (a : Nat), .bool bad]]) [Res.row o 71 [v, .int .i64 (a : Nat), .bool bad]] w from hin) ?_
  refine c_reg ?_
  refine l_as rfl ?_
  refine l_end ?_
  refine c_reg ?_
  refine l_as rfl ?_
  refine l_end ?_
  refine c_reg ?_
  refine l_mv rfl ?_
  refine l_call (by kernel_rfl) rfl rfl (fun w' hw => ?_)
  refine (rinInt_s o v b a bad 16 w' (by first | assumption | omega | (simp <;> omega) | (constructor <;> (first | omega | (simp only [LenOk]; omega) | (simp <;> omega)))) (by first | assumption | omega | (simp <;> omega) | (constructor <;> (first | omega | (simp only [LenOk]; omega) | (simp <;> omega)))) (by first | assumption | omega | (simp <;> omega) | (constructor <;> (first | omega | (simp only [LenOk]; omega) | (simp <;> omega)))) (hw.rdTo hb [0] rfl) (hw.give [0] rfl (by decide))).mono ?_
  rintro _ w1 ⟨n1_, a'2_, bad'3_, rfl, hf2_1, hf2_1_1, hO⟩
  refine (?_ : CL _ _ _ _ _ _ (Own w (fps [Res.row o 71 [v, .int .i64 (a : Nat), .bool bad]]) [Res.row o 71 [v, .int .i64 (a'2_ : Nat), .bool bad'3_]])) w1 (hw.frameL [0] rfl hO)
  refine l_as rfl ?_
  refine l_end ?_
  refine c_seq ?_
  refine c_reg ?_
  refine l_as rfl ?_
  refine l_end ?_
  refine c_block ?_
  refine c_loop5 (fun (k : Nat) (lv : Value) (l : List Int) (a2 : Nat) (bad2 : Bool) => [(0, .pointer (some ⟨o, 0, none⟩)), (3, lv), (4, .int .i64 (n1_ : Nat)), (5, .int .i64 (k : Nat))]) (fun (k : Nat) (lv : Value) (l : List Int) (a2 : Nat) (bad2 : Bool) => (k ≤ n1_ ∧ l.length = k) ∧ RdS (pRep (pInt 16) k) b a'2_ bad'3_ l a2 bad2) (fun (k : Nat) (lv : Value) (l : List Int) (a2 : Nat) (bad2 : Bool) => [Res.row o 71 [v, .int .i64 (a2 : Nat), .bool bad2], Res.vec 3 1 lv l.length (l.flatMap I1)]) (fun (k : Nat) (lv : Value) (l : List Int) (a2 : Nat) (bad2 : Bool) => n1_ - k) (fun w' hw => ⟨0, .slice none 0 0, [], a'2_, bad'3_, ⟨rfl, rfl, rfl, rfl, trivial⟩, ⟨⟨Nat.zero_le _, rfl⟩, RdS.pure _ hf2_1.le⟩, own_nil hw 3 1⟩) (fun k lv l a2 bad2 g hΦ => ?_)
  have ha2 := hΦ.2.le
  have hlk := hΦ.1.2
  refine c_seq ?_
  refine c_reg ?_
  refine l_mv rfl ?_
  refine l_mv rfl ?_
  refine l_lss rfl rfl rfl ?_
  refine l_mv rfl ?_
  refine l_band (q := ((k : Nat) : Int) < ((n1_ : Nat) : Int)) 5 3 [17, 16, 15, 14, 13] ((!bad2) = true) rfl rfl rfl rfl rfl rfl trivial rfl (fun h4_3 => ?_) (fun g4_9 => ?_)
  ·
    refine l_on rfl (gT h4_3) ?_
    refine l_mv rfl ?_
    refine l_on rfl (gT h4_3) ?_
    refine l_nck rfl rfl ?_
    refine l_on rfl (gT h4_3) ?_
    refine l_fld (o := 2) rfl (by kernel_rfl) rfl ?_
    refine l_on rfl (gT h4_3) ?_
    refine l_ldo 0 (v := .bool bad2) rfl rfl rfl (by kernel_rfl) rfl ?_
    refine l_on rfl (gT h4_3) ?_
    refine l_not (b := bad2) rfl rfl ?_
    exact l_nil (fun w' hw => ⟨(by repeat (first | exact Out.refl _ _ | refine Out.upd rfl ?_ | refine Out.msk rfl ?_)), (bool_dec _), hw⟩)
  refine l_end ?_
  refine c_dec rfl (fun c1 => ?_) (fun c1 => ?_)
  ·
    refine c_skipC ?_
    refine c_seq ?_
    refine c_block ?_
    refine c_reg ?_
    refine l_mv rfl ?_
    refine l_call (by kernel_rfl) rfl rfl (fun w' hw => ?_)
    refine (rinInt_s o v b a2 bad2 16 w' (by first | assumption | omega | (simp <;> omega) | (constructor <;> (first | omega | (simp only [LenOk]; omega) | (simp <;> omega)))) (by first | assumption | omega | (simp <;> omega) | (constructor <;> (first | omega | (simp only [LenOk]; omega) | (simp <;> omega)))) (by first | assumption | omega | (simp <;> omega) | (constructor <;> (first | omega | (simp only [LenOk]; omega) | (simp <;> omega)))) (hw.rdTo hb [0] rfl) (hw.give [0] rfl (by decide))).mono ?_
    rintro _ w1 ⟨n4_, a'5_, bad'6_, rfl, hf6_1, hf6_1_1, hO⟩
    refine (?_ : CL _ _ _ _ _ _ (Own w (fps [Res.row o 71 [v, .int .i64 (a : Nat), .bool bad]]) [Res.vec 3 1 lv l.length (l.flatMap I1), Res.row o 71 [v, .int .i64 (a'5_ : Nat), .bool bad'6_]])) w1 (hw.frameL [0] rfl hO)
    refine l_as rfl ?_
    refine l_end ?_
    refine c_last ?_
    refine l_mv rfl ?_
    refine l_mv rfl ?_
    refine l_bsl (e := 3) (sz := 1) (vs := [.int .i64 (n4_ : Nat)]) (by kernel_rfl) rfl rfl (by simp [Value.cells]) (by decide) rfl (fun b25 => ?_)
    refine l_appF (g := I1) (sz := 1) (by' := 8) (fun _ => rfl) (l := l) (l' := [((n4_ : Nat) : Int)]) (by simp [cell1, I1]) 0 (by kernel_rfl) rfl rfl rfl (fun w' hw' => Vec.sl (Own.holds hw' 2 _ rfl)) (by first | omega | (simp; omega)) (by decide) rfl (fun v26 => ?_)
    refine l_as rfl ?_
    refine l_end ?_
    refine c_last ?_
    refine l_mv rfl ?_
    refine l_add rfl rfl (wi64 (by omega)) rfl ?_
    refine l_as rfl ?_
    exact l_nil (fun w' hw => ⟨k + 1, v26, l ++ [((n4_ : Nat) : Int)], a'5_, bad'6_, ⟨rfl, rfl, rfl, rfl, trivial⟩, ⟨⟨by omega, by simp [hlk]⟩, hΦ.2.snoc (RdS.map (fun n : Nat => (n : Int)) hf6_1)⟩, hw.sel [1, 0] rfl (by decide), (by omega)⟩)
  ·
    refine c_exitC rfl ?_
    refine c_reg ?_
    refine l_mv rfl ?_
    refine l_as rfl ?_
    refine l_end ?_
    exact c_ret (ret1 (v := lv) rfl rfl (fun w' hw => ⟨lv, l, a2, bad2, rfl, ids_end2 hf2_1 hΦ.2 c1 (by omega), (by omega), hw⟩))
theorem whole_s (o : Nat) (v : Value) (b : List UInt8) (a : Nat) (bad : Bool) (w : World) (hl : LenOk b.length) (hb : Rd w (fps [Res.row o 71 [v, .int .i64 (a : Nat), .bool bad]]) (Res.sl v b.length (b.map vb))) (hin : Own w (fps [Res.row o 71 [v, .int .i64 (a : Nat), .bool bad]]) [Res.row o 71 [v, .int .i64 (a : Nat), .bool bad]] w) : Rets Tryz.prog 24 #[.pointer (some ⟨o, 0, none⟩)] w fun u_ w' => u_ = .bool (decide (bad = false ∧ a = b.length)) ∧ Own w (fps [Res.row o 71 [v, .int .i64 (a : Nat), .bool bad]]) [Res.row o 71 [v, .int .i64 (a : Nat), .bool bad]] w' := by
  refine fn_enter (args := [.pointer (some ⟨o, 0, none⟩)]) Tryz.func24 rfl Tryz.ntmps24 rfl (show Own w (fps [Res.row o 71 [v, .int .i64 (a : Nat), .bool bad]]) [Res.row o 71 [v, .int .i64 (a : Nat), .bool bad]] w from hin) ?_
  refine c_reg ?_
  refine l_as rfl ?_
  refine l_end ?_
  refine c_quiets (by kernel_rfl) (by kernel_rfl) ?_
  refine q_val rfl (v_mv) ?_
  refine q_val rfl (v_nck rfl) ?_
  refine q_val rfl (v_fld (o := 2) rfl (by kernel_rfl)) ?_
  refine q_val rfl (v_ldo 0 (v := .bool bad) rfl rfl rfl (by kernel_rfl)) ?_
  refine q_val rfl (v_not (b := bad) rfl) ?_
  refine q_val rfl (v_mv) ?_
  refine q_band (q := (!bad) = true) 10 5 [18, 17, 16, 15, 14, 13, 12, 11, 10, 9] (((a : Nat) : Int) = ((b.length : Nat) : Int)) rfl rfl (bool_dec _) rfl rfl rfl trivial rfl (fun h1_5 => ?_) (fun g1_16 => ?_)
  ·
    refine q_on rfl (bT h1_5) ?_
    refine q_val rfl (v_mv) ?_
    refine q_on rfl (bT h1_5) ?_
    refine q_val rfl (v_nck rfl) ?_
    refine q_on rfl (bT h1_5) ?_
    refine q_val rfl (v_fld (o := 1) rfl (by kernel_rfl)) ?_
    refine q_on rfl (bT h1_5) ?_
    refine q_val rfl (v_ldo 0 (v := .int .i64 (a : Nat)) rfl rfl rfl (by kernel_rfl)) ?_
    refine q_on rfl (bT h1_5) ?_
    refine q_val rfl (v_mv) ?_
    refine q_on rfl (bT h1_5) ?_
    refine q_val rfl (v_nck rfl) ?_
    refine q_on rfl (bT h1_5) ?_
    refine q_val rfl (v_fld (o := 0) rfl (by kernel_rfl)) ?_
    refine q_on rfl (bT h1_5) ?_
    refine q_val rfl (v_ldo 0 (v := v) rfl rfl rfl (by kernel_rfl)) ?_
    refine q_on rfl (bT h1_5) ?_
    refine q_val rfl (v_lenS (len := b.length) (cs := (b.map vb)) (by kernel_rfl) rfl (fun w' hw' => Own.rd hb hw')) ?_
    refine q_on rfl (bT h1_5) ?_
    refine q_val rfl (v_eq rfl rfl) ?_
    exact q_nil (fun w' hw => ⟨(by repeat (first | exact Out.refl _ _ | refine Out.upd rfl ?_ | refine Out.msk rfl ?_)), rfl, hw⟩)
  refine q_val rfl (v_as) ?_
  refine q_end ?_
  exact c_ret (ret1 (v := .bool (decide (((!bad) = true) ∧ (((a : Nat) : Int) = ((b.length : Nat) : Int))))) rfl rfl (fun w' hw => ⟨(by cases bad <;> simp_all; omega), hw⟩))
end Go.Proofs.YtlkoekhjegaimaaGreat
