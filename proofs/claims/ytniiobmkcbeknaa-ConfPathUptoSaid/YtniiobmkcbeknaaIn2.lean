/-
  THE WALKS OF the readers of lists: data, ids; and the reference's readers.
-/
import Derived.Test.YtniiobmkcbeknaaIn
set_option linter.unusedVariables false
set_option maxRecDepth 10000
namespace Go.Proofs.Ytniiobmkcbeknaa
open Go Go.Sc Go.Proofs

theorem BytesPost.yes {p : Option (List UInt8 × Nat)} {d : List UInt8} {k : Nat} {e : Int} (h : BytesPost p d k e) (he : e = 0) : p = some (d, k) := by
  rcases h with h | h
  · exact h.2
  · exact absurd he h.1
theorem BytesPost.no {p : Option (List UInt8 × Nat)} {d : List UInt8} {k : Nat} {e : Int} (h : BytesPost p d k e) (he : e ≠ 0) : p = none := by
  rcases h with h | h
  · exact absurd h.1 he
  · exact h.2
def pRep {α : Type} (p : List UInt8 → Nat → Option (α × Nat)) : Nat → List UInt8 → Nat → Option (List α × Nat)
  | 0 => pPure []
  | k + 1 => pBind (pRep p k) fun l => pBind p fun x => pPure (l ++ [x])
theorem RdS.snoc {α : Type} {p : List UInt8 → Nat → Option (α × Nat)} {b : List UInt8} {a a1 a2 k : Nat} {bad bad1 bad2 : Bool} {l : List α} {x : α} (h1 : RdS (pRep p k) b a bad l a1 bad1) (h2 : RdS p b a1 bad1 x a2 bad2) : RdS (pRep p (k + 1)) b a bad (l ++ [x]) a2 bad2 :=
  h1.bind (h2.map (l ++ [·]))
theorem pRep_none {α : Type} {p : List UInt8 → Nat → Option (α × Nat)} {b : List UInt8} {a k : Nat} (h : pRep p k b a = none) : ∀ n, k ≤ n → pRep p n b a = none := by
  intro n hn
  induction n with
  | zero => rw [show k = 0 by omega] at h; exact h
  | succ n ih =>
    by_cases hk : k = n + 1
    · rw [← hk]; exact h
    · simp only [pRep, pBind, ih (by omega), Option.bind_none]
theorem RdS.stop {α : Type} {p : List UInt8 → Nat → Option (α × Nat)} {b : List UInt8} {a a1 k n : Nat} {bad : Bool} {l : List α} (h : RdS (pRep p k) b a bad l a1 true) (hn : k ≤ n) : RdS (pRep p n) b a bad l a1 true := by
  refine ⟨h.le, h.st, fun v j hb hv => ?_, fun _ _ => rfl⟩
  cases hp : pRep p k b a with
  | none => rw [pRep_none hp n hn] at hv; cases hv
  | some q => have := (h.ok q.1 q.2 hb hp).1; cases this
def pInt (most : Nat) : List UInt8 → Nat → Option (Int × Nat) := pBind (pUpto most) fun n => pPure (n : Int)
def pIds : List UInt8 → Nat → Option (List Int × Nat) := pBind (pUpto 16) fun n => pRep (pInt 16) n

theorem ids_end {b : List UInt8} {a a1 a2 n k : Nat} {bad bad1 bad2 : Bool} {l : List Int} (h1 : RdS (pUpto 16) b a bad n a1 bad1) (h2 : RdS (pRep (pInt 16) k) b a1 bad1 l a2 bad2) (e : k = n) : RdS pIds b a bad l a2 bad2 := by
  subst e; exact h1.bind h2

theorem ids_end2 {b : List UInt8} {a a1 a2 n k : Nat} {bad bad1 bad2 : Bool} {l : List Int} (h1 : RdS (pUpto 16) b a bad n a1 bad1) (h2 : RdS (pRep (pInt 16) k) b a1 bad1 l a2 bad2) (c : ¬ ((k : Int) < n ∧ (!bad2) = true)) (hk : k ≤ n) : RdS pIds b a bad l a2 bad2 := by
  by_cases e : k = n
  · exact ids_end h1 h2 e
  · have hb : bad2 = true := by cases bad2; exact absurd ⟨by omega, rfl⟩ c; rfl
    subst hb
    exact h1.bind (h2.stop hk)

-- no function (*scupper/msg.in).data

theorem inIds_s (o : Nat) (v : Value) (b : List UInt8) (a : Nat) (bad : Bool) (w : World) (hl : LenOk b.length) (ha : a ≤ b.length) (hb : Rd w (fps [Res.row o 105 [v, .int .i64 (a : Nat), .bool bad]]) (Res.sl v b.length (b.map vb))) (hin : Own w (fps [Res.row o 105 [v, .int .i64 (a : Nat), .bool bad]]) [Res.row o 105 [v, .int .i64 (a : Nat), .bool bad]] w) : Rets Try.prog 56 #[.pointer (some ⟨o, 0, none⟩)] w fun u_ w' => ∃ (r : Value) (l : List Int) (a' : Nat) (bad' : Bool), u_ = r ∧ RdS pIds b a bad l a' bad' ∧ l.length ≤ 16 ∧ Own w (fps [Res.row o 105 [v, .int .i64 (a : Nat), .bool bad]]) [Res.row o 105 [v, .int .i64 (a' : Nat), .bool bad'], Res.vec 3 1 r l.length (l.flatMap I1)] w' := by
  refine fn_enter (args := [.pointer (some ⟨o, 0, none⟩)]) Try.func56 rfl Try.ntmps56 rfl (show Own w (fps [Res.row o 105 [v, .int .i64 (a : Nat), .bool bad]]) [Res.row o 105 [v, .int .i64 (a : Nat), .bool bad]] w from hin) ?_
  refine c_reg ?_
  refine l_as rfl ?_
  refine l_end ?_
  refine c_reg ?_
  refine l_as rfl ?_
  refine l_end ?_
  refine c_seq ?_
  refine c_reg ?_
  refine l_mv rfl ?_
  refine l_call (by kernel_rfl) rfl rfl (fun w' hw => ?_)
  refine (inUpto_s o v b a bad 16 w' (by first | assumption | omega | (simp <;> omega) | (constructor <;> (first | omega | (simp only [LenOk]; omega) | (simp <;> omega)))) (by first | assumption | omega | (simp <;> omega) | (constructor <;> (first | omega | (simp only [LenOk]; omega) | (simp <;> omega)))) (by first | assumption | omega | (simp <;> omega) | (constructor <;> (first | omega | (simp only [LenOk]; omega) | (simp <;> omega)))) (hw.rdTo hb [0] rfl) (hw.give [0] rfl (by decide))).mono ?_
  rintro _ w1 ⟨n1_, a'2_, bad'3_, rfl, hf2_1, hf2_1_1, hO⟩
  refine (?_ : CL _ _ _ _ _ _ (Own w (fps [Res.row o 105 [v, .int .i64 (a : Nat), .bool bad]]) [Res.row o 105 [v, .int .i64 (a'2_ : Nat), .bool bad'3_]])) w1 (hw.frameL [0] rfl hO)
  refine l_mv rfl ?_
  refine l_end ?_
  refine c_block ?_
  refine c_loop5 (fun (k : Nat) (lv : Value) (l : List Int) (a2 : Nat) (bad2 : Bool) => [(0, .pointer (some ⟨o, 0, none⟩)), (3, lv), (5, .int .i64 (n1_ : Nat)), (6, .int .i64 (k : Nat))]) (fun (k : Nat) (lv : Value) (l : List Int) (a2 : Nat) (bad2 : Bool) => (k ≤ n1_ ∧ l.length = k) ∧ RdS (pRep (pInt 16) k) b a'2_ bad'3_ l a2 bad2) (fun (k : Nat) (lv : Value) (l : List Int) (a2 : Nat) (bad2 : Bool) => [Res.row o 105 [v, .int .i64 (a2 : Nat), .bool bad2], Res.vec 3 1 lv l.length (l.flatMap I1)]) (fun (k : Nat) (lv : Value) (l : List Int) (a2 : Nat) (bad2 : Bool) => n1_ - k) (fun w' hw => ⟨0, .slice none 0 0, [], a'2_, bad'3_, ⟨rfl, rfl, rfl, rfl, trivial⟩, ⟨⟨Nat.zero_le _, rfl⟩, RdS.pure _ hf2_1.le⟩, own_nil hw 3 1⟩) (fun k lv l a2 bad2 g hΦ => ?_)
  have ha2 := hΦ.2.le
  have hlk := hΦ.1.2
  refine c_reg ?_
  refine l_lss rfl rfl rfl ?_
  refine l_end ?_
  refine c_seq ?_
  refine c_dec rfl (fun c1 => ?_) (fun c1 => ?_)
  ·
    refine c_skipC ?_
    refine c_seq ?_
    refine c_block ?_
    refine c_last ?_
    refine l_mv rfl ?_
    refine l_mv rfl ?_
    refine l_call (by kernel_rfl) rfl rfl (fun w' hw => ?_)
    refine (inUpto_s o v b a2 bad2 16 w' (by first | assumption | omega | (simp <;> omega) | (constructor <;> (first | omega | (simp only [LenOk]; omega) | (simp <;> omega)))) (by first | assumption | omega | (simp <;> omega) | (constructor <;> (first | omega | (simp only [LenOk]; omega) | (simp <;> omega)))) (by first | assumption | omega | (simp <;> omega) | (constructor <;> (first | omega | (simp only [LenOk]; omega) | (simp <;> omega)))) (hw.rdTo hb [0] rfl) (hw.give [0] rfl (by decide))).mono ?_
    rintro _ w1 ⟨n4_, a'5_, bad'6_, rfl, hf4_2, hf4_2_1, hO⟩
    refine (?_ : CL _ _ _ _ _ _ (Own w (fps [Res.row o 105 [v, .int .i64 (a : Nat), .bool bad]]) [Res.vec 3 1 lv l.length (l.flatMap I1), Res.row o 105 [v, .int .i64 (a'5_ : Nat), .bool bad'6_]])) w1 (hw.frameL [0] rfl hO)
    refine l_bsl (e := 3) (sz := 1) (vs := [.int .i64 (n4_ : Nat)]) (by kernel_rfl) rfl rfl (by simp [Value.cells]) (by decide) rfl (fun b11 => ?_)
    refine l_appF (g := I1) (sz := 1) (by' := 8) (fun _ => rfl) (l := l) (l' := [((n4_ : Nat) : Int)]) (by simp [cell1, I1]) 0 (by kernel_rfl) rfl rfl rfl (fun w' hw' => Vec.sl (Own.holds hw' 2 _ rfl)) (by first | omega | (simp; omega)) (by decide) rfl (fun v12 => ?_)
    refine l_as rfl ?_
    refine l_end ?_
    refine c_last ?_
    refine l_add rfl rfl (wi64 (by omega)) rfl ?_
    refine l_mv rfl ?_
    exact l_nil (fun w' hw => ⟨k + 1, v12, l ++ [((n4_ : Nat) : Int)], a'5_, bad'6_, ⟨rfl, rfl, rfl, rfl, trivial⟩, ⟨⟨by omega, by simp [hlk]⟩, hΦ.2.snoc (RdS.map (fun n : Nat => (n : Int)) hf4_2)⟩, hw.sel [1, 0] rfl (by decide), (by omega)⟩)
  ·
    refine c_exitC rfl ?_
    refine c_reg ?_
    refine l_mv rfl ?_
    refine l_as rfl ?_
    refine l_end ?_
    exact c_ret (ret1 (v := lv) rfl rfl (fun w' hw => ⟨lv, l, a2, bad2, rfl, ids_end hf2_1 hΦ.2 (by omega), (by omega), hw⟩))

/-! the reference's -/
-- no function scupper/scupperref01.Num

-- no function scupper/scupperref01.Bytes

-- no function (*scupper/scupperref03.In).Num
-- no function (*scupper/scupperref03.In).Int
-- no function (*scupper/scupperref03.In).Data
-- no function (*scupper/scupperref03.In).ids
-- no function (*scupper/scupperref03.In).Whole
end Go.Proofs.Ytniiobmkcbeknaa
