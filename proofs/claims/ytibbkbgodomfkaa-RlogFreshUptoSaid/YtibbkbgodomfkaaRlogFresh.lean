/-
  RlogFresh is true of every input that is not greater than the statement's bound: the program returns, it returns true, and what came in reads as it did. Condition: the bulk that the statement names.
-/
import Derived.Test.YtibbkbgodomfkaaRlogRd
set_option linter.unusedVariables false
set_option maxRecDepth 10000
namespace Go.Proofs.Ytibbkbgodomfkaa
open Go Go.Sc Go.Proofs Go.RowKit Go.ChangeShapes Go.WideShapes

theorem RdA.arr2 {P : Program} {W : World} {t e : TypeId} (ht : P.underlying t = some (.array 2 e)) (hs : P.cellsOf t = 2) (hse : P.cellsOf e = 1) (he : P.underlying e = some (.int .u64)) :
    RdA P W t (fun p : Nat × Nat => [.int .u64 p.1, .int .u64 p.2]) (fun p => isU p.1 ∧ isU p.2) (fun _ => 1) := by
  intro H enc fuel cs x hx
  obtain ⟨xs, m, rfl, rfl, hl, hxl, hall⟩ := DataW.trod_array ht hx
  rw [hs] at hl
  match cs, hl with
  | [c0, c1], _ =>
    match xs, hxl with
    | [x0, x1], _ =>
      have h0 := hall 0 (by decide)
      have h1 := hall 1 (by decide)
      rw [hse] at h0 h1
      obtain ⟨a, ea, wa, _⟩ := (RdA.u64 (W := W) he) H enc m [c0] x0 (by simpa using h0)
      obtain ⟨b, eb, wb, _⟩ := (RdA.u64 (W := W) he) H enc m [c1] x1 (by simpa using h1)
      simp only [List.cons.injEq, and_true] at ea eb
      exact ⟨(a, b), by rw [ea, eb], ⟨wa, wb⟩, by simp [Rows.uptoBulk]⟩
theorem arg_arr {P : Program} {w : World} {t e : TypeId} {n : Nat} {r : Reach} {b0 : Nat} {v : Value} {cs : List Value} (ht : P.underlying t = some (.array n e)) (h : Value.okWide P w r b0 t v) (hc : v.cells.toList = cs) : v = .agg cs.toArray := by
  simp only [Value.okWide, ht] at h
  obtain ⟨a, rfl, _⟩ := h
  subst hc
  simp [Value.cells]
theorem fresh_nil {i t k u : Nat} : (LG i t []).fresh k u ↔ t < u ∨ (u = t ∧ i ≤ k) := Iff.rfl

theorem end_nil {i t : Nat} : (LG i t []).end_ = t := rfl
theorem rlogFresh_s (a0 a1 b0 b1 c0 c1 : Nat) (w : World) : Rets Try.prog 3 #[.agg #[.int .u64 (a0 : Nat), .int .u64 (a1 : Nat)], .agg #[.int .u64 (b0 : Nat), .int .u64 (b1 : Nat)], .agg #[.int .u64 (c0 : Nat), .int .u64 (c1 : Nat)]] w fun u_ w' => u_ = .bool true ∧ Own w [] [] w' := by
  refine fn_enter (args := [.agg #[.int .u64 (a0 : Nat), .int .u64 (a1 : Nat)], .agg #[.int .u64 (b0 : Nat), .int .u64 (b1 : Nat)], .agg #[.int .u64 (c0 : Nat), .int .u64 (c1 : Nat)]]) Try.func3 rfl Try.ntmps3 rfl (Own.start w) ?_
  refine c_reg ?_
  refine l_box rfl rfl (fun b3 => ?_)
  refine l_box rfl rfl (fun b4 => ?_)
  refine l_box rfl rfl (fun b5 => ?_)
  refine l_as rfl ?_
  refine l_end ?_
  refine c_seq ?_
  refine c_heldo [0, 1, 2] rfl (by decide) (by kernel_rfl) (fun w' hw hS => ?_)
  refine h_take 0 rfl (by kernel_rfl) (by kernel_rfl) (by kernel_rfl) (v_idxA (j := 0) (len := 2) (sz := 1) rfl rfl (by kernel_rfl) rfl (by decide)) rfl hS ?_
  refine h_take 1 rfl (by kernel_rfl) (by kernel_rfl) (by kernel_rfl) (v_ldo 0 (v := .int .u64 (a0 : Nat)) rfl rfl rfl (by kernel_rfl)) rfl hS ?_
  refine h_take 2 rfl (by kernel_rfl) (by kernel_rfl) (by kernel_rfl) (v_rem (c := ((a0 % 4611686018427387904 : Nat) : Int)) rfl rfl (by omega) rfl) rfl hS ?_
  refine h_take 3 rfl (by kernel_rfl) (by kernel_rfl) (by kernel_rfl) (v_idxA (j := 1) (len := 2) (sz := 1) rfl rfl (by kernel_rfl) rfl (by decide)) rfl hS ?_
  refine h_take 4 rfl (by kernel_rfl) (by kernel_rfl) (by kernel_rfl) (v_ldo 0 (v := .int .u64 (a1 : Nat)) rfl rfl rfl (by kernel_rfl)) rfl hS ?_
  refine h_take 5 rfl (by kernel_rfl) (by kernel_rfl) (by kernel_rfl) (v_rem (c := ((a1 % 4611686018427387904 : Nat) : Int)) rfl rfl (by omega) rfl) rfl hS ?_
  refine h_take 7 rfl (by kernel_rfl) (by kernel_rfl) (by kernel_rfl) (v_idxA (j := 0) (len := 2) (sz := 1) rfl rfl (by kernel_rfl) rfl (by decide)) rfl hS ?_
  refine h_take 8 rfl (by kernel_rfl) (by kernel_rfl) (by kernel_rfl) (v_ldo 1 (v := .int .u64 (b0 : Nat)) rfl rfl rfl (by kernel_rfl)) rfl hS ?_
  refine h_take 9 rfl (by kernel_rfl) (by kernel_rfl) (by kernel_rfl) (v_rem (c := ((b0 % 4611686018427387904 : Nat) : Int)) rfl rfl (by omega) rfl) rfl hS ?_
  refine h_take 10 rfl (by kernel_rfl) (by kernel_rfl) (by kernel_rfl) (v_idxA (j := 1) (len := 2) (sz := 1) rfl rfl (by kernel_rfl) rfl (by decide)) rfl hS ?_
  refine h_take 11 rfl (by kernel_rfl) (by kernel_rfl) (by kernel_rfl) (v_ldo 1 (v := .int .u64 (b1 : Nat)) rfl rfl rfl (by kernel_rfl)) rfl hS ?_
  refine h_take 12 rfl (by kernel_rfl) (by kernel_rfl) (by kernel_rfl) (v_rem (c := ((b1 % 4611686018427387904 : Nat) : Int)) rfl rfl (by omega) rfl) rfl hS ?_
  refine h_one 6 (by kernel_rfl) rfl hw ?_
  refine l_call (by kernel_rfl) rfl rfl (fun w' hw => ?_)
  refine (new_s (a0 % 4611686018427387904) (a1 % 4611686018427387904) w' (by first | assumption | omega | (simp <;> omega) | (constructor <;> (first | omega | (simp only [LenOk]; omega) | (simp <;> omega)))) (by first | assumption | omega | (simp <;> omega) | (constructor <;> (first | omega | (simp only [LenOk]; omega) | (simp <;> omega))))).mono ?_
  rintro _ w1 ⟨b1_, rfl, hO⟩
  refine (?_ : CL _ _ _ _ _ _ (Own w [] [Res.row b3 23 [.int .u64 (a0 : Nat), .int .u64 (a1 : Nat)], Res.row b4 23 [.int .u64 (b0 : Nat), .int .u64 (b1 : Nat)], Res.row b5 23 [.int .u64 (c0 : Nat), .int .u64 (c1 : Nat)], Res.row b1_ 66 [.int .u64 ((a0 % 4611686018427387904) : Nat), .int .u64 ((a1 % 4611686018427387904) : Nat), (.slice none 0 0)], Res.vec 38 5 (.slice none 0 0) ([] : List EntD).length (([] : List EntD).flatMap EntD.cells), Res.star (([] : List EntD).map EntD.dres)])) w1 (hw.frame0 hO)
  refine l_nil (fun w' hw => ?_)
  have hS := hw.sel [0, 1, 2] rfl (by decide)
  refine ⟨hS, ?_⟩
  refine h_one 13 (by kernel_rfl) rfl hw ?_
  refine l_call (by kernel_rfl) rfl rfl (fun w' hw => ?_)
  refine (new_s (b0 % 4611686018427387904) (b1 % 4611686018427387904) w' (by first | assumption | omega | (simp <;> omega) | (constructor <;> (first | omega | (simp only [LenOk]; omega) | (simp <;> omega)))) (by first | assumption | omega | (simp <;> omega) | (constructor <;> (first | omega | (simp only [LenOk]; omega) | (simp <;> omega))))).mono ?_
  rintro _ w1 ⟨b2_, rfl, hO⟩
  refine (?_ : CL _ _ _ _ _ _ (Own w [] [Res.row b3 23 [.int .u64 (a0 : Nat), .int .u64 (a1 : Nat)], Res.row b4 23 [.int .u64 (b0 : Nat), .int .u64 (b1 : Nat)], Res.row b5 23 [.int .u64 (c0 : Nat), .int .u64 (c1 : Nat)], Res.row b1_ 66 [.int .u64 ((a0 % 4611686018427387904) : Nat), .int .u64 ((a1 % 4611686018427387904) : Nat), (.slice none 0 0)], Res.vec 38 5 (.slice none 0 0) ([] : List EntD).length (([] : List EntD).flatMap EntD.cells), Res.star (([] : List EntD).map EntD.dres), Res.row b2_ 66 [.int .u64 ((b0 % 4611686018427387904) : Nat), .int .u64 ((b1 % 4611686018427387904) : Nat), (.slice none 0 0)], Res.vec 38 5 (.slice none 0 0) ([] : List EntD).length (([] : List EntD).flatMap EntD.cells), Res.star (([] : List EntD).map EntD.dres)])) w1 (hw.frame0 hO)
  refine l_nil (fun w' hw => ?_)
  have hS := hw.sel [0, 1, 2] rfl (by decide)
  refine ⟨hS, ?_⟩
  refine h_take 14 rfl (by kernel_rfl) (by kernel_rfl) (by kernel_rfl) (v_as) rfl hS ?_
  refine h_take 15 rfl (by kernel_rfl) (by kernel_rfl) (by kernel_rfl) (v_as) rfl hS ?_
  refine h_done (by kernel_rfl) ?_
  refine (?_ : C _ _ _ _ _ _ _ (Own w [] [Res.row b3 23 [.int .u64 (a0 : Nat), .int .u64 (a1 : Nat)], Res.row b4 23 [.int .u64 (b0 : Nat), .int .u64 (b1 : Nat)], Res.row b5 23 [.int .u64 (c0 : Nat), .int .u64 (c1 : Nat)], Res.row b1_ 66 [.int .u64 ((a0 % 4611686018427387904) : Nat), .int .u64 ((a1 % 4611686018427387904) : Nat), (.slice none 0 0)], Res.vec 38 5 (.slice none 0 0) ([] : List EntD).length (([] : List EntD).flatMap EntD.cells), Res.star (([] : List EntD).map EntD.dres), Res.row b2_ 66 [.int .u64 ((b0 % 4611686018427387904) : Nat), .int .u64 ((b1 % 4611686018427387904) : Nat), (.slice none 0 0)], Res.vec 38 5 (.slice none 0 0) ([] : List EntD).length (([] : List EntD).flatMap EntD.cells), Res.star (([] : List EntD).map EntD.dres)])) _ hw
  refine c_reg ?_
  refine l_idxA (j := 0) (len := 2) (sz := 1) rfl rfl (by kernel_rfl) rfl (by decide) rfl ?_
  refine l_ldo 2 (v := .int .u64 (c0 : Nat)) rfl rfl rfl (by kernel_rfl) rfl ?_
  refine l_rem (c := ((c0 % 4611686018427387904 : Nat) : Int)) rfl rfl (by omega) rfl rfl ?_
  refine l_idxA (j := 1) (len := 2) (sz := 1) rfl rfl (by kernel_rfl) rfl (by decide) rfl ?_
  refine l_ldo 2 (v := .int .u64 (c1 : Nat)) rfl rfl rfl (by kernel_rfl) rfl ?_
  refine l_rem (c := ((c1 % 4611686018427387904 : Nat) : Int)) rfl rfl (by omega) rfl rfl ?_
  refine l_call (by kernel_rfl) rfl rfl (fun w' hw => ?_)
  refine (new_s (c0 % 4611686018427387904) (c1 % 4611686018427387904) w' (by first | assumption | omega | (simp <;> omega) | (constructor <;> (first | omega | (simp only [LenOk]; omega) | (simp <;> omega)))) (by first | assumption | omega | (simp <;> omega) | (constructor <;> (first | omega | (simp only [LenOk]; omega) | (simp <;> omega))))).mono ?_
  rintro _ w1 ⟨b3_, rfl, hO⟩
  refine (?_ : CL _ _ _ _ _ _ (Own w [] [Res.row b3 23 [.int .u64 (a0 : Nat), .int .u64 (a1 : Nat)], Res.row b4 23 [.int .u64 (b0 : Nat), .int .u64 (b1 : Nat)], Res.row b5 23 [.int .u64 (c0 : Nat), .int .u64 (c1 : Nat)], Res.row b1_ 66 [.int .u64 ((a0 % 4611686018427387904) : Nat), .int .u64 ((a1 % 4611686018427387904) : Nat), (.slice none 0 0)], Res.vec 38 5 (.slice none 0 0) ([] : List EntD).length (([] : List EntD).flatMap EntD.cells), Res.star (([] : List EntD).map EntD.dres), Res.row b2_ 66 [.int .u64 ((b0 % 4611686018427387904) : Nat), .int .u64 ((b1 % 4611686018427387904) : Nat), (.slice none 0 0)], Res.vec 38 5 (.slice none 0 0) ([] : List EntD).length (([] : List EntD).flatMap EntD.cells), Res.star (([] : List EntD).map EntD.dres), Res.row b3_ 66 [.int .u64 ((c0 % 4611686018427387904) : Nat), .int .u64 ((c1 % 4611686018427387904) : Nat), (.slice none 0 0)], Res.vec 38 5 (.slice none 0 0) ([] : List EntD).length (([] : List EntD).flatMap EntD.cells), Res.star (([] : List EntD).map EntD.dres)])) w1 (hw.frame0 hO)
  refine l_as rfl ?_
  refine l_end ?_
  refine c_seq ?_
  refine c_reg ?_
  refine l_call (by kernel_rfl) rfl rfl (fun w' hw => ?_)
  refine (answers_s w').mono ?_
  rintro _ w1 ⟨rfl, hO⟩
  refine (?_ : CL _ _ _ _ _ _ (Own w [] [Res.row b3 23 [.int .u64 (a0 : Nat), .int .u64 (a1 : Nat)], Res.row b4 23 [.int .u64 (b0 : Nat), .int .u64 (b1 : Nat)], Res.row b5 23 [.int .u64 (c0 : Nat), .int .u64 (c1 : Nat)], Res.row b1_ 66 [.int .u64 ((a0 % 4611686018427387904) : Nat), .int .u64 ((a1 % 4611686018427387904) : Nat), (.slice none 0 0)], Res.vec 38 5 (.slice none 0 0) ([] : List EntD).length (([] : List EntD).flatMap EntD.cells), Res.star (([] : List EntD).map EntD.dres), Res.row b2_ 66 [.int .u64 ((b0 % 4611686018427387904) : Nat), .int .u64 ((b1 % 4611686018427387904) : Nat), (.slice none 0 0)], Res.vec 38 5 (.slice none 0 0) ([] : List EntD).length (([] : List EntD).flatMap EntD.cells), Res.star (([] : List EntD).map EntD.dres), Res.row b3_ 66 [.int .u64 ((c0 % 4611686018427387904) : Nat), .int .u64 ((c1 % 4611686018427387904) : Nat), (.slice none 0 0)], Res.vec 38 5 (.slice none 0 0) ([] : List EntD).length (([] : List EntD).flatMap EntD.cells), Res.star (([] : List EntD).map EntD.dres)])) w1 (hw.frame0 hO)
  refine l_not (b := true) rfl rfl ?_
  refine l_mv rfl ?_
  refine l_on rfl rfl ?_
  refine l_mv rfl ?_
  refine l_on rfl rfl ?_
  refine l_nilp (by kernel_rfl) rfl rfl rfl ?_
  refine l_pickF rfl rfl ?_
  refine l_mv rfl ?_
  refine l_on rfl rfl ?_
  refine l_mv rfl ?_
  refine l_on rfl rfl ?_
  refine l_nilp (by kernel_rfl) rfl rfl rfl ?_
  refine l_pickF rfl rfl ?_
  refine l_mv rfl ?_
  refine l_on rfl rfl ?_
  refine l_mv rfl ?_
  refine l_on rfl rfl ?_
  refine l_nilp (by kernel_rfl) rfl rfl rfl ?_
  refine l_pickF rfl rfl ?_
  refine l_end ?_
  refine c_no rfl ?_
  refine c_skipC ?_
  refine c_reg ?_
  refine l_mv rfl ?_
  refine l_call (by kernel_rfl) rfl rfl (fun w' hw => ?_)
  refine (last_s b1_ (a0 % 4611686018427387904) (a1 % 4611686018427387904) (.slice none 0 0) [] w' (by first | assumption | omega | (simp <;> omega) | (constructor <;> (first | omega | (simp only [LenOk]; omega) | (simp <;> omega)))) (by first | assumption | omega | (simp <;> omega) | (constructor <;> (first | omega | (simp only [LenOk]; omega) | (simp <;> omega)))) (hw.rdRes0 3 rfl) (hw.rdVec0 4 rfl) (fun p hp => by cases hp)).mono ?_
  rintro _ w1 ⟨rfl, hO⟩
  refine (?_ : CL _ _ _ _ _ _ (Own w [] [Res.row b3 23 [.int .u64 (a0 : Nat), .int .u64 (a1 : Nat)], Res.row b4 23 [.int .u64 (b0 : Nat), .int .u64 (b1 : Nat)], Res.row b5 23 [.int .u64 (c0 : Nat), .int .u64 (c1 : Nat)], Res.row b1_ 66 [.int .u64 ((a0 % 4611686018427387904) : Nat), .int .u64 ((a1 % 4611686018427387904) : Nat), (.slice none 0 0)], Res.vec 38 5 (.slice none 0 0) ([] : List EntD).length (([] : List EntD).flatMap EntD.cells), Res.star (([] : List EntD).map EntD.dres), Res.row b2_ 66 [.int .u64 ((b0 % 4611686018427387904) : Nat), .int .u64 ((b1 % 4611686018427387904) : Nat), (.slice none 0 0)], Res.vec 38 5 (.slice none 0 0) ([] : List EntD).length (([] : List EntD).flatMap EntD.cells), Res.star (([] : List EntD).map EntD.dres), Res.row b3_ 66 [.int .u64 ((c0 % 4611686018427387904) : Nat), .int .u64 ((c1 % 4611686018427387904) : Nat), (.slice none 0 0)], Res.vec 38 5 (.slice none 0 0) ([] : List EntD).length (([] : List EntD).flatMap EntD.cells), Res.star (([] : List EntD).map EntD.dres)])) w1 (hw.frame0 hO)
  refine l_mv rfl ?_
  refine l_ext (vs := [.int .u64 ((a0 % 4611686018427387904) + 0 : Nat), .int .u64 ((LG (a0 % 4611686018427387904) (a1 % 4611686018427387904) []).end_ : Nat)]) rfl rfl rfl ?_
  refine l_ext (vs := [.int .u64 ((a0 % 4611686018427387904) + 0 : Nat), .int .u64 ((LG (a0 % 4611686018427387904) (a1 % 4611686018427387904) []).end_ : Nat)]) rfl rfl rfl ?_
  refine l_as rfl ?_
  refine l_as rfl ?_
  refine l_end ?_
  refine c_reg ?_
  refine l_mv rfl ?_
  refine l_call (by kernel_rfl) rfl rfl (fun w' hw => ?_)
  refine (last_s b2_ (b0 % 4611686018427387904) (b1 % 4611686018427387904) (.slice none 0 0) [] w' (by first | assumption | omega | (simp <;> omega) | (constructor <;> (first | omega | (simp only [LenOk]; omega) | (simp <;> omega)))) (by first | assumption | omega | (simp <;> omega) | (constructor <;> (first | omega | (simp only [LenOk]; omega) | (simp <;> omega)))) (hw.rdRes0 6 rfl) (hw.rdVec0 4 rfl) (fun p hp => by cases hp)).mono ?_
  rintro _ w1 ⟨rfl, hO⟩
  refine (?_ : CL _ _ _ _ _ _ (Own w [] [Res.row b3 23 [.int .u64 (a0 : Nat), .int .u64 (a1 : Nat)], Res.row b4 23 [.int .u64 (b0 : Nat), .int .u64 (b1 : Nat)], Res.row b5 23 [.int .u64 (c0 : Nat), .int .u64 (c1 : Nat)], Res.row b1_ 66 [.int .u64 ((a0 % 4611686018427387904) : Nat), .int .u64 ((a1 % 4611686018427387904) : Nat), (.slice none 0 0)], Res.vec 38 5 (.slice none 0 0) ([] : List EntD).length (([] : List EntD).flatMap EntD.cells), Res.star (([] : List EntD).map EntD.dres), Res.row b2_ 66 [.int .u64 ((b0 % 4611686018427387904) : Nat), .int .u64 ((b1 % 4611686018427387904) : Nat), (.slice none 0 0)], Res.vec 38 5 (.slice none 0 0) ([] : List EntD).length (([] : List EntD).flatMap EntD.cells), Res.star (([] : List EntD).map EntD.dres), Res.row b3_ 66 [.int .u64 ((c0 % 4611686018427387904) : Nat), .int .u64 ((c1 % 4611686018427387904) : Nat), (.slice none 0 0)], Res.vec 38 5 (.slice none 0 0) ([] : List EntD).length (([] : List EntD).flatMap EntD.cells), Res.star (([] : List EntD).map EntD.dres)])) w1 (hw.frame0 hO)
  refine l_mv rfl ?_
  refine l_ext (vs := [.int .u64 ((b0 % 4611686018427387904) + 0 : Nat), .int .u64 ((LG (b0 % 4611686018427387904) (b1 % 4611686018427387904) []).end_ : Nat)]) rfl rfl rfl ?_
  refine l_ext (vs := [.int .u64 ((b0 % 4611686018427387904) + 0 : Nat), .int .u64 ((LG (b0 % 4611686018427387904) (b1 % 4611686018427387904) []).end_ : Nat)]) rfl rfl rfl ?_
  refine l_as rfl ?_
  refine l_as rfl ?_
  refine l_end ?_
  refine c_reg ?_
  refine l_mv rfl ?_
  refine l_call (by kernel_rfl) rfl rfl (fun w' hw => ?_)
  refine (last_s b3_ (c0 % 4611686018427387904) (c1 % 4611686018427387904) (.slice none 0 0) [] w' (by first | assumption | omega | (simp <;> omega) | (constructor <;> (first | omega | (simp only [LenOk]; omega) | (simp <;> omega)))) (by first | assumption | omega | (simp <;> omega) | (constructor <;> (first | omega | (simp only [LenOk]; omega) | (simp <;> omega)))) (hw.rdRes0 9 rfl) (hw.rdVec0 4 rfl) (fun p hp => by cases hp)).mono ?_
  rintro _ w1 ⟨rfl, hO⟩
  refine (?_ : CL _ _ _ _ _ _ (Own w [] [Res.row b3 23 [.int .u64 (a0 : Nat), .int .u64 (a1 : Nat)], Res.row b4 23 [.int .u64 (b0 : Nat), .int .u64 (b1 : Nat)], Res.row b5 23 [.int .u64 (c0 : Nat), .int .u64 (c1 : Nat)], Res.row b1_ 66 [.int .u64 ((a0 % 4611686018427387904) : Nat), .int .u64 ((a1 % 4611686018427387904) : Nat), (.slice none 0 0)], Res.vec 38 5 (.slice none 0 0) ([] : List EntD).length (([] : List EntD).flatMap EntD.cells), Res.star (([] : List EntD).map EntD.dres), Res.row b2_ 66 [.int .u64 ((b0 % 4611686018427387904) : Nat), .int .u64 ((b1 % 4611686018427387904) : Nat), (.slice none 0 0)], Res.vec 38 5 (.slice none 0 0) ([] : List EntD).length (([] : List EntD).flatMap EntD.cells), Res.star (([] : List EntD).map EntD.dres), Res.row b3_ 66 [.int .u64 ((c0 % 4611686018427387904) : Nat), .int .u64 ((c1 % 4611686018427387904) : Nat), (.slice none 0 0)], Res.vec 38 5 (.slice none 0 0) ([] : List EntD).length (([] : List EntD).flatMap EntD.cells), Res.star (([] : List EntD).map EntD.dres)])) w1 (hw.frame0 hO)
  refine l_mv rfl ?_
  refine l_ext (vs := [.int .u64 ((c0 % 4611686018427387904) + 0 : Nat), .int .u64 ((LG (c0 % 4611686018427387904) (c1 % 4611686018427387904) []).end_ : Nat)]) rfl rfl rfl ?_
  refine l_ext (vs := [.int .u64 ((c0 % 4611686018427387904) + 0 : Nat), .int .u64 ((LG (c0 % 4611686018427387904) (c1 % 4611686018427387904) []).end_ : Nat)]) rfl rfl rfl ?_
  refine l_as rfl ?_
  refine l_as rfl ?_
  refine l_end ?_
  refine c_seq ?_
  refine c_reg ?_
  refine l_mv rfl ?_
  refine l_mv rfl ?_
  refine l_mv rfl ?_
  refine l_call (by kernel_rfl) rfl rfl (fun w' hw => ?_)
  refine (fresh_s b1_ (a0 % 4611686018427387904) (a1 % 4611686018427387904) (.slice none 0 0) [] ((b0 % 4611686018427387904) + 0) ((LG (b0 % 4611686018427387904) (b1 % 4611686018427387904) []).end_) w' (by first | assumption | omega | (simp <;> omega) | (constructor <;> (first | omega | (simp only [LenOk]; omega) | (simp <;> omega)))) (by first | assumption | omega | (simp <;> omega) | (constructor <;> (first | omega | (simp only [LenOk]; omega) | (simp <;> omega)))) (hw.rdRes0 3 rfl) (hw.rdVec0 4 rfl) (fun p hp => by cases hp)).mono ?_
  rintro _ w1 ⟨rfl, hO⟩
  refine (?_ : CL _ _ _ _ _ _ (Own w [] [Res.row b3 23 [.int .u64 (a0 : Nat), .int .u64 (a1 : Nat)], Res.row b4 23 [.int .u64 (b0 : Nat), .int .u64 (b1 : Nat)], Res.row b5 23 [.int .u64 (c0 : Nat), .int .u64 (c1 : Nat)], Res.row b1_ 66 [.int .u64 ((a0 % 4611686018427387904) : Nat), .int .u64 ((a1 % 4611686018427387904) : Nat), (.slice none 0 0)], Res.vec 38 5 (.slice none 0 0) ([] : List EntD).length (([] : List EntD).flatMap EntD.cells), Res.star (([] : List EntD).map EntD.dres), Res.row b2_ 66 [.int .u64 ((b0 % 4611686018427387904) : Nat), .int .u64 ((b1 % 4611686018427387904) : Nat), (.slice none 0 0)], Res.vec 38 5 (.slice none 0 0) ([] : List EntD).length (([] : List EntD).flatMap EntD.cells), Res.star (([] : List EntD).map EntD.dres), Res.row b3_ 66 [.int .u64 ((c0 % 4611686018427387904) : Nat), .int .u64 ((c1 % 4611686018427387904) : Nat), (.slice none 0 0)], Res.vec 38 5 (.slice none 0 0) ([] : List EntD).length (([] : List EntD).flatMap EntD.cells), Res.star (([] : List EntD).map EntD.dres)])) w1 (hw.frame0 hO)
  refine l_notp (q := (LG (a0 % 4611686018427387904) (a1 % 4611686018427387904) []).fresh ((b0 % 4611686018427387904) + 0) ((LG (b0 % 4611686018427387904) (b1 % 4611686018427387904) []).end_)) rfl rfl ?_
  refine l_mv rfl ?_
  refine l_band (q := ¬ ((LG (a0 % 4611686018427387904) (a1 % 4611686018427387904) []).fresh ((b0 % 4611686018427387904) + 0) ((LG (b0 % 4611686018427387904) (b1 % 4611686018427387904) []).end_))) 5 5 [76, 75, 74, 73, 72] (¬ ((LG (b0 % 4611686018427387904) (b1 % 4611686018427387904) []).fresh ((a0 % 4611686018427387904) + 0) ((LG (a0 % 4611686018427387904) (a1 % 4611686018427387904) []).end_))) rfl rfl rfl rfl rfl rfl trivial rfl (fun h8_5 => ?_) (fun g8_11 => ?_)
  ·
    refine l_on rfl (gT h8_5) ?_
    refine l_mv rfl ?_
    refine l_on rfl (gT h8_5) ?_
    refine l_mv rfl ?_
    refine l_on rfl (gT h8_5) ?_
    refine l_mv rfl ?_
    refine l_on rfl (gT h8_5) ?_
    refine l_call (by kernel_rfl) rfl rfl (fun w' hw => ?_)
    refine (fresh_s b2_ (b0 % 4611686018427387904) (b1 % 4611686018427387904) (.slice none 0 0) [] ((a0 % 4611686018427387904) + 0) ((LG (a0 % 4611686018427387904) (a1 % 4611686018427387904) []).end_) w' (by first | assumption | omega | (simp <;> omega) | (constructor <;> (first | omega | (simp only [LenOk]; omega) | (simp <;> omega)))) (by first | assumption | omega | (simp <;> omega) | (constructor <;> (first | omega | (simp only [LenOk]; omega) | (simp <;> omega)))) (hw.rdRes0 6 rfl) (hw.rdVec0 4 rfl) (fun p hp => by cases hp)).mono ?_
    rintro _ w1 ⟨rfl, hO⟩
    refine (?_ : CL _ _ _ _ _ _ (Own w [] [Res.row b3 23 [.int .u64 (a0 : Nat), .int .u64 (a1 : Nat)], Res.row b4 23 [.int .u64 (b0 : Nat), .int .u64 (b1 : Nat)], Res.row b5 23 [.int .u64 (c0 : Nat), .int .u64 (c1 : Nat)], Res.row b1_ 66 [.int .u64 ((a0 % 4611686018427387904) : Nat), .int .u64 ((a1 % 4611686018427387904) : Nat), (.slice none 0 0)], Res.vec 38 5 (.slice none 0 0) ([] : List EntD).length (([] : List EntD).flatMap EntD.cells), Res.star (([] : List EntD).map EntD.dres), Res.row b2_ 66 [.int .u64 ((b0 % 4611686018427387904) : Nat), .int .u64 ((b1 % 4611686018427387904) : Nat), (.slice none 0 0)], Res.vec 38 5 (.slice none 0 0) ([] : List EntD).length (([] : List EntD).flatMap EntD.cells), Res.star (([] : List EntD).map EntD.dres), Res.row b3_ 66 [.int .u64 ((c0 % 4611686018427387904) : Nat), .int .u64 ((c1 % 4611686018427387904) : Nat), (.slice none 0 0)], Res.vec 38 5 (.slice none 0 0) ([] : List EntD).length (([] : List EntD).flatMap EntD.cells), Res.star (([] : List EntD).map EntD.dres)])) w1 (hw.frame0 hO)
    refine l_on rfl (gT h8_5) ?_
    refine l_notp (q := (LG (b0 % 4611686018427387904) (b1 % 4611686018427387904) []).fresh ((a0 % 4611686018427387904) + 0) ((LG (a0 % 4611686018427387904) (a1 % 4611686018427387904) []).end_)) rfl rfl ?_
    exact l_nil (fun w' hw => ⟨(by repeat (first | exact Out.refl _ _ | refine Out.upd rfl ?_ | refine Out.msk rfl ?_)), rfl, hw⟩)
  refine l_end ?_
  refine c_dec rfl (fun c2 => ?_) (fun c2 => ?_)
  ·
    exact absurd c2 (by simp only [fresh_nil, end_nil]; omega)
  ·
    refine c_skipC ?_
    refine c_reg ?_
    refine l_mv rfl ?_
    refine l_mv rfl ?_
    refine l_mv rfl ?_
    refine l_call (by kernel_rfl) rfl rfl (fun w' hw => ?_)
    refine (fresh_s b1_ (a0 % 4611686018427387904) (a1 % 4611686018427387904) (.slice none 0 0) [] ((b0 % 4611686018427387904) + 0) ((LG (b0 % 4611686018427387904) (b1 % 4611686018427387904) []).end_) w' (by first | assumption | omega | (simp <;> omega) | (constructor <;> (first | omega | (simp only [LenOk]; omega) | (simp <;> omega)))) (by first | assumption | omega | (simp <;> omega) | (constructor <;> (first | omega | (simp only [LenOk]; omega) | (simp <;> omega)))) (hw.rdRes0 3 rfl) (hw.rdVec0 4 rfl) (fun p hp => by cases hp)).mono ?_
    rintro _ w1 ⟨rfl, hO⟩
    refine (?_ : CL _ _ _ _ _ _ (Own w [] [Res.row b3 23 [.int .u64 (a0 : Nat), .int .u64 (a1 : Nat)], Res.row b4 23 [.int .u64 (b0 : Nat), .int .u64 (b1 : Nat)], Res.row b5 23 [.int .u64 (c0 : Nat), .int .u64 (c1 : Nat)], Res.row b1_ 66 [.int .u64 ((a0 % 4611686018427387904) : Nat), .int .u64 ((a1 % 4611686018427387904) : Nat), (.slice none 0 0)], Res.vec 38 5 (.slice none 0 0) ([] : List EntD).length (([] : List EntD).flatMap EntD.cells), Res.star (([] : List EntD).map EntD.dres), Res.row b2_ 66 [.int .u64 ((b0 % 4611686018427387904) : Nat), .int .u64 ((b1 % 4611686018427387904) : Nat), (.slice none 0 0)], Res.vec 38 5 (.slice none 0 0) ([] : List EntD).length (([] : List EntD).flatMap EntD.cells), Res.star (([] : List EntD).map EntD.dres), Res.row b3_ 66 [.int .u64 ((c0 % 4611686018427387904) : Nat), .int .u64 ((c1 % 4611686018427387904) : Nat), (.slice none 0 0)], Res.vec 38 5 (.slice none 0 0) ([] : List EntD).length (([] : List EntD).flatMap EntD.cells), Res.star (([] : List EntD).map EntD.dres)])) w1 (hw.frame0 hO)
    refine l_notp (q := (LG (a0 % 4611686018427387904) (a1 % 4611686018427387904) []).fresh ((b0 % 4611686018427387904) + 0) ((LG (b0 % 4611686018427387904) (b1 % 4611686018427387904) []).end_)) rfl rfl ?_
    refine l_mv rfl ?_
    refine l_bor (q := ¬ ((LG (a0 % 4611686018427387904) (a1 % 4611686018427387904) []).fresh ((b0 % 4611686018427387904) + 0) ((LG (b0 % 4611686018427387904) (b1 % 4611686018427387904) []).end_))) 5 5 [88, 87, 86, 85, 84] (¬ ((LG (b0 % 4611686018427387904) (b1 % 4611686018427387904) []).fresh ((c0 % 4611686018427387904) + 0) ((LG (c0 % 4611686018427387904) (c1 % 4611686018427387904) []).end_))) rfl rfl rfl rfl rfl rfl trivial rfl (fun h10_5 => ?_) (fun g10_11 => ?_)
    ·
      refine l_on rfl (gF h10_5) ?_
      refine l_mv rfl ?_
      refine l_on rfl (gF h10_5) ?_
      refine l_mv rfl ?_
      refine l_on rfl (gF h10_5) ?_
      refine l_mv rfl ?_
      refine l_on rfl (gF h10_5) ?_
      refine l_call (by kernel_rfl) rfl rfl (fun w' hw => ?_)
      refine (fresh_s b2_ (b0 % 4611686018427387904) (b1 % 4611686018427387904) (.slice none 0 0) [] ((c0 % 4611686018427387904) + 0) ((LG (c0 % 4611686018427387904) (c1 % 4611686018427387904) []).end_) w' (by first | assumption | omega | (simp <;> omega) | (constructor <;> (first | omega | (simp only [LenOk]; omega) | (simp <;> omega)))) (by first | assumption | omega | (simp <;> omega) | (constructor <;> (first | omega | (simp only [LenOk]; omega) | (simp <;> omega)))) (hw.rdRes0 6 rfl) (hw.rdVec0 4 rfl) (fun p hp => by cases hp)).mono ?_
      rintro _ w1 ⟨rfl, hO⟩
      refine (?_ : CL _ _ _ _ _ _ (Own w [] [Res.row b3 23 [.int .u64 (a0 : Nat), .int .u64 (a1 : Nat)], Res.row b4 23 [.int .u64 (b0 : Nat), .int .u64 (b1 : Nat)], Res.row b5 23 [.int .u64 (c0 : Nat), .int .u64 (c1 : Nat)], Res.row b1_ 66 [.int .u64 ((a0 % 4611686018427387904) : Nat), .int .u64 ((a1 % 4611686018427387904) : Nat), (.slice none 0 0)], Res.vec 38 5 (.slice none 0 0) ([] : List EntD).length (([] : List EntD).flatMap EntD.cells), Res.star (([] : List EntD).map EntD.dres), Res.row b2_ 66 [.int .u64 ((b0 % 4611686018427387904) : Nat), .int .u64 ((b1 % 4611686018427387904) : Nat), (.slice none 0 0)], Res.vec 38 5 (.slice none 0 0) ([] : List EntD).length (([] : List EntD).flatMap EntD.cells), Res.star (([] : List EntD).map EntD.dres), Res.row b3_ 66 [.int .u64 ((c0 % 4611686018427387904) : Nat), .int .u64 ((c1 % 4611686018427387904) : Nat), (.slice none 0 0)], Res.vec 38 5 (.slice none 0 0) ([] : List EntD).length (([] : List EntD).flatMap EntD.cells), Res.star (([] : List EntD).map EntD.dres)])) w1 (hw.frame0 hO)
      refine l_on rfl (gF h10_5) ?_
      refine l_notp (q := (LG (b0 % 4611686018427387904) (b1 % 4611686018427387904) []).fresh ((c0 % 4611686018427387904) + 0) ((LG (c0 % 4611686018427387904) (c1 % 4611686018427387904) []).end_)) rfl rfl ?_
      exact l_nil (fun w' hw => ⟨(by repeat (first | exact Out.refl _ _ | refine Out.upd rfl ?_ | refine Out.msk rfl ?_)), rfl, hw⟩)
    refine l_mv rfl ?_
    refine l_bor (q := (¬ ((LG (a0 % 4611686018427387904) (a1 % 4611686018427387904) []).fresh ((b0 % 4611686018427387904) + 0) ((LG (b0 % 4611686018427387904) (b1 % 4611686018427387904) []).end_))) ∨ (¬ ((LG (b0 % 4611686018427387904) (b1 % 4611686018427387904) []).fresh ((c0 % 4611686018427387904) + 0) ((LG (c0 % 4611686018427387904) (c1 % 4611686018427387904) []).end_)))) 4 12 [94, 93, 92, 91] ((LG (a0 % 4611686018427387904) (a1 % 4611686018427387904) []).fresh ((c0 % 4611686018427387904) + 0) ((LG (c0 % 4611686018427387904) (c1 % 4611686018427387904) []).end_)) rfl rfl rfl rfl rfl rfl trivial rfl (fun h10_12 => ?_) (fun g10_17 => ?_)
    ·
      refine l_on rfl (gF h10_12) ?_
      refine l_mv rfl ?_
      refine l_on rfl (gF h10_12) ?_
      refine l_mv rfl ?_
      refine l_on rfl (gF h10_12) ?_
      refine l_mv rfl ?_
      refine l_on rfl (gF h10_12) ?_
      refine l_call (by kernel_rfl) rfl rfl (fun w' hw => ?_)
      refine (fresh_s b1_ (a0 % 4611686018427387904) (a1 % 4611686018427387904) (.slice none 0 0) [] ((c0 % 4611686018427387904) + 0) ((LG (c0 % 4611686018427387904) (c1 % 4611686018427387904) []).end_) w' (by first | assumption | omega | (simp <;> omega) | (constructor <;> (first | omega | (simp only [LenOk]; omega) | (simp <;> omega)))) (by first | assumption | omega | (simp <;> omega) | (constructor <;> (first | omega | (simp only [LenOk]; omega) | (simp <;> omega)))) (hw.rdRes0 3 rfl) (hw.rdVec0 4 rfl) (fun p hp => by cases hp)).mono ?_
      rintro _ w1 ⟨rfl, hO⟩
      refine (?_ : CL _ _ _ _ _ _ (Own w [] [Res.row b3 23 [.int .u64 (a0 : Nat), .int .u64 (a1 : Nat)], Res.row b4 23 [.int .u64 (b0 : Nat), .int .u64 (b1 : Nat)], Res.row b5 23 [.int .u64 (c0 : Nat), .int .u64 (c1 : Nat)], Res.row b1_ 66 [.int .u64 ((a0 % 4611686018427387904) : Nat), .int .u64 ((a1 % 4611686018427387904) : Nat), (.slice none 0 0)], Res.vec 38 5 (.slice none 0 0) ([] : List EntD).length (([] : List EntD).flatMap EntD.cells), Res.star (([] : List EntD).map EntD.dres), Res.row b2_ 66 [.int .u64 ((b0 % 4611686018427387904) : Nat), .int .u64 ((b1 % 4611686018427387904) : Nat), (.slice none 0 0)], Res.vec 38 5 (.slice none 0 0) ([] : List EntD).length (([] : List EntD).flatMap EntD.cells), Res.star (([] : List EntD).map EntD.dres), Res.row b3_ 66 [.int .u64 ((c0 % 4611686018427387904) : Nat), .int .u64 ((c1 % 4611686018427387904) : Nat), (.slice none 0 0)], Res.vec 38 5 (.slice none 0 0) ([] : List EntD).length (([] : List EntD).flatMap EntD.cells), Res.star (([] : List EntD).map EntD.dres)])) w1 (hw.frame0 hO)
      exact l_nil (fun w' hw => ⟨(by repeat (first | exact Out.refl _ _ | refine Out.upd rfl ?_ | refine Out.msk rfl ?_)), rfl, hw⟩)
    refine l_as rfl ?_
    refine l_end ?_
    exact c_ret (ret1 (v := .bool (decide (((¬ ((LG (a0 % 4611686018427387904) (a1 % 4611686018427387904) []).fresh ((b0 % 4611686018427387904) + 0) ((LG (b0 % 4611686018427387904) (b1 % 4611686018427387904) []).end_))) ∨ (¬ ((LG (b0 % 4611686018427387904) (b1 % 4611686018427387904) []).fresh ((c0 % 4611686018427387904) + 0) ((LG (c0 % 4611686018427387904) (c1 % 4611686018427387904) []).end_)))) ∨ ((LG (a0 % 4611686018427387904) (a1 % 4611686018427387904) []).fresh ((c0 % 4611686018427387904) + 0) ((LG (c0 % 4611686018427387904) (c1 % 4611686018427387904) []).end_))))) rfl rfl (fun w' hw => ⟨(by rw [decide_eq_true]; simp only [fresh_nil, end_nil]; omega), hw.drop⟩))
namespace rlogFresh
theorem own : ownKnob Try.prog.godebug = none := by kernel_rfl
theorem laidOut : laidOutB Try.prog = true := by kernel_rfl

theorem contract (H : Type) (enc : TypeId × Value → H) (W : World) (base : Nat) (args : Array Value) (ds gs : List (DataW H)) (before : List MemPlace)
    (hval : ∀ (j : Nat) t v, Try.f3.params[j]? = some t → args[j]? = some v → Value.okWide Try.prog W .any base t v)
    (hW : DataW.Whole enc Try.prog Try.f3.params.toList Rows.rlogFreshSpec.vars false W args.toList ds gs before) (hk : Rows.uptoSmall H (ds ++ gs) = true) :
    Calls Try.prog 3 args W fun e W' => ∃ v, e = .returned v ∧ Rows.rlogFreshSpec.post enc Try.prog Try.f3 false true false false W args v W' := by
  have hW' := hW
  obtain ⟨p, q, hA0, hV, rfl, hfz, hnd⟩ := hW
  have hA : DataW.TrodAll enc Try.prog W 0 (fun _ => true) true Try.f3.params.toList args.toList ds p := hA0
  rw [Try.params3] at hA hval
  obtain ⟨v0, vs0, d0, ds0, p0, q0, hargs, rfl, rfl, h0, r0⟩ := trodAll_cons hA
  obtain ⟨v1, vs1, d1, ds1, p1, q1, rfl, rfl, rfl, h1, r1⟩ := trodAll_cons r0
  obtain ⟨v2, vs2, d2, ds2, p2, q2, rfl, rfl, rfl, h2, r2⟩ := trodAll_cons r1
  obtain ⟨rfl, rfl, rfl⟩ := trodAll_nil r2
  obtain rfl : args = #[v0, v1, v2] := by cases args; simp_all
  obtain ⟨rfl, rfl⟩ := trodVars_none hV
  have hB : Rows.uptoBulk d0 + Rows.uptoBulk d1 + Rows.uptoBulk d2 ≤ 1048576 := by
    have := of_decide_eq_true hk
    simp only [List.append_nil, Rows.uptoBulkAll] at this
    omega
  obtain ⟨u0, hf0⟩ := h0
  obtain ⟨a0, e0, w0, z0⟩ := (RdA.arr2 (W := W) Try.underlying23 (by kernel_rfl) (by kernel_rfl) Try.underlying22) H enc _ _ _ hf0
  obtain ⟨u1, hf1⟩ := h1
  obtain ⟨a1, e1, w1, z1⟩ := (RdA.arr2 (W := W) Try.underlying23 (by kernel_rfl) (by kernel_rfl) Try.underlying22) H enc _ _ _ hf1
  obtain ⟨u2, hf2⟩ := h2
  obtain ⟨a2, e2, w2, z2⟩ := (RdA.arr2 (W := W) Try.underlying23 (by kernel_rfl) (by kernel_rfl) Try.underlying22) H enc _ _ _ hf2
  try dsimp only at z0
  try dsimp only at z1
  try dsimp only at z2
  obtain rfl := arg_arr Try.underlying23 (hval 0 _ v0 rfl rfl) e0
  obtain rfl := arg_arr Try.underlying23 (hval 1 _ v1 rfl rfl) e1
  obtain rfl := arg_arr Try.underlying23 (hval 2 _ v2 rfl rfl) e2
  refine Calls.mono (rlogFresh_s a0.1 a0.2 a1.1 a1.2 a2.1 a2.2 W) fun e W' he => ?_
  obtain ⟨v, rfl, rfl, hO⟩ := he
  exact ⟨_, rfl, law_post laidOut rfl (fun ds h => by
    rw [Try.params3] at h
    match ds, h with
    | [_, _, _], _ => rfl) rfl Try.underlying4 (by kernel_rfl) hW' (Own.below hO)⟩

set_option maxRecDepth 100000 in
theorem lifted (os : Os) (started : os.Started) (H : Type) (enc : TypeId × Value → H) (F : Stop.Interp) :
    ReturnsInHanded {} Try.checked os 3 .any ((Rows.OpenSpec.upto Rows.rlogFreshSpec).pre6 enc Try.prog Try.f3 Rows.rlogFreshUptoRow.domain false) (((Rows.OpenSpec.upto Rows.rlogFreshSpec).at F).post enc Try.prog Try.f3 false true false false) := by
  refine returnsInHanded_of_cond (C := Try.checked) (s := Rows.OpenSpec.upto Rows.rlogFreshSpec) (k := Rows.uptoSmall) rfl own started (by kernel_rfl) Try.func3
    (OpenSpec.witness (enc := enc) (C := Try.checked) (s := Rows.OpenSpec.upto Rows.rlogFreshSpec) (k := Rows.uptoSmall) rfl false ⟨#[], #[.agg #[.int .u64 0, .int .u64 0], .agg #[.int .u64 0, .int .u64 0], .agg #[.int .u64 0, .int .u64 0]], []⟩ 8 (by kernel_rfl) (by kernel_rfl) (by kernel_rfl)
      (x := ([.agg [.lit (.int .u64 0), .lit (.int .u64 0)], .agg [.lit (.int .u64 0), .lit (.int .u64 0)], .agg [.lit (.int .u64 0), .lit (.int .u64 0)]], [], [])) (by kernel_rfl) rfl (by kernel_rfl)) ?_
  intro W base args ds gs before hval hW _ hk _
  exact contract H enc W base args ds gs before hval hW hk

/-- RlogFresh: proved. -/
theorem proved : Rows.RlogFreshUptoSaid :=
  OpenClaim.holds_of_cond 3 Try.f3 rfl rfl rfl rfl rfl rfl rfl ⟨rfl, rfl, rfl, rfl, rfl⟩ rfl rfl rfl rfl rfl (by kernel_rfl) Try.func3 (by kernel_rfl)
    (of_decide_eq_true (by kernel_rfl)) (by unfold Func.isWrapper; first | (rw [if_pos (by decide +kernel)]; kernel_rfl) | (rw [if_neg (by decide +kernel)]; exact ⟨rfl, rfl⟩))
    (fun os started H enc _ F => lifted os started H enc F)
end rlogFresh
end Go.Proofs.Ytibbkbgodomfkaa
