/-
  CoreOne is true of every input that is not greater than the statement's bound: the program returns, it returns true, and what came in reads as it did. Condition: the bulk that the statement names.
-/
import Derived.Test.YtkkeknmkipkbmaaGreatRead
import Derived.Test.YtkkeknmkipkbmaaGreatCorM
set_option linter.unusedSectionVars false
set_option linter.unusedSimpArgs false
set_option linter.unusedVariables false
set_option maxRecDepth 10000
namespace Go.Proofs.YtkkeknmkipkbmaaGreat
open Go Go.Sc Go.Proofs Go.RowKit Go.ChangeShapes Go.WideShapes
theorem sum_one1 {α : Type} (l : List α) : (l.map fun _ => 1).sum = l.length := by induction l with | nil => rfl | cons a l ih => simp only [List.map_cons, List.sum_cons, List.length_cons, ih]; omega
def BytesWf (W : World) (p : Value × List UInt8) : Prop := Rd W [] (Res.sl p.1 p.2.length (p.2.map vb))
theorem rdBytes (W : World) : RdA Tryz.prog W 36 (fun p : Value × List UInt8 => [p.1]) (BytesWf W) (fun p => p.2.length + 1) :=
  (RdA.slice (sz := 1) Tryz.underlying36 (by kernel_rfl) (by decide) (fun _ => rfl) (RdA.byte (W := W) Tryz.underlying5)).map id (fun _ => rfl) (fun p h => Rd.of (by have := h.1; rw [← k7] at this; exact this)) (fun p _ => by rw [sum_one1]; exact Nat.le_refl _)
theorem rdBytess (W : World) : RdA Tryz.prog W 23 (fun p : Value × List (Value × List UInt8) => [p.1]) (fun p => Rd W [] (Res.sl p.1 p.2.length (p.2.flatMap pv)) ∧ ∀ a ∈ p.2, BytesWf W a) (fun p => (p.2.map fun x => x.2.length + 1).sum + 1) :=
  (RdA.slice (sz := 1) Tryz.underlying23 (by kernel_rfl) (by decide) (fun _ => rfl) (rdBytes W)).map id (fun _ => rfl) (fun p h => ⟨Rd.of h.1, h.2⟩) (fun p _ => Nat.le_refl _)
theorem bytess_in {l : List (Value × List UInt8)} (hd : (l.map fun x => x.2.length + 1).sum ≤ 1048576) : l.length ≤ 10000000 ∧ ∀ x ∈ l, x.2.length ≤ 1000000000 := by
  have key : ∀ l : List (Value × List UInt8), l.length ≤ (l.map fun x => x.2.length + 1).sum ∧ ∀ x ∈ l, x.2.length ≤ (l.map fun x => x.2.length + 1).sum := fun l => by
    induction l with
    | nil => simp
    | cons a l ih =>
      simp only [List.map_cons, List.sum_cons, List.length_cons]
      refine ⟨by omega, fun x hx => ?_⟩
      rcases List.mem_cons.1 hx with rfl | h
      · omega
      · have := ih.2 x h; omega
  have := key l
  exact ⟨by omega, fun x hx => by have := this.2 x hx; omega⟩
namespace coreOne
theorem own : ownKnob Tryz.prog.godebug = none := by kernel_rfl
theorem laidOut : laidOutB Tryz.prog = true := by kernel_rfl
theorem contract (H : Type) (enc : TypeId × Value → H) (W : World) (base : Nat) (args : Array Value) (ds gs : List (DataW H)) (before : List MemPlace)
    (hval : ∀ (j : Nat) t v, Tryz.f3.params[j]? = some t → args[j]? = some v → Value.okWide Tryz.prog W .any base t v)
    (hW : DataW.Whole enc Tryz.prog Tryz.f3.params.toList Rows.coreOneSpec.vars false W args.toList ds gs before) (hk : Rows.uptoSmall H (ds ++ gs) = true) :
    Calls Tryz.prog 3 args W fun e W' => ∃ v, e = .returned v ∧ Rows.coreOneSpec.post enc Tryz.prog Tryz.f3 false true false false W args v W' := by
  have hW' := hW
  obtain ⟨p, q, hA0, hV, rfl, hfz, hnd⟩ := hW
  have hA : DataW.TrodAll enc Tryz.prog W 0 (fun _ => true) true Tryz.f3.params.toList args.toList ds p := hA0
  rw [Tryz.params3] at hA hval
  obtain ⟨v0, vs0, d0, ds0, p0, q0, hargs, rfl, rfl, h0, r0⟩ := trodAll_cons hA
  obtain ⟨v1, vs1, d1, ds1, p1, q1, rfl, rfl, rfl, h1, r1⟩ := trodAll_cons r0
  obtain ⟨v2, vs2, d2, ds2, p2, q2, rfl, rfl, rfl, h2, r2⟩ := trodAll_cons r1
  obtain ⟨rfl, rfl, rfl⟩ := trodAll_nil r2
  obtain rfl : args = #[v0, v1, v2] := by cases args; simp_all
  obtain ⟨rfl, rfl⟩ := trodVars_none hV
  have hB : Rows.uptoBulk d0 + Rows.uptoBulk d1 + Rows.uptoBulk d2 ≤ 1048576 := by
    have := of_decide_eq_true hk
    simp only [List.append_nil, Rows.uptoBulkAll] at this
    omega
  obtain ⟨u0, hf0⟩ := h0
  obtain ⟨a0, e0, w0, z0⟩ := (RdA.u64 (W := W) Tryz.underlying22) H enc _ _ _ hf0
  obtain ⟨u1, hf1⟩ := h1
  obtain ⟨a1, e1, w1, z1⟩ := (rdBytess W) H enc _ _ _ hf1
  obtain ⟨u2, hf2⟩ := h2
  obtain ⟨a2, e2, w2, z2⟩ := (RdA.byte (W := W) Tryz.underlying5) H enc _ _ _ hf2
  try dsimp only at z0
  try dsimp only at z1
  try dsimp only at z2
  obtain rfl := zBU Tryz.underlying22 (hval 0 _ v0 rfl rfl) e0
  obtain rfl := zBg Tryz.underlying23 (hval 1 _ v1 rfl rfl) e1
  obtain rfl := zBU Tryz.underlying5 (hval 2 _ v2 rfl rfl) e2
  refine Calls.mono (zB0 a0 a1.1 a1.2 a2.toNat W (by have := (bytess_in (l := a1.2) (by omega)).1; simp only [zT]; omega) (bytess_in (by omega)).2 w0 a2.toNat_lt w1.1 w1.2) fun e W' he => ?_
  obtain ⟨v, rfl, rfl, hO⟩ := he
  exact ⟨_, rfl, zCt laidOut rfl (fun ds h => by
    rw [Tryz.params3] at h
    match ds, h with
    | [_, _, _], _ => rfl) rfl Tryz.underlying4 (by kernel_rfl) hW' (Own.below hO)⟩
set_option maxRecDepth 100000 in
theorem lifted (os : Os) (started : os.Started) (H : Type) (enc : TypeId × Value → H) (F : Stop.Interp) :
    ReturnsInHanded {} Tryz.checked os 3 .any ((Rows.OpenSpec.upto Rows.coreOneSpec).pre6 enc Tryz.prog Tryz.f3 Rows.coreOneUptoRow.domain false) (((Rows.OpenSpec.upto Rows.coreOneSpec).at F).post enc Tryz.prog Tryz.f3 false true false false) := by
  refine returnsInHanded_of_cond (C := Tryz.checked) (s := Rows.OpenSpec.upto Rows.coreOneSpec) (k := Rows.uptoSmall) rfl own started (by kernel_rfl) Tryz.func3
    (OpenSpec.witness (enc := enc) (C := Tryz.checked) (s := Rows.OpenSpec.upto Rows.coreOneSpec) (k := Rows.uptoSmall) rfl false ⟨#[], #[.int .u64 0, .slice none 0 0, .int .u8 0], []⟩ 8 (by kernel_rfl) (by kernel_rfl) (by kernel_rfl)
      (x := ([.lit (.int .u64 0), .nil, .lit (.int .u8 0)], [], [])) (by kernel_rfl) rfl (by kernel_rfl)) ?_
  intro W base args ds gs before hval hW _ hk _
  exact contract H enc W base args ds gs before hval hW hk
theorem proved : Rows.CoreOneUptoSaid :=
  OpenClaim.holds_of_cond 3 Tryz.f3 rfl rfl rfl rfl rfl rfl rfl ⟨rfl, rfl, rfl, rfl, rfl⟩ rfl rfl rfl rfl rfl (by kernel_rfl) Tryz.func3 (by kernel_rfl)
    (of_decide_eq_true (by kernel_rfl)) (by unfold Func.isWrapper; first | (rw [if_pos (by decide +kernel)]; kernel_rfl) | (rw [if_neg (by decide +kernel)]; exact ⟨rfl, rfl⟩))
    (fun os started H enc _ F => lifted os started H enc F)
end coreOne
end Go.Proofs.YtkkeknmkipkbmaaGreat
