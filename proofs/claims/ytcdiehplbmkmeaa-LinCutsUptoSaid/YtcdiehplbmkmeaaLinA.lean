import Derived.Test.YtcdiehplbmkmeaaLinX
set_option linter.unusedSectionVars false
set_option linter.unusedSimpArgs false
set_option linter.unusedVariables false
set_option maxRecDepth 10000
namespace Go.Proofs.Ytcdiehplbmkmeaa
open Go Go.Sc Go.Proofs
def call1 : CallD := { edge := 1, look := false, lazy := false, cmd := ({ session := 1, seq := 1, op := 1, key := (⟨#[107]⟩ : ByteArray), amount := 5, span := 0, lease := 0 } : CmdD), key := (⟨#[]⟩ : ByteArray), beg := 1, fin := 2, reply := ({ session := 1, seq := 1, e := 0, lease := 0, amount := 0, until_ := 0 } : RepD), cap := 0, lent := 0 }
theorem zDV : y8 [call1] := by decide +kernel
theorem zCR : yj [call1] 1 (kC [call1]) = some [0] := by decide +kernel
theorem zG1 : call1.wf := ⟨by show ye 1; unfold ye; decide, zHc, by decide, by show ye 1; unfold ye; decide, by show ye 2; unfold ye; decide, ⟨by decide, by decide, by decide, by show ye 0; unfold ye; decide, by show ye 0; unfold ye; decide⟩⟩
section
variable {l : List CallD} {rl : List Int} {e : Int}
theorem sk_none (h : zAt l rl e) (hS : y8 l) (hl : l.length ≤ 12) (hn : yj l l.length (kC l) = none) : e = 20 ∧ ((rl.length : Nat) : Int) = 0 := by
  rcases h with ⟨h, _⟩ | ⟨_, h, _⟩ | ⟨_, _, ⟨r, h, _⟩ | ⟨_, h1, h2⟩⟩
  · exact absurd hS h
  · omega
  · rw [hn] at h; cases h
  · exact ⟨h1, by rw [h2]; rfl⟩
theorem zHp (h : zAt l rl e) (hS : y8 l) (hl : l.length ≤ 12) {r : List Nat} (hn : yj l l.length (kC l) = some r) : e = 0 ∧ rl = r.map fun (k : Nat) => (k : Int) := by
  rcases h with ⟨h, _⟩ | ⟨_, h, _⟩ | ⟨_, _, ⟨q, h, h1, h2⟩ | ⟨h, _⟩⟩
  · exact absurd hS h
  · omega
  · rw [hn] at h; cases h; exact ⟨h1, h2⟩
  · rw [hn] at h; cases h
end
theorem zJ2 {rl : List Int} {e : Int} (h : zAt [call1] rl e) : (e = 0 ∧ ((rl.length : Nat) : Int) = 1) ∧ zG rl 0 = 0 := by
  obtain ⟨h1, rfl⟩ := zHp h zDV (by decide) zCR
  exact ⟨⟨h1, rfl⟩, rfl⟩
theorem jO (w : World) : Rets Try.prog 6 #[] w fun u_ w' => u_ = .bool true ∧ Own w [] [] w' := by
  refine zh Try.func6 rfl Try.ntmps6 (Own.start w) ?_
  refine zB (zH rfl (zA (zB (yS (cs := [Vn 1, Vn 1, Vi 1, .string (⟨#[107]⟩ : ByteArray), Vi 5, Vi 0, Vn 0]) (z := [Vn 0, Vn 0, Vi 0, .string (⟨#[]⟩ : ByteArray), Vi 0, Vi 0, Vn 0]) (pl := [(0, 1), (1, 1), (2, 1), (3, 1), (4, 1), (5, 1), (6, 1)]) (by kernel_rfl) (by kernel_rfl) rfl (yS (cs := [Vn 1, Vn 1, Vi 0, Vn 0, Vi 0, Vi 0]) (z := [Vn 0, Vn 0, Vi 0, Vn 0, Vi 0, Vi 0]) (pl := [(0, 1), (1, 1), (2, 1), (3, 1), (4, 1), (5, 1)]) (by kernel_rfl) (by kernel_rfl) rfl (yS (cs := [Vi 1, .bool false, .bool false, Vn 1, Vn 1, Vi 1, .string (⟨#[107]⟩ : ByteArray), Vi 5, Vi 0, Vn 0, .string (⟨#[]⟩ : ByteArray), Vi 1, Vi 2, Vn 1, Vn 1, Vi 0, Vn 0, Vi 0, Vi 0, Vi 0, Vi 0]) (z := [Vi 0, .bool false, .bool false, Vn 0, Vn 0, Vi 0, .string (⟨#[]⟩ : ByteArray), Vi 0, Vi 0, Vn 0, .string (⟨#[]⟩ : ByteArray), Vi 0, Vi 0, Vn 0, Vn 0, Vi 0, Vn 0, Vi 0, Vi 0, Vi 0, Vi 0]) (pl := [(0, 1), (1, 1), (2, 1), (3, 7), (10, 1), (11, 1), (12, 1), (13, 6), (19, 1), (20, 1)]) (by kernel_rfl) (by kernel_rfl) rfl (yg (e := 34) (sz := 21) (vs := [.agg #[Vi 1, .bool false, .bool false, Vn 1, Vn 1, Vi 1, .string (⟨#[107]⟩ : ByteArray), Vi 5, Vi 0, Vn 0, .string (⟨#[]⟩ : ByteArray), Vi 1, Vi 2, Vn 1, Vn 1, Vi 0, Vn 0, Vi 0, Vi 0, Vi 0, Vi 0]]) (by kernel_rfl) rfl rfl (by simp [Value.cells, CallD.cells]) (by decide) rfl (fun b7 => zH rfl (zA (zB (zC rfl (zQ rfl rfl (fun w' hw => ?_)))))))))))))
  refine (zFV (.slice (some ⟨b7, 0, none⟩) 1 1) [({ edge := 1, look := false, lazy := false, cmd := ({ session := 1, seq := 1, op := 1, key := (⟨#[107]⟩ : ByteArray), amount := 5, span := 0, lease := 0 } : CmdD), key := (⟨#[]⟩ : ByteArray), beg := 1, fin := 2, reply := ({ session := 1, seq := 1, e := 0, lease := 0, amount := 0, until_ := 0 } : RepD), cap := 0, lent := 0 } : CallD)] w' (fun c hc => by rw [List.mem_singleton.1 hc]; exact zG1) (by first | assumption | omega | (simp <;> omega) | (constructor <;> (first | omega | (simp only [zx]; omega) | (simp <;> omega)))) (hw.rdVec0 0 rfl)).mono ?_
  rintro _ w1 ⟨rv1_, rl2_, e3_, rfl, hf2_1, hO⟩
  have hak := zJ2 hf2_1
  refine (?_ : CL _ _ _ _ _ _ (Own w [] [Res.vec 34 21 (.slice (some ⟨b7, 0, none⟩) 1 1) [({ edge := 1, look := false, lazy := false, cmd := ({ session := 1, seq := 1, op := 1, key := (⟨#[107]⟩ : ByteArray), amount := 5, span := 0, lease := 0 } : CmdD), key := (⟨#[]⟩ : ByteArray), beg := 1, fin := 2, reply := ({ session := 1, seq := 1, e := 0, lease := 0, amount := 0, until_ := 0 } : RepD), cap := 0, lent := 0 } : CallD)].length ([({ edge := 1, look := false, lazy := false, cmd := ({ session := 1, seq := 1, op := 1, key := (⟨#[107]⟩ : ByteArray), amount := 5, span := 0, lease := 0 } : CmdD), key := (⟨#[]⟩ : ByteArray), beg := 1, fin := 2, reply := ({ session := 1, seq := 1, e := 0, lease := 0, amount := 0, until_ := 0 } : RepD), cap := 0, lent := 0 } : CallD)].flatMap CallD.cells), Res.vec 3 1 rv1_ rl2_.length (rl2_.flatMap I1)])) w1 (hw.frame0 hO)
  refine zC rfl (zl (vs := [rv1_, Vi e3_]) rfl rfl rfl (zl (vs := [rv1_, Vi e3_]) rfl rfl rfl (zH rfl (zH rfl (zA (zB (zC rfl (yr rfl rfl rfl (zC rfl (yZ (q := e3_ = 0) 3 2 [18, 17, 16] (((rl2_.length : Nat) : Int) = 1) rfl rfl rfl rfl rfl rfl trivial rfl (fun h3_2 => ?_) (fun g3_6 => ?_)))))))))))
  ·
   refine zV rfl (gT h3_2) (zC rfl (zV rfl (gT h3_2) (yL (pV 1 rfl) rfl rfl (zV rfl (gT h3_2) (yr rfl rfl rfl ?_)))))
   exact yi rfl (fun _ hw => hw)
  refine zC rfl (yZ (q := (e3_ = 0) ∧ (((rl2_.length : Nat) : Int) = 1)) 4 7 [24, 23, 22, 21] ((zG rl2_ 0) = 0) rfl rfl rfl rfl rfl rfl trivial rfl (fun h3_7 => ?_) (fun g3_12 => ?_))
  ·
   refine zV rfl (gT h3_7) (zC rfl (zV rfl (gT h3_7) (zD (pV 1 rfl) 1 0 rfl rfl rfl (by omega) rfl (zV rfl (gT h3_7) (zN (pV 1 rfl) 1 0 0 (fun _ => rfl) rfl (by omega) (by omega) rfl rfl (zV rfl (gT h3_7) (yr rfl rfl rfl ?_)))))))
   exact yi rfl (fun _ hw => hw)
  refine zH rfl (zA ?_)
  exact zR (z3 (v := .bool (decide (((e3_ = 0) ∧ (((rl2_.length : Nat) : Int) = 1)) ∧ ((zG rl2_ 0) = 0)))) rfl rfl (fun w' hw => ⟨(by congr 1; exact decide_eq_true hak), hw.drop⟩))
end Go.Proofs.Ytcdiehplbmkmeaa
