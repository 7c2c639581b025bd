import Derived.Test.YtcdiehplbmkmeaaGreatLinX
set_option linter.unusedSectionVars false
set_option linter.unusedSimpArgs false
set_option linter.unusedVariables false
set_option maxRecDepth 10000
namespace Go.Proofs.YtcdiehplbmkmeaaGreat
open Go Go.Sc Go.Proofs
def call1 : CallD := { edge := 1, look := false, lazy := false, cmd := ({ session := 1, seq := 1, op := 1, key := (⟨#[107]⟩ : ByteArray), amount := 5, span := 0, lease := 0 } : CmdD), key := (⟨#[]⟩ : ByteArray), beg := 1, fin := 2, reply := ({ session := 1, seq := 1, e := 0, lease := 0, amount := 0, until_ := 0 } : RepD), cap := 0, lent := 0 }
theorem zD1 : xD [call1] := by decide +kernel
theorem zCo : ya [call1] 1 (jU [call1]) = some [0] := by decide +kernel
theorem zHJ : call1.wf := ⟨by show yx 1; unfold yx; decide, zIE, by decide, by show yx 1; unfold yx; decide, by show yx 2; unfold yx; decide, ⟨by decide, by decide, by decide, by show yx 0; unfold yx; decide, by show yx 0; unfold yx; decide⟩⟩
section
variable {l : List CallD} {rl : List Int} {e : Int}
theorem sk_none (h : zAg l rl e) (hS : xD l) (hl : l.length ≤ 12) (hn : ya l l.length (jU l) = none) : e = 20 ∧ ((rl.length : Nat) : Int) = 0 := by
  rcases h with ⟨h, _⟩ | ⟨_, h, _⟩ | ⟨_, _, ⟨r, h, _⟩ | ⟨_, h1, h2⟩⟩
  · exact absurd hS h
  · omega
  · rw [hn] at h; cases h
  · exact ⟨h1, by rw [h2]; rfl⟩
theorem zJD (h : zAg l rl e) (hS : xD l) (hl : l.length ≤ 12) {r : List Nat} (hn : ya l l.length (jU l) = some r) : e = 0 ∧ rl = r.map fun (k : Nat) => (k : Int) := by
  rcases h with ⟨h, _⟩ | ⟨_, h, _⟩ | ⟨_, _, ⟨q, h, h1, h2⟩ | ⟨h, _⟩⟩
  · exact absurd hS h
  · omega
  · rw [hn] at h; cases h; exact ⟨h1, h2⟩
  · rw [hn] at h; cases h
end
theorem zLr {rl : List Int} {e : Int} (h : zAg [call1] rl e) : (e = 0 ∧ ((rl.length : Nat) : Int) = 1) ∧ zG rl 0 = 0 := by
  obtain ⟨h1, rfl⟩ := zJD h zD1 (by decide) zCo
  exact ⟨⟨h1, rfl⟩, rfl⟩
theorem zCC (w : World) : Rets Tryz.prog 7 #[] w fun u_ w' => u_ = .bool true ∧ Own w [] [] w' := by
  refine ze Tryz.func7 rfl Tryz.ntmps7 (Own.start w) ?_
  refine zB (zH rfl (zA (zB (z8 (cs := [Vn 1, Vn 1, Vi 1, .string (⟨#[107]⟩ : ByteArray), Vi 5, Vi 0, Vn 0]) (z := [Vn 0, Vn 0, Vi 0, .string (⟨#[]⟩ : ByteArray), Vi 0, Vi 0, Vn 0]) (pl := [(0, 1), (1, 1), (2, 1), (3, 1), (4, 1), (5, 1), (6, 1)]) (by kernel_rfl) (by kernel_rfl) rfl (z8 (cs := [Vn 1, Vn 1, Vi 0, Vn 0, Vi 0, Vi 0]) (z := [Vn 0, Vn 0, Vi 0, Vn 0, Vi 0, Vi 0]) (pl := [(0, 1), (1, 1), (2, 1), (3, 1), (4, 1), (5, 1)]) (by kernel_rfl) (by kernel_rfl) rfl (z8 (cs := [Vi 1, .bool false, .bool false, Vn 1, Vn 1, Vi 1, .string (⟨#[107]⟩ : ByteArray), Vi 5, Vi 0, Vn 0, .string (⟨#[]⟩ : ByteArray), Vi 1, Vi 2, Vn 1, Vn 1, Vi 0, Vn 0, Vi 0, Vi 0, Vi 0, Vi 0]) (z := [Vi 0, .bool false, .bool false, Vn 0, Vn 0, Vi 0, .string (⟨#[]⟩ : ByteArray), Vi 0, Vi 0, Vn 0, .string (⟨#[]⟩ : ByteArray), Vi 0, Vi 0, Vn 0, Vn 0, Vi 0, Vn 0, Vi 0, Vi 0, Vi 0, Vi 0]) (pl := [(0, 1), (1, 1), (2, 1), (3, 7), (10, 1), (11, 1), (12, 1), (13, 6), (19, 1), (20, 1)]) (by kernel_rfl) (by kernel_rfl) rfl (yh (e := 56) (sz := 21) (vs := [.agg #[Vi 1, .bool false, .bool false, Vn 1, Vn 1, Vi 1, .string (⟨#[107]⟩ : ByteArray), Vi 5, Vi 0, Vn 0, .string (⟨#[]⟩ : ByteArray), Vi 1, Vi 2, Vn 1, Vn 1, Vi 0, Vn 0, Vi 0, Vi 0, Vi 0, Vi 0]]) (by kernel_rfl) rfl rfl (by simp [Value.cells, CallD.cells, CmdD.cells, RepD.cells]) (by decide) rfl (fun b7 => zH rfl (zA (zB (zC rfl (zQ rfl rfl (fun w' hw => ?_)))))))))))))
  refine (zCT (.slice (some ⟨b7, 0, none⟩) 1 1) [({ edge := 1, look := false, lazy := false, cmd := ({ session := 1, seq := 1, op := 1, key := (⟨#[107]⟩ : ByteArray), amount := 5, span := 0, lease := 0 } : CmdD), key := (⟨#[]⟩ : ByteArray), beg := 1, fin := 2, reply := ({ session := 1, seq := 1, e := 0, lease := 0, amount := 0, until_ := 0 } : RepD), cap := 0, lent := 0 } : CallD)] w' (fun c hc => by rw [List.mem_singleton.1 hc]; exact zHJ) (by first | assumption | omega | (simp <;> omega) | (constructor <;> (first | omega | (simp only [z6]; omega) | (simp <;> omega)))) (hw.rdVec0 0 rfl)).mono ?_
  rintro _ w1 ⟨rv1_, rl2_, e3_, rfl, hf2_1, hO⟩
  have hak := zLr hf2_1
  refine (?_ : CL _ _ _ _ _ _ (Own w [] [Res.vec 56 21 (.slice (some ⟨b7, 0, none⟩) 1 1) [({ edge := 1, look := false, lazy := false, cmd := ({ session := 1, seq := 1, op := 1, key := (⟨#[107]⟩ : ByteArray), amount := 5, span := 0, lease := 0 } : CmdD), key := (⟨#[]⟩ : ByteArray), beg := 1, fin := 2, reply := ({ session := 1, seq := 1, e := 0, lease := 0, amount := 0, until_ := 0 } : RepD), cap := 0, lent := 0 } : CallD)].length ([({ edge := 1, look := false, lazy := false, cmd := ({ session := 1, seq := 1, op := 1, key := (⟨#[107]⟩ : ByteArray), amount := 5, span := 0, lease := 0 } : CmdD), key := (⟨#[]⟩ : ByteArray), beg := 1, fin := 2, reply := ({ session := 1, seq := 1, e := 0, lease := 0, amount := 0, until_ := 0 } : RepD), cap := 0, lent := 0 } : CallD)].flatMap CallD.cells), Res.vec 3 1 rv1_ rl2_.length (rl2_.flatMap I1)])) w1 (hw.frame0 hO)
  refine zC rfl (zr (vs := [rv1_, Vi e3_]) rfl rfl rfl (zr (vs := [rv1_, Vi e3_]) rfl rfl rfl (zH rfl (zH rfl (zA (zB (zC rfl (yV rfl rfl rfl (zC rfl (yD (q := e3_ = 0) 3 2 [18, 17, 16] (((rl2_.length : Nat) : Int) = 1) rfl rfl rfl rfl rfl rfl trivial rfl (fun h3_2 => ?_) (fun g3_6 => ?_)))))))))))
  ·
   refine zR rfl (gT h3_2) (zC rfl (zR rfl (gT h3_2) (yY (pV 1 rfl) rfl rfl (zR rfl (gT h3_2) (yV rfl rfl rfl ?_)))))
   exact yH rfl (fun _ hw => hw)
  refine zC rfl (yD (q := (e3_ = 0) ∧ (((rl2_.length : Nat) : Int) = 1)) 4 7 [24, 23, 22, 21] ((zG rl2_ 0) = 0) rfl rfl rfl rfl rfl rfl trivial rfl (fun h3_7 => ?_) (fun g3_12 => ?_))
  ·
   refine zR rfl (gT h3_7) (zC rfl (zR rfl (gT h3_7) (zF (pV 1 rfl) 1 0 rfl rfl rfl (by omega) rfl (zR rfl (gT h3_7) (zP (pV 1 rfl) 1 0 0 (fun _ => rfl) rfl (by omega) (by omega) rfl rfl (zR rfl (gT h3_7) (yV rfl rfl rfl ?_)))))))
   exact yH rfl (fun _ hw => hw)
  refine zH rfl (zA ?_)
  exact zN (z4 (v := .bool (decide (((e3_ = 0) ∧ (((rl2_.length : Nat) : Int) = 1)) ∧ ((zG rl2_ 0) = 0)))) rfl rfl (fun w' hw => ⟨(by congr 1; exact decide_eq_true hak), hw.drop⟩))
end Go.Proofs.YtcdiehplbmkmeaaGreat
