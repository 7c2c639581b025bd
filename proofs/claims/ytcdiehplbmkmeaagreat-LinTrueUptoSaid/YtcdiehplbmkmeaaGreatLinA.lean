import Derived.Test.YtcdiehplbmkmeaaGreatLinX
set_option linter.unusedSectionVars false
set_option linter.unusedSimpArgs false
set_option linter.unusedVariables false
set_option maxRecDepth 10000
namespace Go.Proofs.YtcdiehplbmkmeaaGreat
open Go Go.Sc Go.Proofs
def call1 : CallD := { edge := 1, look := false, lazy := false, cmd := ({ session := 1, seq := 1, op := 1, key := (⟨#[107]⟩ : ByteArray), amount := 5, span := 0, lease := 0 } : CmdD), key := (⟨#[]⟩ : ByteArray), beg := 1, fin := 2, reply := ({ session := 1, seq := 1, e := 0, lease := 0, amount := 0, until_ := 0 } : RepD), cap := 0, lent := 0 }
theorem zDX : xE [call1] := by decide +kernel
theorem zC6 : yK [call1] 1 (kj [call1]) = some [0] := by decide +kernel
theorem zHL : call1.wf := ⟨by show yw 1; unfold yw; decide, zI6, by decide, by show yw 1; unfold yw; decide, by show yw 2; unfold yw; decide, ⟨by decide, by decide, by decide, by show yw 0; unfold yw; decide, by show yw 0; unfold yw; decide⟩⟩
section
variable {l : List CallD} {rl : List Int} {e : Int}
theorem sk_none (h : zAp l rl e) (hS : xE l) (hl : l.length ≤ 12) (hn : yK l l.length (kj l) = none) : e = 20 ∧ ((rl.length : Nat) : Int) = 0 := by
  rcases h with ⟨h, _⟩ | ⟨_, h, _⟩ | ⟨_, _, ⟨r, h, _⟩ | ⟨_, h1, h2⟩⟩
  · exact absurd hS h
  · omega
  · rw [hn] at h; cases h
  · exact ⟨h1, by rw [h2]; rfl⟩
theorem zIW (h : zAp l rl e) (hS : xE l) (hl : l.length ≤ 12) {r : List Nat} (hn : yK l l.length (kj l) = some r) : e = 0 ∧ rl = r.map fun (k : Nat) => (k : Int) := by
  rcases h with ⟨h, _⟩ | ⟨_, h, _⟩ | ⟨_, _, ⟨q, h, h1, h2⟩ | ⟨h, _⟩⟩
  · exact absurd hS h
  · omega
  · rw [hn] at h; cases h; exact ⟨h1, h2⟩
  · rw [hn] at h; cases h
end
theorem zLr {rl : List Int} {e : Int} (h : zAp [call1] rl e) : (e = 0 ∧ ((rl.length : Nat) : Int) = 1) ∧ zH rl 0 = 0 := by
  obtain ⟨h1, rfl⟩ := zIW h zDX (by decide) zC6
  exact ⟨⟨h1, rfl⟩, rfl⟩
theorem zCq (w : World) : Rets Tryz.prog 7 #[] w fun u_ w' => u_ = .bool true ∧ Own w [] [] w' := by
  refine ze Tryz.func7 rfl Tryz.ntmps7 (Own.start w) ?_
  refine zB (zG rfl (zA (zB (z7 (cs := [Vn 1, Vn 1, Vi 1, .string (⟨#[107]⟩ : ByteArray), Vi 5, Vi 0, Vn 0]) (z := [Vn 0, Vn 0, Vi 0, .string (⟨#[]⟩ : ByteArray), Vi 0, Vi 0, Vn 0]) (pl := [(0, 1), (1, 1), (2, 1), (3, 1), (4, 1), (5, 1), (6, 1)]) (by kernel_rfl) (by kernel_rfl) rfl (z7 (cs := [Vn 1, Vn 1, Vi 0, Vn 0, Vi 0, Vi 0]) (z := [Vn 0, Vn 0, Vi 0, Vn 0, Vi 0, Vi 0]) (pl := [(0, 1), (1, 1), (2, 1), (3, 1), (4, 1), (5, 1)]) (by kernel_rfl) (by kernel_rfl) rfl (z7 (cs := [Vi 1, .bool false, .bool false, Vn 1, Vn 1, Vi 1, .string (⟨#[107]⟩ : ByteArray), Vi 5, Vi 0, Vn 0, .string (⟨#[]⟩ : ByteArray), Vi 1, Vi 2, Vn 1, Vn 1, Vi 0, Vn 0, Vi 0, Vi 0, Vi 0, Vi 0]) (z := [Vi 0, .bool false, .bool false, Vn 0, Vn 0, Vi 0, .string (⟨#[]⟩ : ByteArray), Vi 0, Vi 0, Vn 0, .string (⟨#[]⟩ : ByteArray), Vi 0, Vi 0, Vn 0, Vn 0, Vi 0, Vn 0, Vi 0, Vi 0, Vi 0, Vi 0]) (pl := [(0, 1), (1, 1), (2, 1), (3, 7), (10, 1), (11, 1), (12, 1), (13, 6), (19, 1), (20, 1)]) (by kernel_rfl) (by kernel_rfl) rfl (yc (e := 56) (sz := 21) (vs := [.agg #[Vi 1, .bool false, .bool false, Vn 1, Vn 1, Vi 1, .string (⟨#[107]⟩ : ByteArray), Vi 5, Vi 0, Vn 0, .string (⟨#[]⟩ : ByteArray), Vi 1, Vi 2, Vn 1, Vn 1, Vi 0, Vn 0, Vi 0, Vi 0, Vi 0, Vi 0]]) (by kernel_rfl) rfl rfl (by simp [Value.cells, CallD.cells, CmdD.cells, RepD.cells]) (by decide) rfl (fun b7 => zG rfl (zA (zB (zC rfl (zP rfl rfl (fun w' hw => ?_)))))))))))))
  refine (zCl (.slice (some ⟨b7, 0, none⟩) 1 1) [({ edge := 1, look := false, lazy := false, cmd := ({ session := 1, seq := 1, op := 1, key := (⟨#[107]⟩ : ByteArray), amount := 5, span := 0, lease := 0 } : CmdD), key := (⟨#[]⟩ : ByteArray), beg := 1, fin := 2, reply := ({ session := 1, seq := 1, e := 0, lease := 0, amount := 0, until_ := 0 } : RepD), cap := 0, lent := 0 } : CallD)] w' (fun c hc => by rw [List.mem_singleton.1 hc]; exact zHL) (by first | assumption | omega | (simp <;> omega) | (constructor <;> (first | omega | (simp only [z6]; omega) | (simp <;> omega)))) (hw.rdVec0 0 rfl)).mono ?_
  rintro _ w1 ⟨rv1_, rl2_, e3_, rfl, hf2_1, hO⟩
  have hak := zLr hf2_1
  refine (?_ : CL _ _ _ _ _ _ (Own w [] [Res.vec 56 21 (.slice (some ⟨b7, 0, none⟩) 1 1) [({ edge := 1, look := false, lazy := false, cmd := ({ session := 1, seq := 1, op := 1, key := (⟨#[107]⟩ : ByteArray), amount := 5, span := 0, lease := 0 } : CmdD), key := (⟨#[]⟩ : ByteArray), beg := 1, fin := 2, reply := ({ session := 1, seq := 1, e := 0, lease := 0, amount := 0, until_ := 0 } : RepD), cap := 0, lent := 0 } : CallD)].length ([({ edge := 1, look := false, lazy := false, cmd := ({ session := 1, seq := 1, op := 1, key := (⟨#[107]⟩ : ByteArray), amount := 5, span := 0, lease := 0 } : CmdD), key := (⟨#[]⟩ : ByteArray), beg := 1, fin := 2, reply := ({ session := 1, seq := 1, e := 0, lease := 0, amount := 0, until_ := 0 } : RepD), cap := 0, lent := 0 } : CallD)].flatMap CallD.cells), Res.vec 3 1 rv1_ rl2_.length (rl2_.flatMap I1)])) w1 (hw.frame0 hO)
  refine zC rfl (zr (vs := [rv1_, Vi e3_]) rfl rfl rfl (zr (vs := [rv1_, Vi e3_]) rfl rfl rfl (zG rfl (zG rfl (zA (zB (zC rfl (yb rfl rfl rfl (zC rfl (yE (q := e3_ = 0) 3 2 [18, 17, 16] (((rl2_.length : Nat) : Int) = 1) rfl rfl rfl rfl rfl rfl trivial rfl (fun h3_2 => ?_) (fun g3_6 => ?_)))))))))))
  ·
   refine zR rfl (gT h3_2) (zC rfl (zR rfl (gT h3_2) (yP (pV 1 rfl) rfl rfl (zR rfl (gT h3_2) (yb rfl rfl rfl ?_)))))
   exact yH rfl (fun _ hw => hw)
  refine zC rfl (yE (q := (e3_ = 0) ∧ (((rl2_.length : Nat) : Int) = 1)) 4 7 [24, 23, 22, 21] ((zH rl2_ 0) = 0) rfl rfl rfl rfl rfl rfl trivial rfl (fun h3_7 => ?_) (fun g3_12 => ?_))
  ·
   refine zR rfl (gT h3_7) (zC rfl (zR rfl (gT h3_7) (zF (pV 1 rfl) 1 0 rfl rfl rfl (by omega) rfl (zR rfl (gT h3_7) (zQ (pV 1 rfl) 1 0 0 (fun _ => rfl) rfl (by omega) (by omega) rfl rfl (zR rfl (gT h3_7) (yb rfl rfl rfl ?_)))))))
   exact yH rfl (fun _ hw => hw)
  refine zG rfl (zA ?_)
  exact zN (z4 (v := .bool (decide (((e3_ = 0) ∧ (((rl2_.length : Nat) : Int) = 1)) ∧ ((zH rl2_ 0) = 0)))) rfl rfl (fun w' hw => ⟨(by congr 1; exact decide_eq_true hak), hw.drop⟩))
end Go.Proofs.YtcdiehplbmkmeaaGreat
