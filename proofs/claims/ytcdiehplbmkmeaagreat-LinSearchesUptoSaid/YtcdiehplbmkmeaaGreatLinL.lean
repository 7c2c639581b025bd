import Derived.Test.YtcdiehplbmkmeaaGreatLinX
import Derived.Test.YtcdiehplbmkmeaaGreatLinS
set_option linter.unusedSectionVars false
set_option linter.unusedSimpArgs false
set_option linter.unusedVariables false
set_option maxRecDepth 10000
namespace Go.Proofs.YtcdiehplbmkmeaaGreat
open Go Go.Sc Go.Proofs
def call1 : CallD := { edge := 1, look := false, lazy := false, cmd := ({ session := 1, seq := 1, op := 1, key := (⟨#[107]⟩ : ByteArray), amount := 5, span := 0, lease := 0 } : CmdD), key := (⟨#[]⟩ : ByteArray), beg := 1, fin := 2, reply := ({ session := 1, seq := 1, e := 0, lease := 0, amount := 0, until_ := 0 } : RepD), cap := 0, lent := 0 }
theorem zDE : xd [call1] := by decide +kernel
theorem zCf : y3 [call1] 1 (zA6 [call1]) = some [0] := by decide +kernel
theorem zHX : call1.wf := ⟨by show y6 1; unfold y6; decide, zIV, by decide, by show y6 1; unfold y6; decide, by show y6 2; unfold y6; decide, ⟨by decide, by decide, by decide, by show y6 0; unfold y6; decide, by show y6 0; unfold y6; decide⟩⟩
section
variable {l : List CallD} {rl : List Int} {e : Int}
theorem zKq (h : zAQ l rl e) (hS : ¬ xd l) : e = 2 ∧ ((rl.length : Nat) : Int) = 0 := by
  rcases h with ⟨_, h1, h2⟩ | ⟨h, _⟩ | ⟨h, _⟩
  · exact ⟨h1, by rw [h2]; rfl⟩
  · exact absurd h hS
  · exact absurd h hS
theorem zIS (h : zAQ l rl e) (hS : xd l) (hl : l.length ≤ 12) (hn : y3 l l.length (zA6 l) = none) : e = 20 ∧ ((rl.length : Nat) : Int) = 0 := by
  rcases h with ⟨h, _⟩ | ⟨_, h, _⟩ | ⟨_, _, ⟨r, h, _⟩ | ⟨_, h1, h2⟩⟩
  · exact absurd hS h
  · omega
  · rw [hn] at h; cases h
  · exact ⟨h1, by rw [h2]; rfl⟩
theorem zCc (h : zAQ l rl e) (hS : xd l) (hl : l.length ≤ 12) {r : List Nat} (hn : y3 l l.length (zA6 l) = some r) : e = 0 ∧ rl = r.map fun (k : Nat) => (k : Int) := by
  rcases h with ⟨h, _⟩ | ⟨_, h, _⟩ | ⟨_, _, ⟨q, h, h1, h2⟩ | ⟨h, _⟩⟩
  · exact absurd hS h
  · omega
  · rw [hn] at h; cases h; exact ⟨h1, h2⟩
  · rw [hn] at h; cases h
end
theorem zKW {rl : List Int} {e : Int} (h : zAQ [call1] rl e) : (e = 0 ∧ ((rl.length : Nat) : Int) = 1) ∧ zJ rl 0 = 0 := by
  obtain ⟨h1, rfl⟩ := zCc h zDE (by decide) zCf
  exact ⟨⟨h1, rfl⟩, rfl⟩
theorem zCY (w : World) : Rets Tryz.prog 7 #[] w fun u_ w' => u_ = .bool true ∧ Own w [] [] w' := by
  refine zd Tryz.func7 rfl Tryz.ntmps7 (Own.start w) ?_
  refine zB (zE rfl (zA (zB (yB (cs := [Vn 1, Vn 1, Vi 1, .string (⟨#[107]⟩ : ByteArray), Vi 5, Vi 0, Vn 0]) (z := [Vn 0, Vn 0, Vi 0, .string (⟨#[]⟩ : ByteArray), Vi 0, Vi 0, Vn 0]) (pl := [(0, 1), (1, 1), (2, 1), (3, 1), (4, 1), (5, 1), (6, 1)]) (by kernel_rfl) (by kernel_rfl) rfl (yB (cs := [Vn 1, Vn 1, Vi 0, Vn 0, Vi 0, Vi 0]) (z := [Vn 0, Vn 0, Vi 0, Vn 0, Vi 0, Vi 0]) (pl := [(0, 1), (1, 1), (2, 1), (3, 1), (4, 1), (5, 1)]) (by kernel_rfl) (by kernel_rfl) rfl (yB (cs := [Vi 1, .bool false, .bool false, Vn 1, Vn 1, Vi 1, .string (⟨#[107]⟩ : ByteArray), Vi 5, Vi 0, Vn 0, .string (⟨#[]⟩ : ByteArray), Vi 1, Vi 2, Vn 1, Vn 1, Vi 0, Vn 0, Vi 0, Vi 0, Vi 0, Vi 0]) (z := [Vi 0, .bool false, .bool false, Vn 0, Vn 0, Vi 0, .string (⟨#[]⟩ : ByteArray), Vi 0, Vi 0, Vn 0, .string (⟨#[]⟩ : ByteArray), Vi 0, Vi 0, Vn 0, Vn 0, Vi 0, Vn 0, Vi 0, Vi 0, Vi 0, Vi 0]) (pl := [(0, 1), (1, 1), (2, 1), (3, 7), (10, 1), (11, 1), (12, 1), (13, 6), (19, 1), (20, 1)]) (by kernel_rfl) (by kernel_rfl) rfl (yl (e := 56) (sz := 21) (vs := [.agg #[Vi 1, .bool false, .bool false, Vn 1, Vn 1, Vi 1, .string (⟨#[107]⟩ : ByteArray), Vi 5, Vi 0, Vn 0, .string (⟨#[]⟩ : ByteArray), Vi 1, Vi 2, Vn 1, Vn 1, Vi 0, Vn 0, Vi 0, Vi 0, Vi 0, Vi 0]]) (by kernel_rfl) rfl rfl (by simp [Value.cells, CallD.cells]) (by decide) rfl (fun b7 => zE rfl (zA (zB (zC rfl (zP rfl rfl (fun w' hw => ?_)))))))))))))
  refine (zCO (.slice (some ⟨b7, 0, none⟩) 1 1) [({ edge := 1, look := false, lazy := false, cmd := ({ session := 1, seq := 1, op := 1, key := (⟨#[107]⟩ : ByteArray), amount := 5, span := 0, lease := 0 } : CmdD), key := (⟨#[]⟩ : ByteArray), beg := 1, fin := 2, reply := ({ session := 1, seq := 1, e := 0, lease := 0, amount := 0, until_ := 0 } : RepD), cap := 0, lent := 0 } : CallD)] w' (fun c hc => by rw [List.mem_singleton.1 hc]; exact zHX) (by first | assumption | omega | (simp <;> omega) | (constructor <;> (first | omega | (simp only [z6]; omega) | (simp <;> omega)))) (hw.rdVec0 0 rfl)).mono ?_
  rintro _ w1 ⟨rv1_, rl2_, e3_, rfl, hf2_1, hO⟩
  have hak := zKW hf2_1
  refine (?_ : CL _ _ _ _ _ _ (Own w [] [Res.vec 56 21 (.slice (some ⟨b7, 0, none⟩) 1 1) [({ edge := 1, look := false, lazy := false, cmd := ({ session := 1, seq := 1, op := 1, key := (⟨#[107]⟩ : ByteArray), amount := 5, span := 0, lease := 0 } : CmdD), key := (⟨#[]⟩ : ByteArray), beg := 1, fin := 2, reply := ({ session := 1, seq := 1, e := 0, lease := 0, amount := 0, until_ := 0 } : RepD), cap := 0, lent := 0 } : CallD)].length ([({ edge := 1, look := false, lazy := false, cmd := ({ session := 1, seq := 1, op := 1, key := (⟨#[107]⟩ : ByteArray), amount := 5, span := 0, lease := 0 } : CmdD), key := (⟨#[]⟩ : ByteArray), beg := 1, fin := 2, reply := ({ session := 1, seq := 1, e := 0, lease := 0, amount := 0, until_ := 0 } : RepD), cap := 0, lent := 0 } : CallD)].flatMap CallD.cells), Res.vec 3 1 rv1_ rl2_.length (rl2_.flatMap I1)])) w1 (hw.frame0 hO)
  refine zC rfl (zr (vs := [rv1_, Vi e3_]) rfl rfl rfl (zr (vs := [rv1_, Vi e3_]) rfl rfl rfl (zE rfl (zE rfl (zA (zB (zC rfl (yX rfl rfl rfl (zC rfl (z7 (q := e3_ = 0) 3 2 [18, 17, 16] (((rl2_.length : Nat) : Int) = 1) rfl rfl rfl rfl rfl rfl trivial rfl (fun h3_2 => ?_) (fun g3_6 => ?_)))))))))))
  ·
   refine zQ rfl (gT h3_2) (zC rfl (zQ rfl (gT h3_2) (yM (pV 1 rfl) rfl rfl (zQ rfl (gT h3_2) (yX rfl rfl rfl ?_)))))
   exact yH rfl (fun _ hw => hw)
  refine zC rfl (z7 (q := (e3_ = 0) ∧ (((rl2_.length : Nat) : Int) = 1)) 4 7 [24, 23, 22, 21] ((zJ rl2_ 0) = 0) rfl rfl rfl rfl rfl rfl trivial rfl (fun h3_7 => ?_) (fun g3_12 => ?_))
  ·
   refine zQ rfl (gT h3_7) (zC rfl (zQ rfl (gT h3_7) (zG (pV 1 rfl) 1 0 rfl rfl rfl (by omega) rfl (zQ rfl (gT h3_7) (zR (pV 1 rfl) 1 0 0 (fun _ => rfl) rfl (by omega) (by omega) rfl rfl (zQ rfl (gT h3_7) (yX rfl rfl rfl ?_)))))))
   exact yH rfl (fun _ hw => hw)
  refine zE rfl (zA ?_)
  exact zN (zu (v := .bool (decide (((e3_ = 0) ∧ (((rl2_.length : Nat) : Int) = 1)) ∧ ((zJ rl2_ 0) = 0)))) rfl rfl (fun w' hw => ⟨(by congr 1; exact decide_eq_true hak), hw.drop⟩))
theorem zBz (v : Value) (l : List CallD) (w : World) (hcw : ∀ c ∈ l, c.wf) (hl : l.length ≤ 10000000) (hv : Rd w [] (Res.sl v l.length (l.flatMap CallD.cells))) : Rets Tryz.prog 3 #[v] w fun u_ w' => u_ = .bool true ∧ Own w [] [] w' := by
  refine zd Tryz.func3 rfl Tryz.ntmps3 (Own.start w) ?_
  refine zB (zE rfl (zA (zK (zB (zP rfl rfl (fun w' hw => (zCY w').mono ?_))))))
  rintro _ w1 ⟨rfl, hO⟩
  refine (?_ : CL _ _ _ _ _ _ (Own w [] [])) w1 (hw.frame0 hO)
  refine kL (b := true) rfl rfl (zC rfl (zQ rfl rfl (zC rfl (zQ rfl rfl (yM (pR hv) rfl rfl (zQ rfl rfl (xF rfl rfl rfl (kY rfl rfl (zA (zT rfl (fun c1 => ?_) (fun c1 => ?_)))))))))))
  ·
   refine zB (zP rfl rfl (fun w' hw => (zCY w').mono ?_))
   rintro _ w1 ⟨rfl, hO⟩
   refine (?_ : CL _ _ _ _ _ _ (Own w [] [])) w1 (hw.frame0 hO)
   refine zE rfl (zA ?_)
   exact zN (zu (v := .bool true) rfl rfl (fun w' hw => ⟨rfl, hw.drop⟩))
  ·
   refine zI (zB (yl (e := 56) (sz := 21) (vs := []) (by kernel_rfl) rfl rfl (by simp [Value.cells, CallD.cells]) (by decide) rfl (fun b16 => zC rfl (yq (g := CallD.cells) (sz := 21) (by' := 176) (fun _ => rfl) (l := []) (l' := l) (by simp [cell1, CallD.cells, CmdD.cells, RepD.cells, vu]) 0 (by kernel_rfl) rfl rfl rfl (fun w' hw' => Own.rd hv hw') (by first | omega | (simp; omega)) (by decide) rfl (fun v18 => zP rfl rfl (fun w' hw => (zCO v18 l w' ‹_› (by first | omega | (simp <;> omega)) (hw.rdVec0 0 rfl)).mono ?_))))))
   rintro _ w1 ⟨rv1_, rl2_, e3_, rfl, hf3_3, hO⟩
   have hsk := hf3_3
   refine (?_ : CL _ _ _ _ _ _ (Own w [] [Res.vec 56 21 v18 l.length (l.flatMap CallD.cells), Res.vec 3 1 rv1_ rl2_.length (rl2_.flatMap I1)])) w1 (hw.frame0 hO)
   refine zC rfl (zr (vs := [rv1_, Vi e3_]) rfl rfl rfl (zr (vs := [rv1_, Vi e3_]) rfl rfl rfl (zE rfl (zE rfl (zA (zK (zB (zC rfl (zP rfl rfl (fun w' hw => (zFz v l w' ‹_› (by first | omega | (simp <;> omega)) (hw.rd0 hv)).mono ?_))))))))))
   rintro _ w1 ⟨rfl, hO⟩
   refine (?_ : CL _ _ _ _ _ _ (Own w [] [Res.vec 56 21 v18 l.length (l.flatMap CallD.cells), Res.vec 3 1 rv1_ rl2_.length (rl2_.flatMap I1)])) w1 (hw.frame0 hO)
   refine xf (q := xd l) rfl rfl (zA (zT rfl (fun c2 => ?_) (fun c2 => ?_)))
   ·
    refine zB (zC rfl (yX rfl rfl rfl (zC rfl (z7 (q := e3_ = 2) 3 2 [30, 29, 28] (((rl2_.length : Nat) : Int) = 0) rfl rfl rfl rfl rfl rfl trivial rfl (fun h5_2 => ?_) (fun g5_6 => ?_)))))
    ·
     refine zQ rfl (gT h5_2) (zC rfl (zQ rfl (gT h5_2) (yM (pV 1 rfl) rfl rfl (zQ rfl (gT h5_2) (yX rfl rfl rfl ?_)))))
     exact yH rfl (fun _ hw => hw)
    refine zE rfl (zA ?_)
    exact zN (zu (v := .bool (decide ((e3_ = 2) ∧ (((rl2_.length : Nat) : Int) = 0)))) rfl rfl (fun w' hw => ⟨(by congr 1; exact decide_eq_true (zKq hsk c2)), hw.drop⟩))
   ·
    have hS := Decidable.not_not.1 c2
    refine zI (zB (zC rfl (zC rfl (yM (pR hv) rfl rfl (zHS (e := 4) (g := B1) (z := false) (by' := 1) (m := l.length) (by kernel_rfl) (by kernel_rfl) rfl rfl rfl rfl (by first | omega | (simp; omega)) (by decide) rfl (fun b36 => yB (cs := [Vi 0, Vn 0, .slice none 0 0, .slice none 0 0, .slice none 0 0, Vn 0, (.slice (some ⟨b36, 0, none⟩) l.length l.length)]) (z := [Vi 0, Vn 0, .slice none 0 0, .slice none 0 0, .slice none 0 0, Vn 0, .slice none 0 0]) (pl := [(0, 6), (6, 1)]) (by kernel_rfl) (by kernel_rfl) rfl (zP rfl rfl (fun w' hw => (zFK v (.slice none 0 0) (.slice none 0 0) (.slice none 0 0) (.slice (some ⟨b36, 0, none⟩) l.length l.length) l ⟨0, 0, [], [], []⟩ (List.replicate l.length false) w' LOkR.start hcw (by rw [kc]; show 0 + _ ≤ _; omega) (by first | omega | (simp <;> omega)) (by simp) (hw.rd0 hv) Rd.nil Rd.nil Rd.nil (hw.rdVec0 2 rfl)).mono ?_))))))))
    rintro _ w1 ⟨ov4_, rl5_, found6_, rfl, hf6_5, hf6_5_1, hO⟩
    have hrp := hf6_5
    have hrl := hf6_5_1
    rw [kc] at hrl
    refine (?_ : CL _ _ _ _ _ _ (Own w [] [Res.vec 56 21 v18 l.length (l.flatMap CallD.cells), Res.vec 3 1 rv1_ rl2_.length (rl2_.flatMap I1), Res.vec 4 1 (.slice (some ⟨b36, 0, none⟩) l.length l.length) (List.replicate l.length false).length ((List.replicate l.length false).flatMap B1), Res.vec 3 1 ov4_ rl5_.length (rl5_.flatMap I1)])) w1 (hw.frame0 hO)
    refine zC rfl (zr (vs := [ov4_, .bool found6_]) rfl rfl rfl (zr (vs := [ov4_, .bool found6_]) rfl rfl rfl (zE rfl (zE rfl (zA (zK (zB (zC rfl (kL (b := found6_) rfl rfl (zA (kp rfl (fun c3 => ?_) (fun c3 => ?_))))))))))))
    ·
     refine zB (zC rfl (yX rfl rfl rfl (zC rfl (z7 (q := e3_ = 20) 3 2 [48, 47, 46] (((rl2_.length : Nat) : Int) = 0) rfl rfl rfl rfl rfl rfl trivial rfl (fun h8_2 => ?_) (fun g8_6 => ?_)))))
     ·
      refine zQ rfl (gT h8_2) (zC rfl (zQ rfl (gT h8_2) (yM (pV 1 rfl) rfl rfl (zQ rfl (gT h8_2) (yX rfl rfl rfl ?_)))))
      exact yH rfl (fun _ hw => hw)
     refine zE rfl (zA ?_)
     exact zN (zu (v := .bool (decide ((e3_ = 20) ∧ (((rl2_.length : Nat) : Int) = 0)))) rfl rfl (fun w' hw => ⟨(by congr 1; exact decide_eq_true (zIS hsk hS (by omega) (zI9 hrp (notFi.1 c3)))), hw.drop⟩))
    ·
     have hq : rl2_ = rl5_ := by obtain ⟨r, h1, _, h3⟩ := zDy hrp (zJl c3); exact (zCc hsk hS (by omega) h1).2.trans h3.symm
     have hle := congrArg List.length hq
     have he0 : e3_ = 0 := by obtain ⟨r, h1, _, h3⟩ := zDy hrp (zJl c3); exact (zCc hsk hS (by omega) h1).1
     refine zI (zB (zC rfl (yX rfl rfl rfl (zC rfl (z7 (q := e3_ = 0) 3 2 [55, 54, 53] (rl2_ = rl5_) rfl rfl rfl rfl rfl rfl trivial rfl (fun h9_2 => ?_) (fun g9_6 => ?_))))))
     ·
      refine zQ rfl (gT h9_2) (zC rfl (zQ rfl (gT h9_2) (zC rfl (zQ rfl (gT h9_2) (zP rfl rfl (fun w' hw => (zB3 rv1_ rl2_ ov4_ rl5_ w' (by first | assumption | omega | (simp <;> omega) | (constructor <;> (first | omega | (simp only [z6]; omega) | (simp <;> omega)))) (by first | assumption | omega | (simp <;> omega) | (constructor <;> (first | omega | (simp only [z6]; omega) | (simp <;> omega)))) (hw.rdVec0 1 rfl) (hw.rdVec0 3 rfl)).mono ?_))))))
      rintro _ w1 ⟨rfl, hO⟩
      refine (?_ : CL _ _ _ _ _ _ (Own w [] [Res.vec 56 21 v18 l.length (l.flatMap CallD.cells), Res.vec 3 1 rv1_ rl2_.length (rl2_.flatMap I1), Res.vec 4 1 (.slice (some ⟨b36, 0, none⟩) l.length l.length) (List.replicate l.length false).length ((List.replicate l.length false).flatMap B1), Res.vec 3 1 ov4_ rl5_.length (rl5_.flatMap I1)])) w1 (hw.frame0 hO)
      exact yH rfl (fun _ hw => hw)
     refine zE rfl (zA ?_)
     exact zN (zu (v := .bool (decide ((e3_ = 0) ∧ (rl2_ = rl5_)))) rfl rfl (fun w' hw => ⟨(by congr 1; exact decide_eq_true ⟨he0, hq⟩), hw.drop⟩))
end Go.Proofs.YtcdiehplbmkmeaaGreat
