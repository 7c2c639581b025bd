import Derived.Test.YtcdiehplbmkmeaaGreatLinX
import Derived.Test.YtcdiehplbmkmeaaGreatLinS
set_option linter.unusedSectionVars false
set_option linter.unusedSimpArgs false
set_option linter.unusedVariables false
set_option maxRecDepth 10000
namespace Go.Proofs.YtcdiehplbmkmeaaGreat
open Go Go.Sc Go.Proofs
def call1 : CallD := { edge := 1, look := false, lazy := false, cmd := ({ session := 1, seq := 1, op := 1, key := (⟨#[107]⟩ : ByteArray), amount := 5, span := 0, lease := 0 } : CmdD), key := (⟨#[]⟩ : ByteArray), beg := 1, fin := 2, reply := ({ session := 1, seq := 1, e := 0, lease := 0, amount := 0, until_ := 0 } : RepD), cap := 0, lent := 0 }
theorem zDi : yI [call1] := by decide +kernel
theorem zCb : yz [call1] 1 (zAY [call1]) = some [0] := by decide +kernel
theorem zGf : call1.wf := ⟨by show yx 1; unfold yx; decide, zIO, by decide, by show yx 1; unfold yx; decide, by show yx 2; unfold yx; decide, ⟨by decide, by decide, by decide, by show yx 0; unfold yx; decide, by show yx 0; unfold yx; decide⟩⟩
section
variable {l : List CallD} {rl : List Int} {e : Int}
theorem sk_none (h : zBI l rl e) (hS : yI l) (hl : l.length ≤ 12) (hn : yz l l.length (zAY l) = none) : e = 20 ∧ ((rl.length : Nat) : Int) = 0 := by
  rcases h with ⟨h, _⟩ | ⟨_, h, _⟩ | ⟨_, _, ⟨r, h, _⟩ | ⟨_, h1, h2⟩⟩
  · exact absurd hS h
  · omega
  · rw [hn] at h; cases h
  · exact ⟨h1, by rw [h2]; rfl⟩
theorem zIn (h : zBI l rl e) (hS : yI l) (hl : l.length ≤ 12) {r : List Nat} (hn : yz l l.length (zAY l) = some r) : e = 0 ∧ rl = r.map fun (k : Nat) => (k : Int) := by
  rcases h with ⟨h, _⟩ | ⟨_, h, _⟩ | ⟨_, _, ⟨q, h, h1, h2⟩ | ⟨h, _⟩⟩
  · exact absurd hS h
  · omega
  · rw [hn] at h; cases h; exact ⟨h1, h2⟩
  · rw [hn] at h; cases h
end
theorem zKf {rl : List Int} {e : Int} (h : zBI [call1] rl e) : (e = 0 ∧ ((rl.length : Nat) : Int) = 1) ∧ zJ rl 0 = 0 := by
  obtain ⟨h1, rfl⟩ := zIn h zDi (by decide) zCb
  exact ⟨⟨h1, rfl⟩, rfl⟩
theorem zLd (l : List CallD) : (yI l ∧ (if yI l then (0 : Int) else 2) = 0) ∨ ((¬ yI l) ∧ (if yI l then (0 : Int) else 2) = 2) := by
  by_cases h : yI l
  · exact .inl ⟨h, if_pos h⟩
  · exact .inr ⟨h, if_neg h⟩
theorem zCT (w : World) : Rets Tryz.prog 7 #[] w fun u_ w' => u_ = .bool true ∧ Own w [] [] w' := by
  refine zd Tryz.func7 rfl Tryz.ntmps7 (Own.start w) ?_
  refine zB (zE rfl (zA (zB (yD (cs := [Vn 1, Vn 1, Vi 1, .string (⟨#[107]⟩ : ByteArray), Vi 5, Vi 0, Vn 0]) (z := [Vn 0, Vn 0, Vi 0, .string (⟨#[]⟩ : ByteArray), Vi 0, Vi 0, Vn 0]) (pl := [(0, 1), (1, 1), (2, 1), (3, 1), (4, 1), (5, 1), (6, 1)]) (by kernel_rfl) (by kernel_rfl) rfl (yD (cs := [Vn 1, Vn 1, Vi 0, Vn 0, Vi 0, Vi 0]) (z := [Vn 0, Vn 0, Vi 0, Vn 0, Vi 0, Vi 0]) (pl := [(0, 1), (1, 1), (2, 1), (3, 1), (4, 1), (5, 1)]) (by kernel_rfl) (by kernel_rfl) rfl (yD (cs := [Vi 1, .bool false, .bool false, Vn 1, Vn 1, Vi 1, .string (⟨#[107]⟩ : ByteArray), Vi 5, Vi 0, Vn 0, .string (⟨#[]⟩ : ByteArray), Vi 1, Vi 2, Vn 1, Vn 1, Vi 0, Vn 0, Vi 0, Vi 0, Vi 0, Vi 0]) (z := [Vi 0, .bool false, .bool false, Vn 0, Vn 0, Vi 0, .string (⟨#[]⟩ : ByteArray), Vi 0, Vi 0, Vn 0, .string (⟨#[]⟩ : ByteArray), Vi 0, Vi 0, Vn 0, Vn 0, Vi 0, Vn 0, Vi 0, Vi 0, Vi 0, Vi 0]) (pl := [(0, 1), (1, 1), (2, 1), (3, 7), (10, 1), (11, 1), (12, 1), (13, 6), (19, 1), (20, 1)]) (by kernel_rfl) (by kernel_rfl) rfl (yo (e := 56) (sz := 21) (vs := [.agg #[Vi 1, .bool false, .bool false, Vn 1, Vn 1, Vi 1, .string (⟨#[107]⟩ : ByteArray), Vi 5, Vi 0, Vn 0, .string (⟨#[]⟩ : ByteArray), Vi 1, Vi 2, Vn 1, Vn 1, Vi 0, Vn 0, Vi 0, Vi 0, Vi 0, Vi 0]]) (by kernel_rfl) rfl rfl (by simp [Value.cells, CallD.cells]) (by decide) rfl (fun b7 => zE rfl (zA (zB (zC rfl (zP rfl rfl (fun w' hw => ?_)))))))))))))
  refine (zFm (.slice (some ⟨b7, 0, none⟩) 1 1) [({ edge := 1, look := false, lazy := false, cmd := ({ session := 1, seq := 1, op := 1, key := (⟨#[107]⟩ : ByteArray), amount := 5, span := 0, lease := 0 } : CmdD), key := (⟨#[]⟩ : ByteArray), beg := 1, fin := 2, reply := ({ session := 1, seq := 1, e := 0, lease := 0, amount := 0, until_ := 0 } : RepD), cap := 0, lent := 0 } : CallD)] w' (fun c hc => by rw [List.mem_singleton.1 hc]; exact zGf) (by first | assumption | omega | (simp <;> omega) | (constructor <;> (first | omega | (simp only [z9]; omega) | (simp <;> omega)))) (hw.rdVec0 0 rfl)).mono ?_
  rintro _ w1 ⟨rv1_, rl2_, e3_, rfl, hf2_1, hO⟩
  have hak := zKf hf2_1
  refine (?_ : CL _ _ _ _ _ _ (Own w [] [Res.vec 56 21 (.slice (some ⟨b7, 0, none⟩) 1 1) [({ edge := 1, look := false, lazy := false, cmd := ({ session := 1, seq := 1, op := 1, key := (⟨#[107]⟩ : ByteArray), amount := 5, span := 0, lease := 0 } : CmdD), key := (⟨#[]⟩ : ByteArray), beg := 1, fin := 2, reply := ({ session := 1, seq := 1, e := 0, lease := 0, amount := 0, until_ := 0 } : RepD), cap := 0, lent := 0 } : CallD)].length ([({ edge := 1, look := false, lazy := false, cmd := ({ session := 1, seq := 1, op := 1, key := (⟨#[107]⟩ : ByteArray), amount := 5, span := 0, lease := 0 } : CmdD), key := (⟨#[]⟩ : ByteArray), beg := 1, fin := 2, reply := ({ session := 1, seq := 1, e := 0, lease := 0, amount := 0, until_ := 0 } : RepD), cap := 0, lent := 0 } : CallD)].flatMap CallD.cells), Res.vec 3 1 rv1_ rl2_.length (rl2_.flatMap I1)])) w1 (hw.frame0 hO)
  refine zC rfl (zr (vs := [rv1_, Vi e3_]) rfl rfl rfl (zr (vs := [rv1_, Vi e3_]) rfl rfl rfl (zE rfl (zE rfl (zA (zB (zC rfl (yb rfl rfl rfl (zC rfl (z6 (q := e3_ = 0) 3 2 [18, 17, 16] (((rl2_.length : Nat) : Int) = 1) rfl rfl rfl rfl rfl rfl trivial rfl (fun h3_2 => ?_) (fun g3_6 => ?_)))))))))))
  ·
   refine zQ rfl (gT h3_2) (zC rfl (zQ rfl (gT h3_2) (yL (pV 1 rfl) rfl rfl (zQ rfl (gT h3_2) (yb rfl rfl rfl ?_)))))
   exact yF rfl (fun _ hw => hw)
  refine zC rfl (z6 (q := (e3_ = 0) ∧ (((rl2_.length : Nat) : Int) = 1)) 4 7 [24, 23, 22, 21] ((zJ rl2_ 0) = 0) rfl rfl rfl rfl rfl rfl trivial rfl (fun h3_7 => ?_) (fun g3_12 => ?_))
  ·
   refine zQ rfl (gT h3_7) (zC rfl (zQ rfl (gT h3_7) (zG (pV 1 rfl) 1 0 rfl rfl rfl (by omega) rfl (zQ rfl (gT h3_7) (zR (pV 1 rfl) 1 0 0 (fun _ => rfl) rfl (by omega) (by omega) rfl rfl (zQ rfl (gT h3_7) (yb rfl rfl rfl ?_)))))))
   exact yF rfl (fun _ hw => hw)
  refine zE rfl (zA ?_)
  exact zM (zy (v := .bool (decide (((e3_ = 0) ∧ (((rl2_.length : Nat) : Int) = 1)) ∧ ((zJ rl2_ 0) = 0)))) rfl rfl (fun w' hw => ⟨(by congr 1; exact decide_eq_true hak), hw.drop⟩))
theorem zDr (v u : Value) (l : List CallD) (ms : List MovD) (w : World) (hcw : ∀ c ∈ l, c.wf) (hl : l.length ≤ 10000000) (hms : ∀ m ∈ ms, yx m.delta) (hml : ms.length ≤ 10000000) (hv : Rd w [] (Res.sl v l.length (l.flatMap CallD.cells))) (hu : Rd w [] (Res.sl u ms.length (ms.flatMap MovD.cells))) : Rets Tryz.prog 5 #[v, u] w fun u_ w' => u_ = .bool true ∧ Own w [] [] w' := by
  refine zd Tryz.func5 rfl Tryz.ntmps5 (Own.start w) ?_
  refine zB (zE rfl (zA (zK (zB (zP rfl rfl (fun w' hw => (zCT w').mono ?_))))))
  rintro _ w1 ⟨rfl, hO⟩
  refine (?_ : CL _ _ _ _ _ _ (Own w [] [])) w1 (hw.frame0 hO)
  refine kR (b := true) rfl rfl (zC rfl (zQ rfl rfl (zC rfl (zQ rfl rfl (yL (pR hv) rfl rfl (zQ rfl rfl (xB rfl rfl rfl (kS rfl rfl (zC rfl (yj (q := 200 < ((l.length : Nat) : Int)) 3 7 [21, 20, 19] (200 < ((ms.length : Nat) : Int)) rfl rfl rfl rfl rfl rfl trivial rfl (fun h1_7 => ?_) (fun g1_11 => ?_)))))))))))
  ·
   refine zQ rfl (gF h1_7) (zC rfl (zQ rfl (gF h1_7) (yL (pR hu) rfl rfl (zQ rfl (gF h1_7) (xB rfl rfl rfl ?_)))))
   exact yF rfl (fun _ hw => hw)
  refine zA (zS rfl (fun c1 => ?_) (fun c1 => ?_))
  ·
   refine zB (zP rfl rfl (fun w' hw => (zCT w').mono ?_))
   rintro _ w1 ⟨rfl, hO⟩
   refine (?_ : CL _ _ _ _ _ _ (Own w [] [])) w1 (hw.frame0 hO)
   refine zE rfl (zA ?_)
   exact zM (zy (v := .bool true) rfl rfl (fun w' hw => ⟨rfl, hw.drop⟩))
  ·
   refine zI (zB (yo (e := 56) (sz := 21) (vs := []) (by kernel_rfl) rfl rfl (by simp [Value.cells, CallD.cells]) (by decide) rfl (fun b24 => zC rfl (y5 (g := CallD.cells) (sz := 21) (by' := 176) (fun _ => rfl) (l := []) (l' := l) (by simp [cell1, CallD.cells, CmdD.cells, RepD.cells, vu]) 0 (by kernel_rfl) rfl rfl rfl (fun w' hw' => Own.rd hv hw') (by first | omega | (simp; omega)) (by decide) rfl (fun v26 => zP rfl rfl (fun w' hw => (zBc v26 l w' ‹_› (by first | omega | (simp <;> omega)) (hw.rdVec0 0 rfl)).mono ?_))))))
   rintro _ w1 ⟨rfl, hO⟩
   refine (?_ : CL _ _ _ _ _ _ (Own w [] [Res.vec 56 21 v26 l.length (l.flatMap CallD.cells)])) w1 (hw.frame0 hO)
   refine zE rfl (zA (zB (yo (e := 56) (sz := 21) (vs := []) (by kernel_rfl) rfl rfl (by simp [Value.cells, CallD.cells]) (by decide) rfl (fun b29 => zC rfl (y5 (g := CallD.cells) (sz := 21) (by' := 176) (fun _ => rfl) (l := []) (l' := l) (by simp [cell1, CallD.cells, CmdD.cells, RepD.cells, vu]) 1 (by kernel_rfl) rfl rfl rfl (fun w' hw' => Own.rd hv hw') (by first | omega | (simp; omega)) (by decide) rfl (fun v31 => yo (e := 65) (sz := 2) (vs := []) (by kernel_rfl) rfl rfl (by simp [Value.cells, MovD.cells]) (by decide) rfl (fun b32 => zC rfl (y5 (g := MovD.cells) (sz := 2) (by' := 16) (fun _ => rfl) (l := []) (l' := ms) (by simp [cell1, MovD.cells, vu]) 2 (by kernel_rfl) rfl rfl rfl (fun w' hw' => Own.rd hu hw') (by first | omega | (simp; omega)) (by decide) rfl (fun v34 => zP rfl rfl (fun w' hw => (zHu v31 v34 l ms w' ‹_› (by first | omega | (simp <;> omega)) ‹_› (by first | omega | (simp <;> omega)) (hw.rdVec0 1 rfl) (hw.rdVec0 2 rfl)).mono ?_))))))))))
   rintro _ w1 ⟨rfl, hO⟩
   refine (?_ : CL _ _ _ _ _ _ (Own w [] [Res.vec 56 21 v26 l.length (l.flatMap CallD.cells), Res.vec 56 21 v31 l.length (l.flatMap CallD.cells), Res.vec 65 2 v34 ms.length (ms.flatMap MovD.cells)])) w1 (hw.frame0 hO)
   refine zC rfl (zr (vs := [Vj ((yW l ms).1), Vi ((yW l ms).2)]) rfl rfl rfl (zr (vs := [Vj ((yW l ms).1), Vi ((yW l ms).2)]) rfl rfl rfl (zE rfl (zE rfl (zA (zB (zC rfl (zC rfl (zP rfl rfl (fun w' hw => (zGb v u l ms w' ‹_› (by first | omega | (simp <;> omega)) ‹_› (by first | omega | (simp <;> omega)) (hw.rd0 hv) (hw.rd0 hu)).mono ?_))))))))))
   rintro _ w1 ⟨rfl, hO⟩
   refine (?_ : CL _ _ _ _ _ _ (Own w [] [Res.vec 56 21 v26 l.length (l.flatMap CallD.cells), Res.vec 56 21 v31 l.length (l.flatMap CallD.cells), Res.vec 65 2 v34 ms.length (ms.flatMap MovD.cells)])) w1 (hw.frame0 hO)
   refine zC rfl (zr (vs := [Vj ((yW l ms).1), Vi ((yW l ms).2)]) rfl rfl rfl (zr (vs := [Vj ((yW l ms).1), Vi ((yW l ms).2)]) rfl rfl rfl (zE rfl (zE rfl (zA (zB (zC rfl (zP rfl rfl (fun w' hw => (zDM v l w' ‹_› (by first | omega | (simp <;> omega)) (hw.rd0 hv)).mono ?_)))))))))
   rintro _ w1 ⟨rfl, hO⟩
   refine (?_ : CL _ _ _ _ _ _ (Own w [] [Res.vec 56 21 v26 l.length (l.flatMap CallD.cells), Res.vec 56 21 v31 l.length (l.flatMap CallD.cells), Res.vec 65 2 v34 ms.length (ms.flatMap MovD.cells)])) w1 (hw.frame0 hO)
   refine zE rfl (zA (zB (zC rfl (zC rfl (z6 (q := yI l) 2 1 [49, 48] ((if yI l then (0 : Int) else 2) = 0) rfl rfl rfl rfl rfl rfl trivial rfl (fun h7_1 => ?_) (fun g7_4 => ?_))))))
   ·
    refine zQ rfl (gT h7_1) (zC rfl (zQ rfl (gT h7_1) (yb rfl rfl rfl ?_)))
    exact yF rfl (fun _ hw => hw)
   refine zC rfl (yj (q := (yI l) ∧ ((if yI l then (0 : Int) else 2) = 0)) 6 5 [57, 56, 55, 54, 53, 52] ((¬ (yI l)) ∧ ((if yI l then (0 : Int) else 2) = 2)) rfl rfl rfl rfl rfl rfl trivial rfl (fun h7_5 => ?_) (fun g7_12 => ?_))
   ·
    refine zQ rfl (gF h7_5) (zC rfl (zQ rfl (gF h7_5) (xL (q := yI l) rfl rfl (zQ rfl (gF h7_5) (zC rfl (z6 (q := ¬ (yI l)) 2 8 [56, 55] ((if yI l then (0 : Int) else 2) = 2) rfl rfl rfl rfl rfl rfl ⟨_, rfl, rfl, gF h7_5⟩ rfl (fun h7_8 => ?_) (fun g7_11 => ?_)))))))
    ·
     refine zQ rfl (gT h7_8) (zC rfl (zQ rfl (gT h7_8) (yb rfl rfl rfl ?_)))
     exact yF rfl (fun _ hw => hw)
    exact yF rfl (fun _ hw => hw)
   refine zC rfl (z6 (q := ((yI l) ∧ ((if yI l then (0 : Int) else 2) = 0)) ∨ ((¬ (yI l)) ∧ ((if yI l then (0 : Int) else 2) = 2))) 3 13 [62, 61, 60] ((((yW l ms).1 : Nat) : Int) = (((yW l ms).1 : Nat) : Int)) rfl rfl rfl rfl rfl rfl trivial rfl (fun h7_13 => ?_) (fun g7_17 => ?_))
   ·
    refine zQ rfl (gT h7_13) (zC rfl (zQ rfl (gT h7_13) (zC rfl (zQ rfl (gT h7_13) (yb rfl rfl rfl ?_)))))
    exact yF rfl (fun _ hw => hw)
   refine zC rfl (z6 (q := (((yI l) ∧ ((if yI l then (0 : Int) else 2) = 0)) ∨ ((¬ (yI l)) ∧ ((if yI l then (0 : Int) else 2) = 2))) ∧ ((((yW l ms).1 : Nat) : Int) = (((yW l ms).1 : Nat) : Int))) 3 18 [67, 66, 65] (((yW l ms).2) = ((yW l ms).2)) rfl rfl rfl rfl rfl rfl trivial rfl (fun h7_18 => ?_) (fun g7_22 => ?_))
   ·
    refine zQ rfl (gT h7_18) (zC rfl (zQ rfl (gT h7_18) (zC rfl (zQ rfl (gT h7_18) (yb rfl rfl rfl ?_)))))
    exact yF rfl (fun _ hw => hw)
   refine zE rfl (zA ?_)
   exact zM (zy (v := .bool (decide (((((yI l) ∧ ((if yI l then (0 : Int) else 2) = 0)) ∨ ((¬ (yI l)) ∧ ((if yI l then (0 : Int) else 2) = 2))) ∧ ((((yW l ms).1 : Nat) : Int) = (((yW l ms).1 : Nat) : Int))) ∧ (((yW l ms).2) = ((yW l ms).2))))) rfl rfl (fun w' hw => ⟨(by congr 1; exact decide_eq_true ⟨⟨zLd l, rfl⟩, rfl⟩), hw.drop⟩))
end Go.Proofs.YtcdiehplbmkmeaaGreat
