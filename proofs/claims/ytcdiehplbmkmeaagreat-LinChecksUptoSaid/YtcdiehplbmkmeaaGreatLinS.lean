import Derived.Test.YtcdiehplbmkmeaaGreatLinR
set_option linter.unusedSectionVars false
set_option linter.unusedSimpArgs false
set_option linter.unusedVariables false
set_option maxRecDepth 10000
namespace Go.Proofs.YtcdiehplbmkmeaaGreat
open Go Go.Sc Go.Proofs
section
variable {l : List CallD} {t t' : RL} {dn dn' : List Bool} {k : Nat} {rl : List Int} {found : Bool}
end
def RSearchC (n : Nat) : Prop := ∀ (v bv lv rv dv : Value) (l : List CallD) (t : RL) (dn : List Bool) (w : World) (hn : yp dn < n) (hL : LOkR t.now t.cnt t.bs t.ls t.rs) (hcw : ∀ c ∈ l, c.wf) (hc : t.cnt + yp dn ≤ 100000000) (hl : l.length ≤ 10000000) (hd : dn.length = l.length) (hv : Rd w [] (Res.sl v l.length (l.flatMap CallD.cells))) (hb : Rd w [] (Res.sl bv t.bs.length (t.bs.flatMap BudD.cells))) (hlv : Rd w [] (Res.sl lv t.ls.length (t.ls.flatMap LeaD.cells))) (hr : Rd w [] (Res.sl rv t.rs.length (t.rs.flatMap RepD.cells))) (hdv : Rd w [] (Res.sl dv dn.length (dn.flatMap B1))), Rets Tryz.prog 10 #[v, .agg #[Vi t.now, Vn t.cnt, bv, lv, rv, Vn 0, dv]] w fun u_ w' => ∃ (ov : Value) (rl : List Int) (found : Bool), u_ = .tuple #[ov, .bool found] ∧ xa l ⟨t, dn⟩ [] rl found ∧ rl.length ≤ yp dn ∧ Own w [] [Res.vec 3 1 ov rl.length (rl.flatMap I1)] w'
theorem zGb (v u : Value) (l : List CallD) (ms : List MovD) (w : World) (hcw : ∀ c ∈ l, c.wf) (hl : l.length ≤ 10000000) (hms : ∀ m ∈ ms, yx m.delta) (hml : ms.length ≤ 10000000) (hv : Rd w [] (Res.sl v l.length (l.flatMap CallD.cells))) (hu : Rd w [] (Res.sl u ms.length (ms.flatMap MovD.cells))) : Rets Tryz.prog 16 #[v, u] w fun u_ w' => u_ = .tuple #[Vj ((yW l ms).1), Vi ((yW l ms).2)] ∧ Own w [] [] w' := by
  refine zd Tryz.func16 rfl Tryz.ntmps16 (Own.start w) ?_
  refine zB (zE rfl (zE rfl (zA (zK (zB (zC rfl (zP rfl rfl (fun w' hw => (zDM v l w' ‹_› (by first | omega | (simp <;> omega)) (hw.rd0 hv)).mono ?_))))))))
  rintro _ w1 ⟨rfl, hO⟩
  refine (?_ : CL _ _ _ _ _ _ (Own w [] [])) w1 (hw.frame0 hO)
  refine xL (q := yI l) rfl rfl (zA (zS rfl (fun c1 => ?_) (fun c1 => ?_)))
  ·
   refine zB (zE rfl (zE rfl (zA ?_)))
   exact zM (yY (v := Vi 0) (v' := Vi 2) rfl rfl rfl (fun w' hw => ⟨(by rw [yW, if_neg c1]; rfl), hw.drop⟩))
  ·
   have hS : yI l := Decidable.not_not.1 c1
   refine zI (zB (zC rfl (yL (pR hv) rfl rfl (zHO (e := 4) (g := B1) (z := false) (by' := 1) (m := l.length) (by kernel_rfl) (by kernel_rfl) rfl rfl rfl rfl (by first | omega | (simp; omega)) (by decide) rfl (fun b14 => yD (cs := [Vi 0, Vn 0, .slice none 0 0, .slice none 0 0, .slice none 0 0, Vn 0, (.slice (some ⟨b14, 0, none⟩) l.length l.length)]) (z := [Vi 0, Vn 0, .slice none 0 0, .slice none 0 0, .slice none 0 0, Vn 0, .slice none 0 0]) (pl := [(0, 6), (6, 1)]) (by kernel_rfl) (by kernel_rfl) rfl (yH (v := .agg #[Vi 0, Vn 0, .slice none 0 0, .slice none 0 0, .slice none 0 0, Vn 0, .slice none 0 0]) (by kernel_rfl) rfl (fun b6 => zl 1 rfl rfl rfl (zu rfl) rfl (zA (zK (zB (zE rfl (zA ?_))))))))))))
   refine zX ?_
   refine zE0 (fun (i : Nat) (t : RL) (dn : List Bool) (bv lv rv : Value) => [(0, v), (1, u), (6, .pointer (some ⟨b6, 0, none⟩)), (7, Vj i)]) (fun (i : Nat) (t : RL) (dn : List Bool) (bv lv rv : Value) => (i ≤ ms.length ∧ dn.length = l.length ∧ t.cnt ≤ i) ∧ LOkR t.now t.cnt t.bs t.ls t.rs ∧ zCm l (zAY l) ms 0 = zCm l ⟨t, dn⟩ (ms.drop i) i) (fun (i : Nat) (t : RL) (dn : List Bool) (bv lv rv : Value) => [Res.row b6 43 [Vi t.now, Vn t.cnt, bv, lv, rv, Vn 0, (.slice (some ⟨b14, 0, none⟩) l.length l.length)], Res.vec 105 2 bv t.bs.length (t.bs.flatMap BudD.cells), Res.vec 77 5 lv t.ls.length (t.ls.flatMap LeaD.cells), Res.vec 50 6 rv t.rs.length (t.rs.flatMap RepD.cells), Res.vec 4 1 (.slice (some ⟨b14, 0, none⟩) l.length l.length) dn.length (dn.flatMap B1)]) (fun (i : Nat) (t : RL) (dn : List Bool) (bv lv rv : Value) => ms.length - i) (fun w' hw => ⟨0, ⟨0, 0, [], [], []⟩, List.replicate l.length false, .slice none 0 0, .slice none 0 0, .slice none 0 0, ⟨rfl, rfl, rfl, rfl, trivial⟩, ⟨⟨Nat.zero_le _, by simp, Nat.le_refl _⟩, LOkR.start, rfl⟩, ((yV (yV (yV hw 105 2) 77 5) 50 6).sel [1, 2, 3, 4, 0] rfl (by decide))⟩) (fun i t dn bv lv rv g hΦ => ?_)
   have hi := hΦ.1.1
   have hdl := hΦ.1.2.1
   have hcn := hΦ.1.2.2
   have hL := hΦ.2.1
   have hR := hΦ.2.2
   refine zK (zB (zC rfl (zC rfl (yL (pR hu) rfl rfl (yA rfl rfl rfl (zA (zS rfl (fun c2 => ?_) (fun c2 => ?_))))))))
   ·
    have hil : i < ms.length := by omega
    refine zI (zK (zX (zB (zC rfl (zC rfl (zC rfl (zG (pR hu) 2 i rfl rfl rfl (by omega) rfl (xU (pR hu) 2 i (off := yS u + i * 2) (fun _ => rfl) rfl rfl (by omega) rfl (zP rfl rfl (fun w' hw => (zHp b6 bv lv rv (.slice (some ⟨b14, 0, none⟩) l.length l.length) v t dn l (zJ ms i) w' hL hcw (by omega) (by first | omega | (simp <;> omega)) hdl (hms _ (yK hil)) (hw.give [0, 1, 2, 3, 4] rfl (by decide)) (hw.rdTo hv [0, 1, 2, 3, 4] rfl)).mono ?_))))))))))
    rintro _ w1 ⟨bv'1_, lv'2_, rv'3_, t'4_, dn'5_, rfl, hf7_5, hO⟩
    refine (?_ : CL _ _ _ _ _ _ (Own w [] [Res.row b6 43 [Vi t'4_.now, Vn t'4_.cnt, bv'1_, lv'2_, rv'3_, Vn 0, (.slice (some ⟨b14, 0, none⟩) l.length l.length)], Res.vec 105 2 bv'1_ t'4_.bs.length (t'4_.bs.flatMap BudD.cells), Res.vec 77 5 lv'2_ t'4_.ls.length (t'4_.ls.flatMap LeaD.cells), Res.vec 50 6 rv'3_ t'4_.rs.length (t'4_.rs.flatMap RepD.cells), Res.vec 4 1 (.slice (some ⟨b14, 0, none⟩) l.length l.length) dn'5_.length (dn'5_.flatMap B1)])) w1 (hw.frameL [0, 1, 2, 3, 4] rfl hO)
    refine zE rfl (zA (zB (zC rfl (kD rfl rfl rfl (zA (zS rfl (fun c3 => ?_) (fun c3 => ?_)))))))
    ·
     refine zB (zC rfl (zC rfl (zE rfl (zE rfl (zA ?_)))))
     exact zM (yY (v := Vj i) (v' := Vi ((zz l ⟨t, dn⟩ (zJ ms i)).1)) rfl rfl rfl (fun w' hw => ⟨(by rw [yW, if_pos hS, hR, jf hil, if_pos c3]), hw.drop⟩))
    ·
     have hm := hf7_5 (Decidable.not_not.1 c3)
     refine zI (zb (zC rfl (zt rfl rfl (zq (by omega)) rfl (zE rfl ?_))))
     exact ze (fun w' hw => ⟨i + 1, t'4_, dn'5_, bv'1_, lv'2_, rv'3_, ⟨rfl, rfl, rfl, rfl, trivial⟩, ⟨⟨hil, by rw [hm.1, jg]; exact hdl, by rw [hm.2.1]; exact Nat.le_trans (zBt _ _ _) (Nat.succ_le_succ hcn)⟩, hm.2.2, by rw [hR, jf hil, if_neg c3, hm.1, hm.2.1]⟩, hw, (by omega)⟩)
   ·
    have he : i = ms.length := by omega
    refine z7 rfl (zK (zB (zC rfl (zP rfl rfl (fun w' hw => (zGL b6 t.cnt 0 t.now bv lv rv (.slice (some ⟨b14, 0, none⟩) l.length l.length) v dn l w' (by first | omega | (simp <;> omega)) hdl (hw.give [0] rfl (by decide)) (hw.rdTo hv [0] rfl) (hw.rdVec 4 rfl [0] rfl rfl)).mono ?_)))))
    rintro _ w1 ⟨rfl, hO⟩
    refine (?_ : CL _ _ _ _ _ _ (Own w [] [Res.vec 105 2 bv t.bs.length (t.bs.flatMap BudD.cells), Res.vec 77 5 lv t.ls.length (t.ls.flatMap LeaD.cells), Res.vec 50 6 rv t.rs.length (t.rs.flatMap RepD.cells), Res.vec 4 1 (.slice (some ⟨b14, 0, none⟩) l.length l.length) dn.length (dn.flatMap B1), Res.row b6 43 [Vi t.now, Vn t.cnt, bv, lv, rv, Vn 0, (.slice (some ⟨b14, 0, none⟩) l.length l.length)]])) w1 (hw.frameL [0] rfl hO)
    refine xL (q := Whole l dn) rfl rfl (zA (zS rfl (fun c4 => ?_) (fun c4 => ?_)))
    ·
     refine zB (zC rfl (yL (pR hu) rfl rfl (zE rfl (zE rfl (zA ?_)))))
     exact zM (yY (v := Vj ms.length) (v' := Vi 8) rfl rfl rfl (fun w' hw => ⟨(by rw [yW, if_pos hS, hR, zAQ (by omega), if_neg c4, he]), hw.drop⟩))
    ·
     refine zI (zB (zC rfl (yL (pR hu) rfl rfl (zE rfl (zE rfl (zA ?_))))))
     exact zM (yY (v := Vj ms.length) (v' := Vi 0) rfl rfl rfl (fun w' hw => ⟨(by rw [yW, if_pos hS, hR, zAQ (by omega), if_pos (Decidable.not_not.1 c4), he]), hw.drop⟩))
end Go.Proofs.YtcdiehplbmkmeaaGreat
