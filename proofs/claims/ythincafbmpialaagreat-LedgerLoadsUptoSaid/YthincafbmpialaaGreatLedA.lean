import Derived.Test.YthincafbmpialaaGreatLedW
import Derived.Test.YthincafbmpialaaGreatLedR
set_option linter.unusedSectionVars false
set_option linter.unusedSimpArgs false
set_option linter.unusedVariables false
set_option maxRecDepth 10000
namespace Go.Proofs.YthincafbmpialaaGreat
open Go Go.Sc Go.Proofs
theorem zBl {P : Program} {n : Nat} {fn : Func} {R : Value → World → Prop} {A : World → Prop} {f : Nat → Value} {t0 t1 t2 : Tmp} {T : TypeId} {b : Nat} {cs : List Value} {v1 v2 : Value} (hr : fn.results = #[.cell t0 T, .tmp t1, .tmp t2]) (h0 : f t0 = .pointer (some ⟨b, 0, none⟩)) (h1 : f t1 = v1) (h2 : f t2 = v2)
    (ht : zAf P T = some cs.length) (hc : ∀ w, A w → ∀ i u, cs[i]? = some u → w.cell? ⟨b, 0 + i, none⟩ = some u) (h : ∀ w, A w → R (.tuple #[.agg cs.toArray, v1, v2]) w) : ∀ w, A w → zCh P fn n R f w :=
  fun w hw => ⟨_, fun a ha => by
    have := kN (P := P) ht (hc w hw)
    simp [results, hr, ha.get, h0, h1, h2, asAddr, this], h w hw⟩
theorem ValPost.none {α : Type} {d : Option α} {x z : α} {e : Int} (h : ValPost d x z e) (he : e ≠ 0) : d = .none := by
  rcases h with h | h
  · exact absurd h.1 he
  · exact h.2.1
theorem ValPost.some {α : Type} {d : Option α} {x z : α} {e : Int} (h : ValPost d x z e) (he : ¬ e ≠ 0) : d = .some x := by
  rcases h with h | h
  · exact h.2
  · exact absurd (by rw [h.1]; decide) he
theorem ze {α β : Type} {p : List UInt8 → Nat → Option (α × Nat)} {q : α → List UInt8 → Nat → Option (β × Nat)} {b : List UInt8} {a k : Nat} {v : β} (h : yE p q b a = some (v, k)) : ∃ x j, p b a = some (x, j) ∧ q x b j = some (v, k) := by
  simp only [yE, Option.bind_eq_some_iff] at h
  obtain ⟨⟨x, j⟩, h1, h2⟩ := h
  exact ⟨x, j, h1, h2⟩
theorem x6 {n : Nat} (h : n < 18446744073709551616) : xY (yT n) := by unfold xY yT; split <;> omega
theorem zBb {b : List UInt8} {c : CmdD} (h : jp b = some c) : c.wf := by
  unfold jp jy at h
  simp only [Option.bind_eq_some_iff] at h
  obtain ⟨⟨x, j⟩, h1, h2⟩ := h
  split at h2
  · rename_i hc
    cases h2
    have hk := hc.2.2
    obtain ⟨s, _, e1, h1⟩ := ze h1
    obtain ⟨q, _, e2, h1⟩ := ze h1
    obtain ⟨o, _, e3, h1⟩ := ze h1
    obtain ⟨d, _, e4, h1⟩ := ze h1
    obtain ⟨a, _, e5, h1⟩ := ze h1
    obtain ⟨t, _, e6, h1⟩ := ze h1
    obtain ⟨l, _, e7, h1⟩ := ze h1
    simp only [yk, Option.some.injEq, Prod.mk.injEq] at h1
    obtain ⟨rfl, _⟩ := h1
    exact ⟨(zz e1).1, (zz e2).1, by dsimp only at hk ⊢; omega, x6 (zz e5).1, x6 (zz e6).1, (zz e7).1⟩
  · cases h2
def zLf (idx : Nat) (now : Int) (cnt : Nat) (kb : List (ByteArray × Int)) (kl : List (Nat × LeaD)) (kr : List (Nat × RepD)) (x : EntA) (r : RepD) (has : Bool) (e : Int) (idx' : Nat) (now' : Int) (cnt' : Nat) (kb' : List (ByteArray × Int)) (kl' : List (Nat × LeaD)) (kr' : List (Nat × RepD)) : Prop :=
  (((¬ x.ok ∧ e = 2) ∨ (x.ok ∧ x.index ≠ idx + 1 ∧ e = 12)) ∧ r = RepD.zero ∧ has = false ∧ idx' = idx ∧ now' = now ∧ cnt' = cnt ∧ kb' = kb ∧ kl' = kl ∧ kr' = kr)
  ∨ ((x.ok ∧ x.index = idx + 1) ∧ e = 0 ∧ idx' = x.index ∧ now' = kW now x.delta
    ∧ (((x.kind ≠ 2 ∨ jp x.data = none) ∧ r = RepD.zero ∧ has = false ∧ cnt' = cnt ∧ kb' = kb ∧ kl' = kA now x.delta kl ∧ kr' = kr)
      ∨ (x.kind = 2 ∧ has = true ∧ ∃ c did, jp x.data = some c ∧ DoK (kW now x.delta) cnt kb (kA now x.delta kl) kr c r did cnt' kb' kl' kr')))
def zMA (idx : Nat) (now : Int) (cnt : Nat) (bs : List BudD) (ls : List LeaD) (rs : List RepD) (x : EntA) (r : RepD) (has : Bool) (e : Int) (idx' : Nat) (now' : Int) (cnt' : Nat) (bs' : List BudD) (ls' : List LeaD) (rs' : List RepD) : Prop :=
  (((¬ x.ok ∧ e = 2) ∨ (x.ok ∧ x.index ≠ idx + 1 ∧ e = 12)) ∧ r = RepD.zero ∧ has = false ∧ idx' = idx ∧ now' = now ∧ cnt' = cnt ∧ bs' = bs ∧ ls' = ls ∧ rs' = rs)
  ∨ ((x.ok ∧ x.index = idx + 1) ∧ e = 0 ∧ idx' = x.index ∧ now' = kW now x.delta
    ∧ (((x.kind ≠ 2 ∨ jp x.data = none) ∧ r = RepD.zero ∧ has = false ∧ cnt' = cnt ∧ bs' = bs ∧ ls' = jX now x.delta ls ∧ rs' = rs)
      ∨ (x.kind = 2 ∧ has = true ∧ ∃ c did, jp x.data = some c ∧ DoR (kW now x.delta) cnt bs (jX now x.delta ls) rs c r did cnt' bs' ls' rs')))
section
variable {idx idx' idx2 : Nat} {now now' now2 : Int} {cnt cnt' cnt2 : Nat} {kb kb' : List (ByteArray × Int)} {kl kl' : List (Nat × LeaD)} {kr kr' : List (Nat × RepD)} {bs bs' : List BudD} {ls ls' : List LeaD} {rs rs' : List RepD} {x : EntA} {r s : RepD} {has had : Bool} {e f : Int}
theorem LOkR.pass (h : LOkR now cnt bs ls rs) {n : Int} (hn : xY n) : LOkR (kW now n) cnt bs (jX now n ls) rs :=
  ⟨h.q.pass n hn, h.s, h.c, h.w, h.n, fun l hl => h.a l (by unfold jX at hl; split at hl; exact (List.mem_filter.1 hl).1; exact hl)⟩
theorem zKd (h : LOkR now cnt bs ls rs) (hr : LRel kb kl kr bs ls rs) (hd : xY x.delta) (hn : cnt < 1000000000) (h1 : zLf idx now cnt kb kl kr x r has e idx' now' cnt' kb' kl' kr') (h2 : zMA idx now cnt bs ls rs x s had f idx2 now2 cnt2 bs' ls' rs') :
    r = s ∧ has = had ∧ e = f ∧ idx' = idx2 ∧ now' = now2 ∧ cnt' = cnt2 ∧ LRel kb' kl' kr' bs' ls' rs' ∧ LOkR now2 cnt2 bs' ls' rs' ∧ cnt2 ≤ cnt + 1 := by
  rcases h1 with ⟨a1, rfl, rfl, rfl, rfl, rfl, rfl, rfl, rfl⟩ | ⟨a1, rfl, rfl, rfl, b1⟩ <;> rcases h2 with ⟨a2, rfl, rfl, rfl, rfl, rfl, rfl, rfl, rfl⟩ | ⟨a2, rfl, rfl, rfl, b2⟩
  · refine ⟨rfl, rfl, ?_, rfl, rfl, rfl, hr, h, Nat.le_succ _⟩
    rcases a1 with a1 | a1 <;> rcases a2 with a2 | a2
    · rw [a1.2, a2.2]
    · exact absurd a2.1 a1.1
    · exact absurd a1.1 a2.1
    · rw [a1.2.2, a2.2.2]
  · rcases a1 with a1 | a1
    · exact absurd a2.1 a1.1
    · exact absurd a2.2 a1.2.1
  · rcases a2 with a2 | a2
    · exact absurd a1.1 a2.1
    · exact absurd a1.2 a2.2.1
  · have hp := h.pass hd
    have hq : LRel kb (kA now x.delta kl) kr bs (jX now x.delta ls) rs := ⟨hr.q.pass x.delta, hr.c⟩
    rcases b1 with ⟨c1, rfl, rfl, rfl, rfl, rfl, rfl⟩ | ⟨c1, rfl, c, did, d1, e1⟩ <;> rcases b2 with ⟨c2, rfl, rfl, rfl, rfl, rfl, rfl⟩ | ⟨c2, rfl, c', did', d2, e2⟩
    · exact ⟨rfl, rfl, rfl, rfl, rfl, rfl, hq, hp, Nat.le_succ _⟩
    · rcases c1 with c1 | c1
      · exact absurd c2 c1
      · rw [c1] at d2; cases d2
    · rcases c2 with c2 | c2
      · exact absurd c1 c2
      · rw [c2] at d1; cases d1
    · rw [d1] at d2; cases d2
      obtain ⟨rfl, _, rfl, q1, q2, _, q3⟩ := zLR hp hq (zBb d1) hn e1 e2
      exact ⟨rfl, rfl, rfl, rfl, rfl, rfl, q1, q2, q3⟩
end
theorem okF {p : Prop} {f : Bool} (h : ¬ (p ∨ (!f) = true)) : f = true := by cases f <;> simp_all
theorem zHl {S : List Nat} (b tb cb bm lm rm idx : Nat) (now : Int) (cnt : Nat) (kb : List (ByteArray × Int)) (kl : List (Nat × LeaD)) (kr : List (Nat × RepD)) (x : EntD) (w : World) (hx : x.wf) (hd : xY x.delta) (ht : 0 ≤ now ∧ now ≤ 2305843009213693952) (hc : cnt ≤ 1000000000) (hi : idx < 18446744073709551615) (hk : KNd kl) (hll : kl.length ≤ 128) (hlen : ∀ k, 0 ≤ ye k (kA now x.delta kl) ∧ ye k (kA now x.delta kl) ≤ 9223372036854775807) (hkl : ∀ i l, zu i (kA now x.delta kl) = some l → l.id < 18446744073709551616 ∧ xY l.amount ∧ xY l.until_) (hpt : 0 ≤ kW now x.delta ∧ kW now x.delta ≤ 2305843009213693952) (hin : Own w S [Res.row b 66 [.pointer (some ⟨tb, 0, none⟩), .pointer (some ⟨cb, 0, none⟩), Vn idx], Res.row tb 111 [.map (some bm), .map (some lm), Vi now, Vn cnt], Res.mp Value.string yD bm kb, Res.mp yA zZ lm kl, Res.row cb 114 [.map (some rm)], Res.mp yU zq rm kr] w) (rd_x : EntD.rd x w S) : Rets Tryz.prog 18 #[.pointer (some ⟨b, 0, none⟩), .agg (EntD.cells x).toArray] w fun u_ w' => ∃ (r : RepD) (has : Bool) (er : Int) (idx' : Nat) (now' : Int) (cnt' : Nat) (kb' : List (ByteArray × Int)) (kl' : List (Nat × LeaD)) (kr' : List (Nat × RepD)), u_ = .tuple #[.agg (RepD.cells r).toArray, .bool has, Vi er] ∧ zLf idx now cnt kb kl kr x.toEntA r has er idx' now' cnt' kb' kl' kr' ∧ Own w S [Res.row b 66 [.pointer (some ⟨tb, 0, none⟩), .pointer (some ⟨cb, 0, none⟩), Vn idx'], Res.row tb 111 [.map (some bm), .map (some lm), Vi now', Vn cnt'], Res.mp Value.string yD bm kb', Res.mp yA zZ lm kl', Res.row cb 114 [.map (some rm)], Res.mp yU zq rm kr'] w' := by
  have hxd := hx.data
  refine zW Tryz.func18 rfl Tryz.ntmps18 hin ?_
  refine zB (yc rfl rfl (fun b3 => yF (v := .agg #[Vn 0, Vn 0, Vi 0, Vn 0, Vi 0, Vi 0]) (by kernel_rfl) rfl (fun b4 => zD rfl (zD rfl (zA (zL (zB (zC rfl (xE (by kernel_rfl) rfl rfl rfl (zA (xQ rfl (zK ?_))))))))))))
  refine zL (zB (yN (cs := (EntD.cells x)) 6 rfl rfl rfl (zJ rfl rfl (fun w' hw => (zFh x w' ‹_› (rd_x.at0 hw)).mono ?_))))
  rintro _ w1 ⟨r1_, rfl, hO⟩
  refine (?_ : CL _ _ _ _ _ _ (Own w S [Res.row b 66 [.pointer (some ⟨tb, 0, none⟩), .pointer (some ⟨cb, 0, none⟩), Vn idx], Res.row tb 111 [.map (some bm), .map (some lm), Vi now, Vn cnt], Res.mp Value.string yD bm kb, Res.mp yA zZ lm kl, Res.row cb 114 [.map (some rm)], Res.mp yU zq rm kr, Res.row b3 57 (EntD.cells x), Res.row b4 43 [Vn 0, Vn 0, Vi 0, Vn 0, Vi 0, Vi 0], Res.vec 5 1 r1_ (if x.ok then x.enc else []).length ((if x.ok then x.enc else []).map vb)])) w1 (hw.frame0 hO)
  refine zC rfl (zp (vs := [r1_, Vi (yy x.ok)]) rfl rfl rfl (zp (vs := [r1_, Vi (yy x.ok)]) rfl rfl rfl (zD rfl (zD rfl (zA (zB (zC rfl (xn rfl rfl rfl (zA (zU rfl (fun c2 => ?_) (fun c2 => ?_)))))))))))
  ·
   refine zB (yQ (cs := [Vn 0, Vn 0, Vi 0, Vn 0, Vi 0, Vi 0]) (z := [Vn 0, Vn 0, Vi 0, Vn 0, Vi 0, Vi 0]) (pl := [(0, 1), (1, 1), (2, 1), (3, 1), (4, 1), (5, 1)]) (by kernel_rfl) (by kernel_rfl) rfl (zh 7 rfl rfl rfl (z8 rfl) rfl (zD rfl (zD rfl (zA ?_)))))
   exact zM (zBl (cs := [Vn 0, Vn 0, Vi 0, Vn 0, Vi 0, Vi 0]) (v1 := .bool false) (v2 := Vi 2) rfl rfl rfl rfl (by kernel_rfl) (Own.rowCells (i := 7) rfl) (fun w' hw => ⟨({ session := 0, seq := 0, e := 0, lease := 0, amount := 0, until_ := 0 } : RepD), false, 2, idx, now, cnt, kb, kl, kr, rfl, .inl ⟨.inl ⟨zFP c2, rfl⟩, rfl, rfl, rfl, rfl, rfl, rfl, rfl, rfl⟩, hw.sel [0, 1, 2, 3, 4, 5] rfl (by decide)⟩))
  ·
   refine zK (zL (xb (by kernel_rfl) (by kernel_rfl) (zf rfl (zi (o := 0) rfl) (zf rfl (zo 6 (v := Vn x.index) rfl rfl rfl) (zf rfl (zQ) (zf rfl (z7 rfl) (zf rfl (zi (o := 2) rfl) (zf rfl (zo 0 (v := Vn idx) rfl rfl rfl) (zf rfl (xy rfl rfl (kS (by omega))) (zf rfl (zG9 rfl rfl) (j9 (zU rfl (fun c3 => ?_) (fun c3 => ?_)))))))))))))
   ·
    refine zB (yQ (cs := [Vn 0, Vn 0, Vi 0, Vn 0, Vi 0, Vi 0]) (z := [Vn 0, Vn 0, Vi 0, Vn 0, Vi 0, Vi 0]) (pl := [(0, 1), (1, 1), (2, 1), (3, 1), (4, 1), (5, 1)]) (by kernel_rfl) (by kernel_rfl) rfl (zh 7 rfl rfl rfl (z8 rfl) rfl (zD rfl (zD rfl (zA ?_)))))
    exact zM (zBl (cs := [Vn 0, Vn 0, Vi 0, Vn 0, Vi 0, Vi 0]) (v1 := .bool false) (v2 := Vi 12) rfl rfl rfl rfl (by kernel_rfl) (Own.rowCells (i := 7) rfl) (fun w' hw => ⟨({ session := 0, seq := 0, e := 0, lease := 0, amount := 0, until_ := 0 } : RepD), false, 12, idx, now, cnt, kb, kl, kr, rfl, .inl ⟨.inr ⟨zBZ c2, by omega, rfl⟩, rfl, rfl, rfl, rfl, rfl, rfl, rfl, rfl⟩, hw.sel [0, 1, 2, 3, 4, 5] rfl (by decide)⟩))
   ·
    have hgo : x.ok ∧ x.index = idx + 1 := ⟨zBZ c2, by omega⟩
    have hdl : x.data.length ≤ 4096 := hgo.1.1.2.2.2
    refine zK (zL (zg [0, 2, 4, 5, 6, 7, 8] rfl (by decide) (by kernel_rfl) (fun w' hw hS => zF 0 rfl (zQ) hS (zF 1 rfl (z7 rfl) hS (zF 2 rfl (zi (o := 0) rfl) hS (zF 3 rfl (zo 0 (v := .pointer (some ⟨tb, 0, none⟩)) rfl rfl rfl) hS (zF 4 rfl (zi (o := 3) rfl) hS (zF 5 rfl (zo 4 (v := Vi x.delta) rfl rfl rfl) hS (zY 6 rfl hw (zJ rfl rfl (fun w' hw => (zL1 tb bm lm now cnt kl x.delta w' (by first | omega | (simp <;> omega)) ‹_› hk hll (hw.give [1, 3] rfl (by decide))).mono ?_)))))))))))
    rintro _ w1 ⟨gv2_, gs3_, e4_, now'5_, kl'6_, rfl, hf8_6, hf8_6_1, hf8_6_2, hf8_6_3, hf8_6_4, hO⟩
    refine (?_ : CL _ _ _ _ _ _ (Own w S [Res.row b 66 [.pointer (some ⟨tb, 0, none⟩), .pointer (some ⟨cb, 0, none⟩), Vn idx], Res.mp Value.string yD bm kb, Res.row cb 114 [.map (some rm)], Res.mp yU zq rm kr, Res.row b3 57 (EntD.cells x), Res.row b4 43 [Vn 0, Vn 0, Vi 0, Vn 0, Vi 0, Vi 0], Res.vec 5 1 r1_ (if x.ok then x.enc else []).length ((if x.ok then x.enc else []).map vb), Res.row tb 111 [.map (some bm), .map (some lm), Vi now'5_, Vn cnt], Res.mp yA zZ lm kl'6_, Res.vec 28 1 gv2_ gs3_.length (gs3_.flatMap U1)])) w1 (hw.frameL [1, 3] rfl hO)
    refine zG [0, 1, 2, 3, 4, 5, 6] rfl (by decide) (fun w' hw hS => zR ?_)
    refine (?_ : C _ _ _ _ _ _ _ (Own w S [Res.row b 66 [.pointer (some ⟨tb, 0, none⟩), .pointer (some ⟨cb, 0, none⟩), Vn idx], Res.mp Value.string yD bm kb, Res.row cb 114 [.map (some rm)], Res.mp yU zq rm kr, Res.row b3 57 (EntD.cells x), Res.row b4 43 [Vn 0, Vn 0, Vi 0, Vn 0, Vi 0, Vi 0], Res.vec 5 1 r1_ (if x.ok then x.enc else []).length ((if x.ok then x.enc else []).map vb), Res.row tb 111 [.map (some bm), .map (some lm), Vi now'5_, Vn cnt], Res.mp yA zZ lm kl'6_, Res.vec 28 1 gv2_ gs3_.length (gs3_.flatMap U1)])) _ hw
    refine zB (zC rfl (zP (o := 0) rfl rfl (zS 4 (v := Vn x.index) rfl rfl rfl rfl (zm rfl rfl (zP (o := 2) rfl rfl (yi 0 rfl rfl rfl rfl rfl (zA (zB (zP (o := 4) rfl rfl (zS 4 (v := x.dv) rfl rfl rfl rfl (zJ rfl rfl (fun w' hw => (zJw x.dv x.data w' (by first | omega | (simp <;> omega)) (hw.rd0 rd_x.dv)).mono ?_))))))))))))
    rintro _ w1 ⟨s7_, q8_, op9_, k10_, am11_, sp12_, le13_, e14_, rfl, hf10_2, hO⟩
    have hnn := hf8_6_1
    have hkk := hf8_6_2
    refine (?_ : CL _ _ _ _ _ _ (Own w S [Res.row b 66 [.pointer (some ⟨tb, 0, none⟩), .pointer (some ⟨cb, 0, none⟩), Vn x.index], Res.mp Value.string yD bm kb, Res.row cb 114 [.map (some rm)], Res.mp yU zq rm kr, Res.row b3 57 (EntD.cells x), Res.row b4 43 [Vn 0, Vn 0, Vi 0, Vn 0, Vi 0, Vi 0], Res.vec 5 1 r1_ (if x.ok then x.enc else []).length ((if x.ok then x.enc else []).map vb), Res.row tb 111 [.map (some bm), .map (some lm), Vi now'5_, Vn cnt], Res.mp yA zZ lm kl'6_, Res.vec 28 1 gv2_ gs3_.length (gs3_.flatMap U1)])) w1 (hw.frame0 hO)
    refine zC rfl (zp (vs := [.agg #[Vn s7_, Vn q8_, Vi op9_, .string k10_, Vi am11_, Vi sp12_, Vn le13_], Vi e14_]) rfl rfl rfl (zp (vs := [.agg #[Vn s7_, Vn q8_, Vi op9_, .string k10_, Vi am11_, Vi sp12_, Vn le13_], Vi e14_]) rfl rfl rfl (yF (v := .agg #[Vn 0, Vn 0, Vi 0, .string (⟨#[]⟩ : ByteArray), Vi 0, Vi 0, Vn 0]) (by kernel_rfl) rfl (fun b9 => zh 10 rfl rfl rfl (z8 rfl) rfl (zD rfl (zA (zL (zB (zP (o := 2) rfl rfl (zS 4 (v := Vi x.kind) rfl rfl rfl rfl (xn rfl rfl rfl (zC rfl ?_))))))))))))
    refine yY (q := x.kind ≠ 2) 2 3 [56, 55] (e14_ ≠ 0) rfl rfl rfl rfl rfl rfl trivial rfl (fun h11_3 => ?_) (fun g11_6 => ?_)
    ·
     refine zO rfl (gF h11_3) (zC rfl (zO rfl (gF h11_3) (xn rfl rfl rfl ?_)))
     exact yL rfl (fun _ hw => hw)
    refine zA (zU rfl (fun c4 => ?_) (fun c4 => ?_))
    ·
     refine zB (yQ (cs := [Vn 0, Vn 0, Vi 0, Vn 0, Vi 0, Vi 0]) (z := [Vn 0, Vn 0, Vi 0, Vn 0, Vi 0, Vi 0]) (pl := [(0, 1), (1, 1), (2, 1), (3, 1), (4, 1), (5, 1)]) (by kernel_rfl) (by kernel_rfl) rfl (zh 5 rfl rfl rfl (z8 rfl) rfl (zD rfl (zD rfl (zA ?_)))))
     exact zM (zBl (cs := [Vn 0, Vn 0, Vi 0, Vn 0, Vi 0, Vi 0]) (v1 := .bool false) (v2 := Vi 0) rfl rfl rfl rfl (by kernel_rfl) (Own.rowCells (i := 5) rfl) (fun w' hw => ⟨({ session := 0, seq := 0, e := 0, lease := 0, amount := 0, until_ := 0 } : RepD), false, 0, x.index, now'5_, cnt, kb, kl'6_, kr, rfl, .inr ⟨hgo, rfl, rfl, hnn, .inl ⟨by rcases c4 with q | q; exact .inl q; exact .inr (hf10_2.none q), rfl, rfl, rfl, rfl, hkk, rfl⟩⟩, hw.sel [0, 7, 1, 8, 2, 3] rfl (by decide)⟩))
    ·
     refine zK (zB (zC rfl (yN 10 rfl rfl rfl (zJ rfl rfl (fun w' hw => (zKo b tb cb bm lm rm x.index now'5_ cnt kb kl'6_ kr ({ session := s7_, seq := q8_, op := op9_, key := k10_, amount := am11_, span := sp12_, lease := le13_ } : CmdD) w' (zBb (hf10_2.some (fun q => c4 (.inr q)))) (by rw [hnn]; exact hpt) (by first | omega | (simp <;> omega)) (by rw [hkk]; exact hlen _) (by rw [hkk]; exact hkl) (hw.give [0, 7, 1, 8, 2, 3] rfl (by decide))).mono ?_)))))
     rintro _ w1 ⟨r15_, did16_, cnt'17_, kb'18_, kl'19_, kr'20_, rfl, hf13_2, hO⟩
     refine (?_ : CL _ _ _ _ _ _ (Own w S [Res.row b3 57 (EntD.cells x), Res.row b4 43 [Vn 0, Vn 0, Vi 0, Vn 0, Vi 0, Vi 0], Res.vec 5 1 r1_ (if x.ok then x.enc else []).length ((if x.ok then x.enc else []).map vb), Res.vec 28 1 gv2_ gs3_.length (gs3_.flatMap U1), Res.row b9 47 [Vn s7_, Vn q8_, Vi op9_, .string k10_, Vi am11_, Vi sp12_, Vn le13_], Res.row b 66 [.pointer (some ⟨tb, 0, none⟩), .pointer (some ⟨cb, 0, none⟩), Vn x.index], Res.row tb 111 [.map (some bm), .map (some lm), Vi now'5_, Vn cnt'17_], Res.mp Value.string yD bm kb'18_, Res.mp yA zZ lm kl'19_, Res.row cb 114 [.map (some rm)], Res.mp yU zq rm kr'20_])) w1 (hw.frameL [0, 7, 1, 8, 2, 3] rfl hO)
     refine zC rfl (zp (vs := [.agg (RepD.cells r15_).toArray, .bool did16_]) rfl rfl rfl (zp (vs := [.agg (RepD.cells r15_).toArray, .bool did16_]) rfl rfl rfl (yF (v := .agg #[Vn 0, Vn 0, Vi 0, Vn 0, Vi 0, Vi 0]) (by kernel_rfl) rfl (fun b11 => zh 11 rfl rfl rfl (z8 rfl) rfl (zD rfl (zA (zB (yN (cs := (RepD.cells r15_)) 11 rfl rfl rfl (zh 1 rfl rfl rfl (z8 rfl) rfl (zD rfl (zD rfl (zA ?_))))))))))))
     exact zM (zBl (cs := (RepD.cells r15_)) (v1 := .bool true) (v2 := Vi 0) rfl rfl rfl rfl (by kernel_rfl) (Own.rowCells (i := 1) rfl) (fun w' hw => ⟨r15_, true, 0, x.index, now'5_, cnt'17_, kb'18_, kl'19_, kr'20_, rfl, .inr ⟨hgo, rfl, rfl, hnn, .inr ⟨Decidable.not_not.1 fun q => c4 (.inl q), rfl, _, _, hf10_2.some (fun q => c4 (.inr q)), by rw [← hnn, ← hkk]; exact hf13_2⟩⟩, hw.sel [5, 6, 7, 8, 9, 10] rfl (by decide)⟩))
theorem zIk {S : List Nat} (wb le : Nat) (ys : List Value) (now : Int) (cnt : Nat) (bv lv rv : Value) (bs : List BudD) (ls : List LeaD) (rs : List RepD) (idx : Nat) (x : EntD) (w : World) (h : LOkR now cnt bs ls rs) (hx : x.wf) (hd : xY x.delta) (hi : idx < 18446744073709551615) (hin : Own w S [Res.row wb le (Vi now :: Vn cnt :: bv :: lv :: rv :: Vn idx :: ys), Res.vec 93 2 bv bs.length (bs.flatMap BudD.cells), Res.vec 76 5 lv ls.length (ls.flatMap LeaD.cells), Res.vec 43 6 rv rs.length (rs.flatMap RepD.cells)] w) (rd_x : EntD.rd x w S) : Rets Tryz.prog 23 #[.pointer (some ⟨wb, 0, none⟩), .agg (EntD.cells x).toArray] w fun u_ w' => ∃ (r : RepD) (has : Bool) (er : Int) (now' : Int) (cnt' : Nat) (bv' lv' rv' : Value) (bs' : List BudD) (ls' : List LeaD) (rs' : List RepD) (idx' : Nat), u_ = .tuple #[.agg (RepD.cells r).toArray, .bool has, Vi er] ∧ zMA idx now cnt bs ls rs x.toEntA r has er idx' now' cnt' bs' ls' rs' ∧ Own w S [Res.row wb le (Vi now' :: Vn cnt' :: bv' :: lv' :: rv' :: Vn idx' :: ys), Res.vec 93 2 bv' bs'.length (bs'.flatMap BudD.cells), Res.vec 76 5 lv' ls'.length (ls'.flatMap LeaD.cells), Res.vec 43 6 rv' rs'.length (rs'.flatMap RepD.cells)] w' := by
  have hxd := hx.data
  have ho := h.q
  have hp := h.pass hd
  have htm := ho.time
  have hll := ho.llen
  refine zW Tryz.func23 rfl Tryz.ntmps23 hin ?_
  refine zB (yc rfl rfl (fun b3 => yF (v := .agg #[Vn 0, Vn 0, Vi 0, Vn 0, Vi 0, Vi 0]) (by kernel_rfl) rfl (fun b4 => zD rfl (zD rfl (zA (zL (zB (yN (cs := (EntD.cells x)) 4 rfl rfl rfl (zJ rfl rfl (fun w' hw => (zIf x w' ‹_› (rd_x.at0 hw)).mono ?_))))))))))
  rintro _ w1 ⟨rfl, hO⟩
  refine (?_ : CL _ _ _ _ _ _ (Own w S [Res.row wb le (Vi now :: Vn cnt :: bv :: lv :: rv :: Vn idx :: ys), Res.vec 93 2 bv bs.length (bs.flatMap BudD.cells), Res.vec 76 5 lv ls.length (ls.flatMap LeaD.cells), Res.vec 43 6 rv rs.length (rs.flatMap RepD.cells), Res.row b3 57 (EntD.cells x), Res.row b4 43 [Vn 0, Vn 0, Vi 0, Vn 0, Vi 0, Vi 0]])) w1 (hw.frame0 hO)
  refine xo (q := x.ok) rfl rfl (zA (zU rfl (fun c1 => ?_) (fun c1 => ?_)))
  ·
   refine zB (yQ (cs := [Vn 0, Vn 0, Vi 0, Vn 0, Vi 0, Vi 0]) (z := [Vn 0, Vn 0, Vi 0, Vn 0, Vi 0, Vi 0]) (pl := [(0, 1), (1, 1), (2, 1), (3, 1), (4, 1), (5, 1)]) (by kernel_rfl) (by kernel_rfl) rfl (zh 5 rfl rfl rfl (z8 rfl) rfl (zD rfl (zD rfl (zA ?_)))))
   exact zM (zBl (cs := [Vn 0, Vn 0, Vi 0, Vn 0, Vi 0, Vi 0]) (v1 := .bool false) (v2 := Vi 2) rfl rfl rfl rfl (by kernel_rfl) (Own.rowCells (i := 5) rfl) (fun w' hw => ⟨({ session := 0, seq := 0, e := 0, lease := 0, amount := 0, until_ := 0 } : RepD), false, 2, now, cnt, bv, lv, rv, bs, ls, rs, idx, rfl, .inl ⟨.inl ⟨c1, rfl⟩, rfl, rfl, rfl, rfl, rfl, rfl, rfl, rfl⟩, hw.sel [0, 1, 2, 3] rfl (by decide)⟩))
  ·
   refine zK (zL (xb (by kernel_rfl) (by kernel_rfl) (zf rfl (zi (o := 0) rfl) (zf rfl (zo 4 (v := Vn x.index) rfl rfl rfl) (zf rfl (zQ) (zf rfl (z7 rfl) (zf rfl (zi (o := 5) rfl) (zf rfl (zo 0 (v := Vn idx) rfl rfl rfl) (zf rfl (xy rfl rfl (kS (by omega))) (zf rfl (zG9 rfl rfl) (j9 (zU rfl (fun c2 => ?_) (fun c2 => ?_)))))))))))))
   ·
    refine zB (yQ (cs := [Vn 0, Vn 0, Vi 0, Vn 0, Vi 0, Vi 0]) (z := [Vn 0, Vn 0, Vi 0, Vn 0, Vi 0, Vi 0]) (pl := [(0, 1), (1, 1), (2, 1), (3, 1), (4, 1), (5, 1)]) (by kernel_rfl) (by kernel_rfl) rfl (zh 5 rfl rfl rfl (z8 rfl) rfl (zD rfl (zD rfl (zA ?_)))))
    exact zM (zBl (cs := [Vn 0, Vn 0, Vi 0, Vn 0, Vi 0, Vi 0]) (v1 := .bool false) (v2 := Vi 12) rfl rfl rfl rfl (by kernel_rfl) (Own.rowCells (i := 5) rfl) (fun w' hw => ⟨({ session := 0, seq := 0, e := 0, lease := 0, amount := 0, until_ := 0 } : RepD), false, 12, now, cnt, bv, lv, rv, bs, ls, rs, idx, rfl, .inl ⟨.inr ⟨Decidable.not_not.1 c1, by omega, rfl⟩, rfl, rfl, rfl, rfl, rfl, rfl, rfl, rfl⟩, hw.sel [0, 1, 2, 3] rfl (by decide)⟩))
   ·
    have hgo : x.ok ∧ x.index = idx + 1 := ⟨Decidable.not_not.1 c1, by omega⟩
    have hdl : x.data.length ≤ 4096 := hgo.1.1.2.2.2
    refine zK (zL (zg [1, 3, 4, 5] rfl (by decide) (by kernel_rfl) (fun w' hw hS => zF 0 rfl (zQ) hS (zF 1 rfl (z7 rfl) hS (zF 2 rfl (zi (o := 0) rfl) hS (zF 3 rfl (zi (o := 3) rfl) hS (zF 4 rfl (zo 2 (v := Vi x.delta) rfl rfl rfl) hS (zY 5 rfl hw (zJ rfl rfl (fun w' hw => (zJo wb le (rv :: Vn idx :: ys) now cnt bv lv bs ls x.delta w' (by first | omega | (simp <;> omega)) ‹_› (by first | omega | (simp <;> omega)) (hw.give [0, 2] rfl (by decide))).mono ?_))))))))))
    rintro _ w1 ⟨gv1_, gs2_, e3_, now'4_, lv'5_, ls'6_, rfl, hf5_5, hf5_5_1, hf5_5_2, hf5_5_3, hO⟩
    refine (?_ : CL _ _ _ _ _ _ (Own w S [Res.vec 93 2 bv bs.length (bs.flatMap BudD.cells), Res.vec 43 6 rv rs.length (rs.flatMap RepD.cells), Res.row b3 57 (EntD.cells x), Res.row b4 43 [Vn 0, Vn 0, Vi 0, Vn 0, Vi 0, Vi 0], Res.row wb le (Vi now'4_ :: Vn cnt :: bv :: lv'5_ :: rv :: Vn idx :: ys), Res.vec 76 5 lv'5_ ls'6_.length (ls'6_.flatMap LeaD.cells), Res.vec 28 1 gv1_ gs2_.length (gs2_.flatMap U1)])) w1 (hw.frameL [0, 2] rfl hO)
    refine zG [0, 1, 2, 3] rfl (by decide) (fun w' hw hS => zR ?_)
    refine (?_ : C _ _ _ _ _ _ _ (Own w S [Res.vec 93 2 bv bs.length (bs.flatMap BudD.cells), Res.vec 43 6 rv rs.length (rs.flatMap RepD.cells), Res.row b3 57 (EntD.cells x), Res.row b4 43 [Vn 0, Vn 0, Vi 0, Vn 0, Vi 0, Vi 0], Res.row wb le (Vi now'4_ :: Vn cnt :: bv :: lv'5_ :: rv :: Vn idx :: ys), Res.vec 76 5 lv'5_ ls'6_.length (ls'6_.flatMap LeaD.cells), Res.vec 28 1 gv1_ gs2_.length (gs2_.flatMap U1)])) _ hw
    refine zB (zC rfl (zP (o := 0) rfl rfl (zS 2 (v := Vn x.index) rfl rfl rfl rfl (zm rfl rfl (zP (o := 5) rfl rfl (yi (cs := (Vi now'4_ :: Vn cnt :: bv :: lv'5_ :: rv :: Vn idx :: ys)) 4 rfl rfl rfl rfl rfl (zA (zB (zP (o := 4) rfl rfl (zS 2 (v := x.dv) rfl rfl rfl rfl (zJ rfl rfl (fun w' hw => (zIK x.dv x.data w' (by first | omega | (simp <;> omega)) (hw.rd0 rd_x.dv)).mono ?_))))))))))))
    rintro _ w1 ⟨s7_, q8_, op9_, k10_, am11_, sp12_, le13_, f14_, rfl, hf7_2, hO⟩
    have hnn := hf5_5_1
    have hkk := hf5_5_2
    refine (?_ : CL _ _ _ _ _ _ (Own w S [Res.vec 93 2 bv bs.length (bs.flatMap BudD.cells), Res.vec 43 6 rv rs.length (rs.flatMap RepD.cells), Res.row b3 57 (EntD.cells x), Res.row b4 43 [Vn 0, Vn 0, Vi 0, Vn 0, Vi 0, Vi 0], Res.row wb le (Vi now'4_ :: Vn cnt :: bv :: lv'5_ :: rv :: Vn x.index :: ys), Res.vec 76 5 lv'5_ ls'6_.length (ls'6_.flatMap LeaD.cells), Res.vec 28 1 gv1_ gs2_.length (gs2_.flatMap U1)])) w1 (hw.frame0 hO)
    refine zC rfl (zp (vs := [.agg #[Vn s7_, Vn q8_, Vi op9_, .string k10_, Vi am11_, Vi sp12_, Vn le13_], .bool f14_]) rfl rfl rfl (zp (vs := [.agg #[Vn s7_, Vn q8_, Vi op9_, .string k10_, Vi am11_, Vi sp12_, Vn le13_], .bool f14_]) rfl rfl rfl (yF (v := .agg #[Vn 0, Vn 0, Vi 0, .string (⟨#[]⟩ : ByteArray), Vi 0, Vi 0, Vn 0]) (by kernel_rfl) rfl (fun b7 => zh 7 rfl rfl rfl (z8 rfl) rfl (zD rfl (zA (zL (zB (zP (o := 2) rfl rfl (zS 2 (v := Vi x.kind) rfl rfl rfl rfl (xn rfl rfl rfl (zC rfl ?_))))))))))))
    refine yY (q := x.kind ≠ 2) 2 3 [46, 45] ((!f14_) = true) rfl rfl rfl rfl rfl rfl trivial rfl (fun h8_3 => ?_) (fun g8_6 => ?_)
    ·
     refine zO rfl (gF h8_3) (zC rfl (zO rfl (gF h8_3) (kY (b := f14_) rfl rfl ?_)))
     exact yL (yb _) (fun _ hw => hw)
    refine zA (zU rfl (fun c3 => ?_) (fun c3 => ?_))
    ·
     refine zB (yQ (cs := [Vn 0, Vn 0, Vi 0, Vn 0, Vi 0, Vi 0]) (z := [Vn 0, Vn 0, Vi 0, Vn 0, Vi 0, Vi 0]) (pl := [(0, 1), (1, 1), (2, 1), (3, 1), (4, 1), (5, 1)]) (by kernel_rfl) (by kernel_rfl) rfl (zh 3 rfl rfl rfl (z8 rfl) rfl (zD rfl (zD rfl (zA ?_)))))
     exact zM (zBl (cs := [Vn 0, Vn 0, Vi 0, Vn 0, Vi 0, Vi 0]) (v1 := .bool false) (v2 := Vi 0) rfl rfl rfl rfl (by kernel_rfl) (Own.rowCells (i := 3) rfl) (fun w' hw => ⟨({ session := 0, seq := 0, e := 0, lease := 0, amount := 0, until_ := 0 } : RepD), false, 0, now'4_, cnt, bv, lv'5_, rv, bs, ls'6_, rs, x.index, rfl, .inr ⟨hgo, rfl, rfl, hnn, .inl ⟨by rcases c3 with q | q; exact .inl q; exact .inr (hf7_2.no (by revert q; cases f14_ <;> simp)), rfl, rfl, rfl, rfl, hkk, rfl⟩⟩, hw.sel [4, 0, 5, 1] rfl (by decide)⟩))
    ·
     refine zK (zB (zC rfl (yN 7 rfl rfl rfl (zJ rfl rfl (fun w' hw => (zMh wb le (ys) now'4_ cnt bv lv'5_ rv bs ls'6_ rs x.index ({ session := s7_, seq := q8_, op := op9_, key := k10_, amount := am11_, span := sp12_, lease := le13_ } : CmdD) w' (by rw [hnn, hkk]; exact hp) (zBb (hf7_2.yes (okF c3))) (hw.give [4, 0, 5, 1] rfl (by decide))).mono ?_)))))
     rintro _ w1 ⟨r15_, did16_, cnt'17_, bv'18_, lv'19_, rv'20_, bs'21_, ls'22_, rs'23_, rfl, hf10_2, hO⟩
     refine (?_ : CL _ _ _ _ _ _ (Own w S [Res.row b3 57 (EntD.cells x), Res.row b4 43 [Vn 0, Vn 0, Vi 0, Vn 0, Vi 0, Vi 0], Res.vec 28 1 gv1_ gs2_.length (gs2_.flatMap U1), Res.row b7 47 [Vn s7_, Vn q8_, Vi op9_, .string k10_, Vi am11_, Vi sp12_, Vn le13_], Res.row wb le (Vi now'4_ :: Vn cnt'17_ :: bv'18_ :: lv'19_ :: rv'20_ :: Vn x.index :: ys), Res.vec 93 2 bv'18_ bs'21_.length (bs'21_.flatMap BudD.cells), Res.vec 76 5 lv'19_ ls'22_.length (ls'22_.flatMap LeaD.cells), Res.vec 43 6 rv'20_ rs'23_.length (rs'23_.flatMap RepD.cells)])) w1 (hw.frameL [4, 0, 5, 1] rfl hO)
     refine zC rfl (zp (vs := [.agg (RepD.cells r15_).toArray, .bool did16_]) rfl rfl rfl (zp (vs := [.agg (RepD.cells r15_).toArray, .bool did16_]) rfl rfl rfl (yF (v := .agg #[Vn 0, Vn 0, Vi 0, Vn 0, Vi 0, Vi 0]) (by kernel_rfl) rfl (fun b9 => zh 8 rfl rfl rfl (z8 rfl) rfl (zD rfl (zA (zB (yN (cs := (RepD.cells r15_)) 8 rfl rfl rfl (zh 1 rfl rfl rfl (z8 rfl) rfl (zD rfl (zD rfl (zA ?_))))))))))))
     exact zM (zBl (cs := (RepD.cells r15_)) (v1 := .bool true) (v2 := Vi 0) rfl rfl rfl rfl (by kernel_rfl) (Own.rowCells (i := 1) rfl) (fun w' hw => ⟨r15_, true, 0, now'4_, cnt'17_, bv'18_, lv'19_, rv'20_, bs'21_, ls'22_, rs'23_, x.index, rfl, .inr ⟨hgo, rfl, rfl, hnn, .inr ⟨Decidable.not_not.1 fun q => c3 (.inl q), rfl, _, _, hf7_2.yes (okF c3), by rw [← hnn, ← hkk]; exact hf10_2⟩⟩, hw.sel [4, 5, 6, 7] rfl (by decide)⟩))
end Go.Proofs.YthincafbmpialaaGreat
