import Derived.Test.YthincafbmpialaaGreatQuotaW
import Derived.Test.YthincafbmpialaaGreatLedP
import Derived.Test.YthincafbmpialaaGreatLedW
set_option linter.unusedSectionVars false
set_option linter.unusedSimpArgs false
set_option linter.unusedVariables false
set_option maxRecDepth 10000
namespace Go.Proofs.YthincafbmpialaaGreat
open Go Go.Sc Go.Proofs
section
variable {s : Nat} {k : ByteArray} {a sp : Int} {bs : List BudD} {ls : List LeaD}
end
def FindR (ls : List LeaD) (s i : Nat) (r : Int) : Prop := (r = -1 ∧ ∀ l ∈ ls, ¬ (l.id = i ∧ l.session = s)) ∨ (∃ k : Nat, r = (k : Int) ∧ k < ls.length ∧ (zI ls k).id = i ∧ (zI ls k).session = s)
def finR (c : CmdD) (e n : Int) (x : LeaD) : RepD := if x.id ≠ 0 then ⟨c.session, c.seq, e, x.id, x.amount, x.until_⟩ else ⟨c.session, c.seq, e, 0, n, 0⟩
theorem zFR {P : Program} {n : Nat} {fn : Func} {R : Value → World → Prop} {A : World → Prop} {f : Nat → Value} {t0 t1 t2 : Tmp} {T : TypeId} {b : Nat} {cs : List Value} {v1 v2 : Value} (hr : fn.results = #[.cell t0 T, .tmp t1, .tmp t2]) (h0 : f t0 = .pointer (some ⟨b, 0, none⟩)) (h1 : f t1 = v1) (h2 : f t2 = v2)
    (ht : zAi P T = some cs.length) (hc : ∀ w, A w → ∀ i u, cs[i]? = some u → w.cell? ⟨b, 0 + i, none⟩ = some u) (h : ∀ w, A w → R (.tuple #[.agg cs.toArray, v1, v2]) w) : ∀ w, A w → zBx P fn n R f w :=
  fun w hw => ⟨_, fun a ha => by
    have := kA (P := P) ht (hc w hw)
    simp [results, hr, ha.get, h0, h1, h2, asAddr, this], h w hw⟩
theorem ValPost.none {α : Type} {d : Option α} {x z : α} {e : Int} (h : ValPost d x z e) (he : e ≠ 0) : d = .none := by
  rcases h with h | h
  · exact absurd h.1 he
  · exact h.2.1
theorem ValPost.some {α : Type} {d : Option α} {x z : α} {e : Int} (h : ValPost d x z e) (he : ¬ e ≠ 0) : d = .some x := by
  rcases h with h | h
  · exact h.2
  · exact absurd (by rw [h.1]; decide) he
theorem zW {α β : Type} {p : List UInt8 → Nat → Option (α × Nat)} {q : α → List UInt8 → Nat → Option (β × Nat)} {b : List UInt8} {a k : Nat} {v : β} (h : zk p q b a = some (v, k)) : ∃ x j, p b a = some (x, j) ∧ q x b j = some (v, k) := by
  simp only [zk, Option.bind_eq_some_iff] at h
  obtain ⟨⟨x, j⟩, h1, h2⟩ := h
  exact ⟨x, j, h1, h2⟩
theorem xp {n : Nat} (h : n < 18446744073709551616) : xD (yG n) := by unfold xD yG; split <;> omega
theorem zDK {b : List UInt8} {c : CmdD} (h : jT b = some c) : c.wf := by
  unfold jT jN at h
  simp only [Option.bind_eq_some_iff] at h
  obtain ⟨⟨x, j⟩, h1, h2⟩ := h
  split at h2
  · rename_i hc
    cases h2
    have hk := hc.2.2
    obtain ⟨s, _, e1, h1⟩ := zW h1
    obtain ⟨q, _, e2, h1⟩ := zW h1
    obtain ⟨o, _, e3, h1⟩ := zW h1
    obtain ⟨d, _, e4, h1⟩ := zW h1
    obtain ⟨a, _, e5, h1⟩ := zW h1
    obtain ⟨t, _, e6, h1⟩ := zW h1
    obtain ⟨l, _, e7, h1⟩ := zW h1
    simp only [yM, Option.some.injEq, Prod.mk.injEq] at h1
    obtain ⟨rfl, _⟩ := h1
    exact ⟨(zu e1).1, (zu e2).1, by dsimp only at hk ⊢; omega, xp (zu e5).1, xp (zu e6).1, (zu e7).1⟩
  · cases h2
def zI7 (idx : Nat) (now : Int) (cnt : Nat) (kb : List (ByteArray × Int)) (kl : List (Nat × LeaD)) (kr : List (Nat × RepD)) (x : EntA) (r : RepD) (has : Bool) (e : Int) (idx' : Nat) (now' : Int) (cnt' : Nat) (kb' : List (ByteArray × Int)) (kl' : List (Nat × LeaD)) (kr' : List (Nat × RepD)) : Prop :=
  (((¬ x.ok ∧ e = 2) ∨ (x.ok ∧ x.index ≠ idx + 1 ∧ e = 12)) ∧ r = RepD.zero ∧ has = false ∧ idx' = idx ∧ now' = now ∧ cnt' = cnt ∧ kb' = kb ∧ kl' = kl ∧ kr' = kr)
  ∨ ((x.ok ∧ x.index = idx + 1) ∧ e = 0 ∧ idx' = x.index ∧ now' = kW now x.delta
    ∧ (((x.kind ≠ 2 ∨ jT x.data = none) ∧ r = RepD.zero ∧ has = false ∧ cnt' = cnt ∧ kb' = kb ∧ kl' = xu now x.delta kl ∧ kr' = kr)
      ∨ (x.kind = 2 ∧ has = true ∧ ∃ c did, jT x.data = some c ∧ DoK (kW now x.delta) cnt kb (xu now x.delta kl) kr c r did cnt' kb' kl' kr')))
def zK6 (idx : Nat) (now : Int) (cnt : Nat) (bs : List BudD) (ls : List LeaD) (rs : List RepD) (x : EntA) (r : RepD) (has : Bool) (e : Int) (idx' : Nat) (now' : Int) (cnt' : Nat) (bs' : List BudD) (ls' : List LeaD) (rs' : List RepD) : Prop :=
  (((¬ x.ok ∧ e = 2) ∨ (x.ok ∧ x.index ≠ idx + 1 ∧ e = 12)) ∧ r = RepD.zero ∧ has = false ∧ idx' = idx ∧ now' = now ∧ cnt' = cnt ∧ bs' = bs ∧ ls' = ls ∧ rs' = rs)
  ∨ ((x.ok ∧ x.index = idx + 1) ∧ e = 0 ∧ idx' = x.index ∧ now' = kW now x.delta
    ∧ (((x.kind ≠ 2 ∨ jT x.data = none) ∧ r = RepD.zero ∧ has = false ∧ cnt' = cnt ∧ bs' = bs ∧ ls' = zAB now x.delta ls ∧ rs' = rs)
      ∨ (x.kind = 2 ∧ has = true ∧ ∃ c did, jT x.data = some c ∧ DoR (kW now x.delta) cnt bs (zAB now x.delta ls) rs c r did cnt' bs' ls' rs')))
section
variable {idx idx' idx2 : Nat} {now now' now2 : Int} {cnt cnt' cnt2 : Nat} {kb kb' : List (ByteArray × Int)} {kl kl' : List (Nat × LeaD)} {kr kr' : List (Nat × RepD)} {bs bs' : List BudD} {ls ls' : List LeaD} {rs rs' : List RepD} {x : EntA} {r s : RepD} {has had : Bool} {e f : Int}
theorem LOkR.pass (h : LOkR now cnt bs ls rs) {n : Int} (hn : xD n) : LOkR (kW now n) cnt bs (zAB now n ls) rs :=
  ⟨h.q.pass n hn, h.s, h.c, h.w, h.n, fun l hl => h.a l (by unfold zAB at hl; split at hl; exact (List.mem_filter.1 hl).1; exact hl)⟩
theorem zIq (h : LOkR now cnt bs ls rs) (hr : LRel kb kl kr bs ls rs) (hd : xD x.delta) (hn : cnt < 1000000000) (h1 : zI7 idx now cnt kb kl kr x r has e idx' now' cnt' kb' kl' kr') (h2 : zK6 idx now cnt bs ls rs x s had f idx2 now2 cnt2 bs' ls' rs') :
    r = s ∧ has = had ∧ e = f ∧ idx' = idx2 ∧ now' = now2 ∧ cnt' = cnt2 ∧ LRel kb' kl' kr' bs' ls' rs' ∧ LOkR now2 cnt2 bs' ls' rs' ∧ cnt2 ≤ cnt + 1 := by
  rcases h1 with ⟨a1, rfl, rfl, rfl, rfl, rfl, rfl, rfl, rfl⟩ | ⟨a1, rfl, rfl, rfl, b1⟩ <;> rcases h2 with ⟨a2, rfl, rfl, rfl, rfl, rfl, rfl, rfl, rfl⟩ | ⟨a2, rfl, rfl, rfl, b2⟩
  · refine ⟨rfl, rfl, ?_, rfl, rfl, rfl, hr, h, Nat.le_succ _⟩
    rcases a1 with a1 | a1 <;> rcases a2 with a2 | a2
    · rw [a1.2, a2.2]
    · exact absurd a2.1 a1.1
    · exact absurd a1.1 a2.1
    · rw [a1.2.2, a2.2.2]
  · rcases a1 with a1 | a1
    · exact absurd a2.1 a1.1
    · exact absurd a2.2 a1.2.1
  · rcases a2 with a2 | a2
    · exact absurd a1.1 a2.1
    · exact absurd a1.2 a2.2.1
  · have hp := h.pass hd
    have hq : LRel kb (xu now x.delta kl) kr bs (zAB now x.delta ls) rs := ⟨hr.q.pass x.delta, hr.c⟩
    rcases b1 with ⟨c1, rfl, rfl, rfl, rfl, rfl, rfl⟩ | ⟨c1, rfl, c, did, d1, e1⟩ <;> rcases b2 with ⟨c2, rfl, rfl, rfl, rfl, rfl, rfl⟩ | ⟨c2, rfl, c', did', d2, e2⟩
    · exact ⟨rfl, rfl, rfl, rfl, rfl, rfl, hq, hp, Nat.le_succ _⟩
    · rcases c1 with c1 | c1
      · exact absurd c2 c1
      · rw [c1] at d2; cases d2
    · rcases c2 with c2 | c2
      · exact absurd c1 c2
      · rw [c2] at d1; cases d1
    · rw [d1] at d2; cases d2
      obtain ⟨rfl, _, rfl, q1, q2, _, q3⟩ := zKy hp hq (zDK d1) hn e1 e2
      exact ⟨rfl, rfl, rfl, rfl, rfl, rfl, q1, q2, q3⟩
end
theorem zCD {S : List Nat} (b tb cb bm lm rm idx : Nat) (now : Int) (cnt : Nat) (kb : List (ByteArray × Int)) (kl : List (Nat × LeaD)) (kr : List (Nat × RepD)) (x : EntD) (w : World) (hx : x.wf) (hd : xD x.delta) (ht : 0 ≤ now ∧ now ≤ 2305843009213693952) (hc : cnt ≤ 1000000000) (hi : idx < 18446744073709551615) (hk : KNd kl) (hll : kl.length ≤ 128) (hlen : ∀ k, 0 ≤ yS k (xu now x.delta kl) ∧ yS k (xu now x.delta kl) ≤ 9223372036854775807) (hkl : ∀ i l, zm i (xu now x.delta kl) = some l → l.id < 18446744073709551616 ∧ xD l.amount ∧ xD l.until_) (hpt : 0 ≤ kW now x.delta ∧ kW now x.delta ≤ 2305843009213693952) (hin : Own w S [Res.row b 66 [.pointer (some ⟨tb, 0, none⟩), .pointer (some ⟨cb, 0, none⟩), Vn idx], Res.row tb 111 [.map (some bm), .map (some lm), Vi now, Vn cnt], Res.mp Value.string zw bm kb, Res.mp zq zU lm kl, Res.row cb 114 [.map (some rm)], Res.mp yE zh rm kr] w) (rd_x : EntD.rd x w S) : Rets Tryz.prog 18 #[.pointer (some ⟨b, 0, none⟩), .agg (EntD.cells x).toArray] w fun u_ w' => ∃ (r : RepD) (has : Bool) (er : Int) (idx' : Nat) (now' : Int) (cnt' : Nat) (kb' : List (ByteArray × Int)) (kl' : List (Nat × LeaD)) (kr' : List (Nat × RepD)), u_ = .tuple #[.agg (RepD.cells r).toArray, .bool has, Vi er] ∧ zI7 idx now cnt kb kl kr x.toEntA r has er idx' now' cnt' kb' kl' kr' ∧ Own w S [Res.row b 66 [.pointer (some ⟨tb, 0, none⟩), .pointer (some ⟨cb, 0, none⟩), Vn idx'], Res.row tb 111 [.map (some bm), .map (some lm), Vi now', Vn cnt'], Res.mp Value.string zw bm kb', Res.mp zq zU lm kl', Res.row cb 114 [.map (some rm)], Res.mp yE zh rm kr'] w' := by
  have hxd := hx.data
  refine zb Tryz.func18 rfl Tryz.ntmps18 hin ?_
  refine zB (yb rfl rfl (fun b3 => yL (v := .agg #[Vn 0, Vn 0, Vi 0, Vn 0, Vi 0, Vi 0]) (by kernel_rfl) rfl (fun b4 => zD rfl (zD rfl (zA (zL (zB (zC rfl (yz (by kernel_rfl) rfl rfl rfl (zA (xO rfl (zM ?_))))))))))))
  refine zL (zB (yd (cs := (EntD.cells x)) 6 rfl rfl rfl (zK rfl rfl (fun w' hw => (zFG x w' ‹_› (rd_x.at0 hw)).mono ?_))))
  rintro _ w1 ⟨r1_, rfl, hO⟩
  refine (?_ : CL _ _ _ _ _ _ (Own w S [Res.row b 66 [.pointer (some ⟨tb, 0, none⟩), .pointer (some ⟨cb, 0, none⟩), Vn idx], Res.row tb 111 [.map (some bm), .map (some lm), Vi now, Vn cnt], Res.mp Value.string zw bm kb, Res.mp zq zU lm kl, Res.row cb 114 [.map (some rm)], Res.mp yE zh rm kr, Res.row b3 57 (EntD.cells x), Res.row b4 43 [Vn 0, Vn 0, Vi 0, Vn 0, Vi 0, Vi 0], Res.vec 5 1 r1_ (if x.ok then x.enc else []).length ((if x.ok then x.enc else []).map vb)])) w1 (hw.frame0 hO)
  refine zC rfl (zp (vs := [r1_, Vi (yg x.ok)]) rfl rfl rfl (zp (vs := [r1_, Vi (yg x.ok)]) rfl rfl rfl (zD rfl (zD rfl (zA (zB (zC rfl (kU rfl rfl rfl (zA (zZ rfl (fun c2 => ?_) (fun c2 => ?_)))))))))))
  ·
   refine zB (yn (cs := [Vn 0, Vn 0, Vi 0, Vn 0, Vi 0, Vi 0]) (z := [Vn 0, Vn 0, Vi 0, Vn 0, Vi 0, Vi 0]) (pl := [(0, 1), (1, 1), (2, 1), (3, 1), (4, 1), (5, 1)]) (by kernel_rfl) (by kernel_rfl) rfl (zo 7 rfl rfl rfl (yI rfl) rfl (zD rfl (zD rfl (zA ?_)))))
   exact zP (zFR (cs := [Vn 0, Vn 0, Vi 0, Vn 0, Vi 0, Vi 0]) (v1 := .bool false) (v2 := Vi 2) rfl rfl rfl rfl (by kernel_rfl) (Own.rowCells (i := 7) rfl) (fun w' hw => ⟨({ session := 0, seq := 0, e := 0, lease := 0, amount := 0, until_ := 0 } : RepD), false, 2, idx, now, cnt, kb, kl, kr, rfl, .inl ⟨.inl ⟨zDy c2, rfl⟩, rfl, rfl, rfl, rfl, rfl, rfl, rfl, rfl⟩, hw.sel [0, 1, 2, 3, 4, 5] rfl (by decide)⟩))
  ·
   refine zM (zL (zAw (by kernel_rfl) (by kernel_rfl) (yF rfl (zy (o := 0) rfl) (yF rfl (z7 6 (v := Vn x.index) rfl rfl rfl) (yF rfl (zN) (yF rfl (yJ rfl) (yF rfl (zy (o := 2) rfl) (yF rfl (z7 0 (v := Vn idx) rfl rfl rfl) (yF rfl (kF rfl rfl (kq (by omega))) (yF rfl (zLA rfl rfl) (zFY (zZ rfl (fun c3 => ?_) (fun c3 => ?_)))))))))))))
   ·
    refine zB (yn (cs := [Vn 0, Vn 0, Vi 0, Vn 0, Vi 0, Vi 0]) (z := [Vn 0, Vn 0, Vi 0, Vn 0, Vi 0, Vi 0]) (pl := [(0, 1), (1, 1), (2, 1), (3, 1), (4, 1), (5, 1)]) (by kernel_rfl) (by kernel_rfl) rfl (zo 7 rfl rfl rfl (yI rfl) rfl (zD rfl (zD rfl (zA ?_)))))
    exact zP (zFR (cs := [Vn 0, Vn 0, Vi 0, Vn 0, Vi 0, Vi 0]) (v1 := .bool false) (v2 := Vi 12) rfl rfl rfl rfl (by kernel_rfl) (Own.rowCells (i := 7) rfl) (fun w' hw => ⟨({ session := 0, seq := 0, e := 0, lease := 0, amount := 0, until_ := 0 } : RepD), false, 12, idx, now, cnt, kb, kl, kr, rfl, .inl ⟨.inr ⟨zBO c2, by omega, rfl⟩, rfl, rfl, rfl, rfl, rfl, rfl, rfl, rfl⟩, hw.sel [0, 1, 2, 3, 4, 5] rfl (by decide)⟩))
   ·
    have hgo : x.ok ∧ x.index = idx + 1 := ⟨zBO c2, by omega⟩
    have hdl : x.data.length ≤ 4096 := hgo.1.1.2.2.2
    refine zM (zL (zi [0, 2, 4, 5, 6, 7, 8] rfl (by decide) (by kernel_rfl) (fun w' hw hS => zG 0 rfl (zN) hS (zG 1 rfl (yJ rfl) hS (zG 2 rfl (zy (o := 0) rfl) hS (zG 3 rfl (z7 0 (v := .pointer (some ⟨tb, 0, none⟩)) rfl rfl rfl) hS (zG 4 rfl (zy (o := 3) rfl) hS (zG 5 rfl (z7 4 (v := Vi x.delta) rfl rfl rfl) hS (ze 6 rfl hw (zK rfl rfl (fun w' hw => (zKC tb bm lm now cnt kl x.delta w' (by first | omega | (simp <;> omega)) ‹_› hk hll (hw.give [1, 3] rfl (by decide))).mono ?_)))))))))))
    rintro _ w1 ⟨gv2_, gs3_, e4_, now'5_, kl'6_, rfl, hf8_6, hf8_6_1, hf8_6_2, hf8_6_3, hf8_6_4, hO⟩
    refine (?_ : CL _ _ _ _ _ _ (Own w S [Res.row b 66 [.pointer (some ⟨tb, 0, none⟩), .pointer (some ⟨cb, 0, none⟩), Vn idx], Res.mp Value.string zw bm kb, Res.row cb 114 [.map (some rm)], Res.mp yE zh rm kr, Res.row b3 57 (EntD.cells x), Res.row b4 43 [Vn 0, Vn 0, Vi 0, Vn 0, Vi 0, Vi 0], Res.vec 5 1 r1_ (if x.ok then x.enc else []).length ((if x.ok then x.enc else []).map vb), Res.row tb 111 [.map (some bm), .map (some lm), Vi now'5_, Vn cnt], Res.mp zq zU lm kl'6_, Res.vec 28 1 gv2_ gs3_.length (gs3_.flatMap U1)])) w1 (hw.frameL [1, 3] rfl hO)
    refine zF [0, 1, 2, 3, 4, 5, 6] rfl (by decide) (fun w' hw hS => zO ?_)
    refine (?_ : C _ _ _ _ _ _ _ (Own w S [Res.row b 66 [.pointer (some ⟨tb, 0, none⟩), .pointer (some ⟨cb, 0, none⟩), Vn idx], Res.mp Value.string zw bm kb, Res.row cb 114 [.map (some rm)], Res.mp yE zh rm kr, Res.row b3 57 (EntD.cells x), Res.row b4 43 [Vn 0, Vn 0, Vi 0, Vn 0, Vi 0, Vi 0], Res.vec 5 1 r1_ (if x.ok then x.enc else []).length ((if x.ok then x.enc else []).map vb), Res.row tb 111 [.map (some bm), .map (some lm), Vi now'5_, Vn cnt], Res.mp zq zU lm kl'6_, Res.vec 28 1 gv2_ gs3_.length (gs3_.flatMap U1)])) _ hw
    refine zB (zC rfl (zX (o := 0) rfl rfl (zY 4 (v := Vn x.index) rfl rfl rfl rfl (zr rfl rfl (zX (o := 2) rfl rfl (xr 0 rfl rfl rfl rfl rfl (zA (zB (zX (o := 4) rfl rfl (zY 4 (v := x.dv) rfl rfl rfl rfl (zK rfl rfl (fun w' hw => (zJc x.dv x.data w' (by first | omega | (simp <;> omega)) (hw.rd0 rd_x.dv)).mono ?_))))))))))))
    rintro _ w1 ⟨s7_, q8_, op9_, k10_, am11_, sp12_, le13_, e14_, rfl, hf10_2, hO⟩
    have hnn := hf8_6_1
    have hkk := hf8_6_2
    refine (?_ : CL _ _ _ _ _ _ (Own w S [Res.row b 66 [.pointer (some ⟨tb, 0, none⟩), .pointer (some ⟨cb, 0, none⟩), Vn x.index], Res.mp Value.string zw bm kb, Res.row cb 114 [.map (some rm)], Res.mp yE zh rm kr, Res.row b3 57 (EntD.cells x), Res.row b4 43 [Vn 0, Vn 0, Vi 0, Vn 0, Vi 0, Vi 0], Res.vec 5 1 r1_ (if x.ok then x.enc else []).length ((if x.ok then x.enc else []).map vb), Res.row tb 111 [.map (some bm), .map (some lm), Vi now'5_, Vn cnt], Res.mp zq zU lm kl'6_, Res.vec 28 1 gv2_ gs3_.length (gs3_.flatMap U1)])) w1 (hw.frame0 hO)
    refine zC rfl (zp (vs := [.agg #[Vn s7_, Vn q8_, Vi op9_, .string k10_, Vi am11_, Vi sp12_, Vn le13_], Vi e14_]) rfl rfl rfl (zp (vs := [.agg #[Vn s7_, Vn q8_, Vi op9_, .string k10_, Vi am11_, Vi sp12_, Vn le13_], Vi e14_]) rfl rfl rfl (yL (v := .agg #[Vn 0, Vn 0, Vi 0, .string (⟨#[]⟩ : ByteArray), Vi 0, Vi 0, Vn 0]) (by kernel_rfl) rfl (fun b9 => zo 10 rfl rfl rfl (yI rfl) rfl (zD rfl (zA (zL (zB (zX (o := 2) rfl rfl (zY 4 (v := Vi x.kind) rfl rfl rfl rfl (kU rfl rfl rfl (zC rfl ?_))))))))))))
    refine y6 (q := x.kind ≠ 2) 2 3 [56, 55] (e14_ ≠ 0) rfl rfl rfl rfl rfl rfl trivial rfl (fun h11_3 => ?_) (fun g11_6 => ?_)
    ·
     refine zS rfl (gF h11_3) (zC rfl (zS rfl (gF h11_3) (kU rfl rfl rfl ?_)))
     exact ya rfl (fun _ hw => hw)
    refine zA (zZ rfl (fun c4 => ?_) (fun c4 => ?_))
    ·
     refine zB (yn (cs := [Vn 0, Vn 0, Vi 0, Vn 0, Vi 0, Vi 0]) (z := [Vn 0, Vn 0, Vi 0, Vn 0, Vi 0, Vi 0]) (pl := [(0, 1), (1, 1), (2, 1), (3, 1), (4, 1), (5, 1)]) (by kernel_rfl) (by kernel_rfl) rfl (zo 5 rfl rfl rfl (yI rfl) rfl (zD rfl (zD rfl (zA ?_)))))
     exact zP (zFR (cs := [Vn 0, Vn 0, Vi 0, Vn 0, Vi 0, Vi 0]) (v1 := .bool false) (v2 := Vi 0) rfl rfl rfl rfl (by kernel_rfl) (Own.rowCells (i := 5) rfl) (fun w' hw => ⟨({ session := 0, seq := 0, e := 0, lease := 0, amount := 0, until_ := 0 } : RepD), false, 0, x.index, now'5_, cnt, kb, kl'6_, kr, rfl, .inr ⟨hgo, rfl, rfl, hnn, .inl ⟨by rcases c4 with q | q; exact .inl q; exact .inr (hf10_2.none q), rfl, rfl, rfl, rfl, hkk, rfl⟩⟩, hw.sel [0, 7, 1, 8, 2, 3] rfl (by decide)⟩))
    ·
     refine zM (zB (zC rfl (yd 10 rfl rfl rfl (zK rfl rfl (fun w' hw => (zJ7 b tb cb bm lm rm x.index now'5_ cnt kb kl'6_ kr ({ session := s7_, seq := q8_, op := op9_, key := k10_, amount := am11_, span := sp12_, lease := le13_ } : CmdD) w' (zDK (hf10_2.some (fun q => c4 (.inr q)))) (by rw [hnn]; exact hpt) (by first | omega | (simp <;> omega)) (by rw [hkk]; exact hlen _) (by rw [hkk]; exact hkl) (hw.give [0, 7, 1, 8, 2, 3] rfl (by decide))).mono ?_)))))
     rintro _ w1 ⟨r15_, did16_, cnt'17_, kb'18_, kl'19_, kr'20_, rfl, hf13_2, hO⟩
     refine (?_ : CL _ _ _ _ _ _ (Own w S [Res.row b3 57 (EntD.cells x), Res.row b4 43 [Vn 0, Vn 0, Vi 0, Vn 0, Vi 0, Vi 0], Res.vec 5 1 r1_ (if x.ok then x.enc else []).length ((if x.ok then x.enc else []).map vb), Res.vec 28 1 gv2_ gs3_.length (gs3_.flatMap U1), Res.row b9 47 [Vn s7_, Vn q8_, Vi op9_, .string k10_, Vi am11_, Vi sp12_, Vn le13_], Res.row b 66 [.pointer (some ⟨tb, 0, none⟩), .pointer (some ⟨cb, 0, none⟩), Vn x.index], Res.row tb 111 [.map (some bm), .map (some lm), Vi now'5_, Vn cnt'17_], Res.mp Value.string zw bm kb'18_, Res.mp zq zU lm kl'19_, Res.row cb 114 [.map (some rm)], Res.mp yE zh rm kr'20_])) w1 (hw.frameL [0, 7, 1, 8, 2, 3] rfl hO)
     refine zC rfl (zp (vs := [.agg (RepD.cells r15_).toArray, .bool did16_]) rfl rfl rfl (zp (vs := [.agg (RepD.cells r15_).toArray, .bool did16_]) rfl rfl rfl (yL (v := .agg #[Vn 0, Vn 0, Vi 0, Vn 0, Vi 0, Vi 0]) (by kernel_rfl) rfl (fun b11 => zo 11 rfl rfl rfl (yI rfl) rfl (zD rfl (zA (zB (yd (cs := (RepD.cells r15_)) 11 rfl rfl rfl (zo 1 rfl rfl rfl (yI rfl) rfl (zD rfl (zD rfl (zA ?_))))))))))))
     exact zP (zFR (cs := (RepD.cells r15_)) (v1 := .bool true) (v2 := Vi 0) rfl rfl rfl rfl (by kernel_rfl) (Own.rowCells (i := 1) rfl) (fun w' hw => ⟨r15_, true, 0, x.index, now'5_, cnt'17_, kb'18_, kl'19_, kr'20_, rfl, .inr ⟨hgo, rfl, rfl, hnn, .inr ⟨Decidable.not_not.1 fun q => c4 (.inl q), rfl, _, _, hf10_2.some (fun q => c4 (.inr q)), by rw [← hnn, ← hkk]; exact hf13_2⟩⟩, hw.sel [5, 6, 7, 8, 9, 10] rfl (by decide)⟩))
end Go.Proofs.YthincafbmpialaaGreat
