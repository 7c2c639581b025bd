import Derived.Test.YthincafbmpialaaGreatLedP
import Derived.Test.YthincafbmpialaaGreatQuotaW
set_option linter.unusedSectionVars false
set_option linter.unusedSimpArgs false
set_option linter.unusedVariables false
set_option maxRecDepth 10000
namespace Go.Proofs.YthincafbmpialaaGreat
open Go Go.Sc Go.Proofs
theorem zFP {p : Prop} [Decidable p] (h : yy p ≠ 0) : ¬ p := fun k => h (errOf_zero.2 k)
theorem zBZ {p : Prop} [Decidable p] (h : ¬ yy p ≠ 0) : p := errOf_zero.1 (Decidable.not_not.1 h)
theorem zKa {kr : List (Nat × RepD)} {s q : Nat} {x : RepD} {e : Int} (h : yV kr s q = (x, e)) (hq : s ≠ 0 ∧ q ≠ 0) (h0 : ¬ e = 0) (h13 : ¬ e = 13) (h7 : ¬ e = 7) : e = 8 := by
  unfold yV at h
  rw [if_neg (by omega)] at h
  split at h
  · split at h <;> cases h
    · exact absurd rfl h7
    · rfl
  · split at h
    · cases h; rfl
    · split at h <;> cases h
      · exact absurd rfl h13
      · exact absurd rfl h0
def jK (x : LeaD) (e : Int) : RepD := if e ≠ 0 then ⟨0, 0, e, 0, 0, 0⟩ else ⟨0, 0, 0, x.id, x.amount, x.until_⟩
theorem zCH (c : CmdD) (x : LeaD) (e : Int) : ({ jK x e with session := c.session, seq := c.seq } : RepD) = jO c x e := by
  unfold jK jO zAo
  split <;> rfl
theorem zKb {now : Int} {cnt cnt' : Nat} {kb kb' : List (ByteArray × Int)} {kl kl' : List (Nat × LeaD)} {c : CmdD} {r : RepD} (hw : c.wf) (ht : 0 ≤ now ∧ now ≤ 2305843009213693952) (hc : cnt ≤ 1000000000) (hlen : 0 ≤ ye c.key kl ∧ ye c.key kl ≤ 9223372036854775807)
    (hkl : ∀ i l, zu i kl = some l → l.id < 18446744073709551616 ∧ xY l.amount ∧ xY l.until_) (h : zJj now cnt kb kl c r cnt' kb' kl') : r.wf := by
  rcases h with ⟨_, rfl, _⟩ | ⟨_, x, e, e1, x1, rfl, _⟩ | ⟨_, x, e, k, rfl, _⟩ | ⟨_, x, e, k, rfl, _⟩ | ⟨_, rfl, _⟩
  · refine ⟨hw.session, hw.seq, by show (0 : Nat) < _; omega, ?_, by show xY 0; unfold xY; decide⟩
    show xY (if _ then _ else _)
    unfold xY
    split <;> omega
  · by_cases h0 : e = 0
    · refine zAc hw (zEZ hc hw.amount ?_ x x1)
      have hs : y3 c.span := Decidable.by_contra fun q => by
        rw [zK7 (.inr (.inr (.inr q)))] at e1
        rw [h0] at e1; cases e1
      unfold y3 at hs
      unfold xY; omega
    · unfold jO; rw [if_pos h0]; exact xe hw
  · by_cases h0 : e = 0
    · refine zAc hw ?_
      rcases k with q | q | ⟨hs, l, hl, _, q | ⟨_, _, q, _⟩⟩
      · rw [q.2.1] at h0; cases h0
      · rw [q.2.2.1] at h0; cases h0
      · rw [q.2.1] at h0; cases h0
      · rw [q]
        have h3 := hkl _ _ hl
        refine ⟨h3.1, h3.2.1, ?_⟩
        show xY (max _ _)
        have h4 := h3.2.2
        unfold y3 at hs
        unfold xY at h4 ⊢
        omega
    · unfold jO; rw [if_pos h0]; exact xe hw
  · by_cases h0 : e = 0
    · refine zAc hw ?_
      rcases k with q | ⟨l, hl, _, _, q, _⟩
      · rw [q.2.1] at h0; cases h0
      · rw [q]; exact hkl _ _ hl
    · unfold jO; rw [if_pos h0]; exact xe hw
  · exact xe hw
theorem zCm (x : LeaD) (e : Int) (w : World) : Rets Tryz.prog 63 #[.agg (LeaD.cells x).toArray, Vi e] w fun u_ w' => u_ = .agg (RepD.cells (jK x e)).toArray ∧ Own w [] [] w' := by
  refine zW Tryz.func63 rfl Tryz.ntmps63 (Own.start w) ?_
  refine zB (yc rfl rfl (fun b2 => yF (v := .agg #[Vn 0, Vn 0, Vi 0, Vn 0, Vi 0, Vi 0]) (by kernel_rfl) rfl (fun b4 => zA (zL (zB (zC rfl (xn rfl rfl rfl (zA (zU rfl (fun c1 => ?_) (fun c1 => ?_))))))))))
  ·
   refine zB (zC rfl (yQ (cs := [Vn 0, Vn 0, Vi e, Vn 0, Vi 0, Vi 0]) (z := [Vn 0, Vn 0, Vi 0, Vn 0, Vi 0, Vi 0]) (pl := [(0, 1), (1, 1), (2, 1), (3, 1), (4, 1), (5, 1)]) (by kernel_rfl) (by kernel_rfl) rfl (zh 1 rfl rfl rfl (z8 rfl) rfl (zA ?_))))
   exact zM (ji (cs := [Vn 0, Vn 0, Vi e, Vn 0, Vi 0, Vi 0]) rfl rfl (by kernel_rfl) (Own.rowCells (i := 1) rfl) (fun w' hw => ⟨(by unfold jK; rw [if_pos c1]; rfl), hw.drop⟩))
  ·
   refine zK (zB (zP (o := 0) rfl rfl (zS 0 (v := Vn x.id) rfl rfl rfl rfl (zP (o := 3) rfl rfl (zS 0 (v := Vi x.amount) rfl rfl rfl rfl (zP (o := 4) rfl rfl (zS 0 (v := Vi x.until_) rfl rfl rfl rfl (yQ (cs := [Vn 0, Vn 0, Vi 0, Vn x.id, Vi x.amount, Vi x.until_]) (z := [Vn 0, Vn 0, Vi 0, Vn 0, Vi 0, Vi 0]) (pl := [(0, 1), (1, 1), (2, 1), (3, 1), (4, 1), (5, 1)]) (by kernel_rfl) (by kernel_rfl) rfl (zh 1 rfl rfl rfl (z8 rfl) rfl (zA ?_))))))))))
   exact zM (ji (cs := [Vn 0, Vn 0, Vi 0, Vn x.id, Vi x.amount, Vi x.until_]) rfl rfl (by kernel_rfl) (Own.rowCells (i := 1) rfl) (fun w' hw => ⟨(by unfold jK; rw [if_neg c1]; rfl), hw.drop⟩))
theorem zFZ (w : World) : Rets Tryz.prog 9 #[] w fun u_ w' => ∃ (b tb cb bm lm rm : Nat), u_ = .pointer (some ⟨b, 0, none⟩) ∧ Own w [] [Res.row b 66 [.pointer (some ⟨tb, 0, none⟩), .pointer (some ⟨cb, 0, none⟩), Vn 0], Res.row tb 111 [.map (some bm), .map (some lm), Vi 0, Vn 0], Res.mp Value.string yD bm ([] : List (ByteArray × Int)), Res.mp yA zZ lm ([] : List (Nat × LeaD)), Res.row cb 114 [.map (some rm)], Res.mp yU zq rm ([] : List (Nat × RepD))] w' := by
  refine zW Tryz.func9 rfl Tryz.ntmps9 (Own.start w) ?_
  refine zB (zD rfl (zA (zB (zJ rfl rfl (fun w' hw => (zK1 w').mono ?_)))))
  rintro _ w1 ⟨b1_, bm2_, lm3_, rfl, hO⟩
  refine (?_ : CL _ _ _ _ _ _ (Own w [] [Res.row b1_ 111 [.map (some bm2_), .map (some lm3_), Vi 0, Vn 0], Res.mp Value.string yD bm2_ ([] : List (ByteArray × Int)), Res.mp yA zZ lm3_ ([] : List (Nat × LeaD))])) w1 (hw.frame0 hO)
  refine zJ rfl rfl (fun w' hw => (zMH w').mono ?_)
  rintro _ w1 ⟨b4_, m5_, rfl, hO⟩
  refine (?_ : CL _ _ _ _ _ _ (Own w [] [Res.row b1_ 111 [.map (some bm2_), .map (some lm3_), Vi 0, Vn 0], Res.mp Value.string yD bm2_ ([] : List (ByteArray × Int)), Res.mp yA zZ lm3_ ([] : List (Nat × LeaD)), Res.row b4_ 114 [.map (some m5_)], Res.mp yU zq m5_ ([] : List (Nat × RepD))])) w1 (hw.frame0 hO)
  refine yQ (cs := [.pointer (some ⟨b1_, 0, none⟩), .pointer (some ⟨b4_, 0, none⟩), Vn 0]) (z := [.pointer none, .pointer none, Vn 0]) (pl := [(0, 1), (1, 1), (2, 1)]) (by kernel_rfl) (by kernel_rfl) rfl (yc rfl rfl (fun b4 => zD rfl (zA ?_)))
  exact zM (z6 (v := .pointer (some ⟨b4, 0, none⟩)) rfl rfl (fun w' hw => ⟨b4, b1_, b4_, bm2_, lm3_, m5_, rfl, hw.sel [5, 0, 1, 2, 3, 4] rfl (by decide)⟩))
theorem zME {S : List Nat} (b tb cb bm lm idx : Nat) (now : Int) (cnt : Nat) (kb : List (ByteArray × Int)) (kl : List (Nat × LeaD)) (c : CmdD) (w : World) (hcw : c.wf) (ht : 0 ≤ now ∧ now ≤ 2305843009213693952) (hc : cnt ≤ 1000000000) (hlen : 0 ≤ ye c.key kl ∧ ye c.key kl ≤ 9223372036854775807) (hin : Own w S [Res.row b 66 [.pointer (some ⟨tb, 0, none⟩), .pointer (some ⟨cb, 0, none⟩), Vn idx], Res.row tb 111 [.map (some bm), .map (some lm), Vi now, Vn cnt], Res.mp Value.string yD bm kb, Res.mp yA zZ lm kl] w) : Rets Tryz.prog 27 #[.pointer (some ⟨b, 0, none⟩), .agg (CmdD.cells c).toArray] w fun u_ w' => ∃ (r : RepD) (cnt' : Nat) (kb' : List (ByteArray × Int)) (kl' : List (Nat × LeaD)), u_ = .agg (RepD.cells r).toArray ∧ zJj now cnt kb kl c { r with session := c.session, seq := c.seq } cnt' kb' kl' ∧ Own w S [Res.row b 66 [.pointer (some ⟨tb, 0, none⟩), .pointer (some ⟨cb, 0, none⟩), Vn idx], Res.row tb 111 [.map (some bm), .map (some lm), Vi now, Vn cnt'], Res.mp Value.string yD bm kb', Res.mp yA zZ lm kl'] w' := by
  have hca := hcw.amount
  refine zW Tryz.func27 rfl Tryz.ntmps27 hin ?_
  refine zB (yc rfl rfl (fun b3 => yF (v := .agg #[Vn 0, Vn 0, Vi 0, Vn 0, Vi 0, Vi 0]) (by kernel_rfl) rfl (fun b4 => zA (zL (zB (zP (o := 2) rfl rfl (zS 4 (v := Vi c.op) rfl rfl rfl rfl (zA (zT (zB (yo rfl rfl rfl (zD rfl ?_))))))))))))
  refine zA (zU rfl (fun c1 => ?_) (fun c1 => ?_))
  ·
   refine zL (zg [0, 4, 5] rfl (by decide) (by kernel_rfl) (fun w' hw hS => zF 0 rfl (zQ) hS (zF 1 rfl (z7 rfl) hS (zF 2 rfl (zi (o := 0) rfl) hS (zF 3 rfl (zo 0 (v := .pointer (some ⟨tb, 0, none⟩)) rfl rfl rfl) hS (zF 4 rfl (zi (o := 3) rfl) hS (zF 5 rfl (zo 1 (v := .string c.key) rfl rfl rfl) hS (zF 6 rfl (zi (o := 4) rfl) hS (zF 7 rfl (zo 1 (v := Vi c.amount) rfl rfl rfl) hS (zY 8 rfl hw (zJ rfl rfl (fun w' hw => (zMo tb bm lm now cnt kb kl c.key c.amount w' (hw.give [1, 2, 3] rfl (by decide))).mono ?_))))))))))))
   rintro _ w1 ⟨n1_, e2_, kb'3_, rfl, hf3_8, hf3_8_1, hf3_8_2, hO⟩
   refine (?_ : CL _ _ _ _ _ _ (Own w S [Res.row b 66 [.pointer (some ⟨tb, 0, none⟩), .pointer (some ⟨cb, 0, none⟩), Vn idx], Res.row b3 47 (CmdD.cells c), Res.row b4 43 [Vn 0, Vn 0, Vi 0, Vn 0, Vi 0, Vi 0], Res.row tb 111 [.map (some bm), .map (some lm), Vi now, Vn cnt], Res.mp Value.string yD bm kb'3_, Res.mp yA zZ lm kl])) w1 (hw.frameL [1, 2, 3] rfl hO)
   refine zG [0, 1, 2] rfl (by decide) (fun w' hw hS => zF 9 rfl (zQ) hS (zF 10 rfl (ya (vs := [Vi n1_, Vi e2_]) rfl rfl) hS (zF 11 rfl (ya (vs := [Vi n1_, Vi e2_]) rfl rfl) hS (zF 12 rfl (yx) hS (zF 13 rfl (yx) hS (zR ?_))))))
   refine (?_ : C _ _ _ _ _ _ _ (Own w S [Res.row b 66 [.pointer (some ⟨tb, 0, none⟩), .pointer (some ⟨cb, 0, none⟩), Vn idx], Res.row b3 47 (CmdD.cells c), Res.row b4 43 [Vn 0, Vn 0, Vi 0, Vn 0, Vi 0, Vi 0], Res.row tb 111 [.map (some bm), .map (some lm), Vi now, Vn cnt], Res.mp Value.string yD bm kb'3_, Res.mp yA zZ lm kl])) _ hw
   refine zB (zC rfl (zC rfl (yQ (cs := [Vn 0, Vn 0, Vi e2_, Vn 0, Vi n1_, Vi 0]) (z := [Vn 0, Vn 0, Vi 0, Vn 0, Vi 0, Vi 0]) (pl := [(0, 1), (1, 1), (2, 1), (3, 1), (4, 1), (5, 1)]) (by kernel_rfl) (by kernel_rfl) rfl (zh 2 rfl rfl rfl (z8 rfl) rfl (zA ?_)))))
   exact zM (ji (cs := [Vn 0, Vn 0, Vi e2_, Vn 0, Vi n1_, Vi 0]) rfl rfl (by kernel_rfl) (Own.rowCells (i := 2) rfl) (fun w' hw => ⟨({ session := 0, seq := 0, e := e2_, lease := 0, amount := n1_, until_ := 0 } : RepD), cnt, kb'3_, kl, rfl, .inl ⟨c1, by rw [hf3_8_2, hf3_8]; rfl, rfl, hf3_8_1, rfl⟩, hw.sel [0, 3, 4, 5] rfl (by decide)⟩))
  ·
   refine zB (yo rfl rfl rfl (zD rfl (zA (zU rfl (fun c2 => ?_) (fun c2 => ?_)))))
   ·
    refine zL (zg [0, 4] rfl (by decide) (by kernel_rfl) (fun w' hw hS => zF 0 rfl (zQ) hS (zF 1 rfl (z7 rfl) hS (zF 2 rfl (zi (o := 0) rfl) hS (zF 3 rfl (zo 0 (v := .pointer (some ⟨tb, 0, none⟩)) rfl rfl rfl) hS (zF 4 rfl (zi (o := 0) rfl) hS (zF 5 rfl (zo 1 (v := Vn c.session) rfl rfl rfl) hS (zF 6 rfl (zi (o := 3) rfl) hS (zF 7 rfl (zo 1 (v := .string c.key) rfl rfl rfl) hS (zF 8 rfl (zi (o := 4) rfl) hS (zF 9 rfl (zo 1 (v := Vi c.amount) rfl rfl rfl) hS (zF 10 rfl (zi (o := 5) rfl) hS ?_))))))))))))
    refine zF 11 rfl (zo 1 (v := Vi c.span) rfl rfl rfl) hS (zY 12 rfl hw (zJ rfl rfl (fun w' hw => (zLb tb bm lm now cnt kb kl c.session c.key c.amount c.span w' (by first | omega | (simp <;> omega)) ‹_› (by first | omega | (simp <;> omega)) (by first | omega | (simp <;> omega)) (hw.give [1, 2, 3] rfl (by decide))).mono ?_)))
    rintro _ w1 ⟨x4_, e5_, cnt'6_, kl'7_, rfl, hf6_12, hf6_12_1, hf6_12_2, hf6_12_3, hO⟩
    refine (?_ : CL _ _ _ _ _ _ (Own w S [Res.row b 66 [.pointer (some ⟨tb, 0, none⟩), .pointer (some ⟨cb, 0, none⟩), Vn idx], Res.row b3 47 (CmdD.cells c), Res.row b4 43 [Vn 0, Vn 0, Vi 0, Vn 0, Vi 0, Vi 0], Res.row tb 111 [.map (some bm), .map (some lm), Vi now, Vn cnt'6_], Res.mp Value.string yD bm kb, Res.mp yA zZ lm kl'7_])) w1 (hw.frameL [1, 2, 3] rfl hO)
    refine zG [0, 1] rfl (by decide) (fun w' hw hS => zF 13 rfl (ya (vs := [.agg (LeaD.cells x4_).toArray, Vi e5_]) rfl rfl) hS (zF 14 rfl (ya (vs := [.agg (LeaD.cells x4_).toArray, Vi e5_]) rfl rfl) hS (zY 15 rfl hw (zJ rfl rfl (fun w' hw => (zCm x4_ e5_ w').mono ?_)))))
    rintro _ w1 ⟨rfl, hO⟩
    refine (?_ : CL _ _ _ _ _ _ (Own w S [Res.row b 66 [.pointer (some ⟨tb, 0, none⟩), .pointer (some ⟨cb, 0, none⟩), Vn idx], Res.row b3 47 (CmdD.cells c), Res.row b4 43 [Vn 0, Vn 0, Vi 0, Vn 0, Vi 0, Vi 0], Res.row tb 111 [.map (some bm), .map (some lm), Vi now, Vn cnt'6_], Res.mp Value.string yD bm kb, Res.mp yA zZ lm kl'7_])) w1 (hw.frame0 hO)
    refine zG [0, 1] rfl (by decide) (fun w' hw hS => zY 16 rfl hw (zh 2 rfl rfl rfl (z8 rfl) rfl (zG [0, 1] rfl (by decide) (fun w' hw hS => zR ?_))))
    refine (?_ : C _ _ _ _ _ _ _ (Own w S [Res.row b 66 [.pointer (some ⟨tb, 0, none⟩), .pointer (some ⟨cb, 0, none⟩), Vn idx], Res.row b3 47 (CmdD.cells c), Res.row b4 43 (RepD.cells (jK x4_ e5_)), Res.row tb 111 [.map (some bm), .map (some lm), Vi now, Vn cnt'6_], Res.mp Value.string yD bm kb, Res.mp yA zZ lm kl'7_])) _ hw
    exact zM (ji (cs := (RepD.cells (jK x4_ e5_))) rfl rfl (by kernel_rfl) (Own.rowCells (i := 2) rfl) (fun w' hw => ⟨(jK x4_ e5_), cnt'6_, kb, kl'7_, rfl, .inr (.inl ⟨c2, x4_, e5_, hf6_12, hf6_12_1, zCH _ _ _, hf6_12_2, rfl, hf6_12_3⟩), hw.sel [0, 3, 4, 5] rfl (by decide)⟩))
   ·
    refine zB (yo rfl rfl rfl (zD rfl (zA (zU rfl (fun c3 => ?_) (fun c3 => ?_)))))
    ·
     refine zL (zg [0, 4] rfl (by decide) (by kernel_rfl) (fun w' hw hS => zF 0 rfl (zQ) hS (zF 1 rfl (z7 rfl) hS (zF 2 rfl (zi (o := 0) rfl) hS (zF 3 rfl (zo 0 (v := .pointer (some ⟨tb, 0, none⟩)) rfl rfl rfl) hS (zF 4 rfl (zi (o := 0) rfl) hS (zF 5 rfl (zo 1 (v := Vn c.session) rfl rfl rfl) hS (zF 6 rfl (zi (o := 6) rfl) hS (zF 7 rfl (zo 1 (v := Vn c.lease) rfl rfl rfl) hS (zF 8 rfl (zi (o := 5) rfl) hS (zF 9 rfl (zo 1 (v := Vi c.span) rfl rfl rfl) hS (zY 10 rfl hw ?_))))))))))))
     refine zJ rfl rfl (fun w' hw => (zKN tb bm lm now cnt kb kl c.session c.lease c.span w' (by first | omega | (simp <;> omega)) (hw.give [1, 2, 3] rfl (by decide))).mono ?_)
     rintro _ w1 ⟨x8_, e9_, kl'10_, rfl, hf8_10, hO⟩
     refine (?_ : CL _ _ _ _ _ _ (Own w S [Res.row b 66 [.pointer (some ⟨tb, 0, none⟩), .pointer (some ⟨cb, 0, none⟩), Vn idx], Res.row b3 47 (CmdD.cells c), Res.row b4 43 [Vn 0, Vn 0, Vi 0, Vn 0, Vi 0, Vi 0], Res.row tb 111 [.map (some bm), .map (some lm), Vi now, Vn cnt], Res.mp Value.string yD bm kb, Res.mp yA zZ lm kl'10_])) w1 (hw.frameL [1, 2, 3] rfl hO)
     refine zG [0, 1] rfl (by decide) (fun w' hw hS => zF 11 rfl (ya (vs := [.agg (LeaD.cells x8_).toArray, Vi e9_]) rfl rfl) hS (zF 12 rfl (ya (vs := [.agg (LeaD.cells x8_).toArray, Vi e9_]) rfl rfl) hS (zY 13 rfl hw (zJ rfl rfl (fun w' hw => (zCm x8_ e9_ w').mono ?_)))))
     rintro _ w1 ⟨rfl, hO⟩
     refine (?_ : CL _ _ _ _ _ _ (Own w S [Res.row b 66 [.pointer (some ⟨tb, 0, none⟩), .pointer (some ⟨cb, 0, none⟩), Vn idx], Res.row b3 47 (CmdD.cells c), Res.row b4 43 [Vn 0, Vn 0, Vi 0, Vn 0, Vi 0, Vi 0], Res.row tb 111 [.map (some bm), .map (some lm), Vi now, Vn cnt], Res.mp Value.string yD bm kb, Res.mp yA zZ lm kl'10_])) w1 (hw.frame0 hO)
     refine zG [0, 1] rfl (by decide) (fun w' hw hS => zY 14 rfl hw (zh 2 rfl rfl rfl (z8 rfl) rfl (zG [0, 1] rfl (by decide) (fun w' hw hS => zR ?_))))
     refine (?_ : C _ _ _ _ _ _ _ (Own w S [Res.row b 66 [.pointer (some ⟨tb, 0, none⟩), .pointer (some ⟨cb, 0, none⟩), Vn idx], Res.row b3 47 (CmdD.cells c), Res.row b4 43 (RepD.cells (jK x8_ e9_)), Res.row tb 111 [.map (some bm), .map (some lm), Vi now, Vn cnt], Res.mp Value.string yD bm kb, Res.mp yA zZ lm kl'10_])) _ hw
     exact zM (ji (cs := (RepD.cells (jK x8_ e9_))) rfl rfl (by kernel_rfl) (Own.rowCells (i := 2) rfl) (fun w' hw => ⟨(jK x8_ e9_), cnt, kb, kl'10_, rfl, .inr (.inr (.inl ⟨c3, x8_, e9_, hf8_10, zCH _ _ _, rfl, rfl⟩)), hw.sel [0, 3, 4, 5] rfl (by decide)⟩))
    ·
     refine zB (yo rfl rfl rfl (zD rfl (zA (zU rfl (fun c4 => ?_) (fun c4 => ?_)))))
     ·
      refine zL (zg [0, 2, 4] rfl (by decide) (by kernel_rfl) (fun w' hw hS => zF 0 rfl (zQ) hS (zF 1 rfl (z7 rfl) hS (zF 2 rfl (zi (o := 0) rfl) hS (zF 3 rfl (zo 0 (v := .pointer (some ⟨tb, 0, none⟩)) rfl rfl rfl) hS (zF 4 rfl (zi (o := 0) rfl) hS (zF 5 rfl (zo 2 (v := Vn c.session) rfl rfl rfl) hS (zF 6 rfl (zi (o := 6) rfl) hS (zF 7 rfl (zo 2 (v := Vn c.lease) rfl rfl rfl) hS (zY 8 rfl hw (zJ rfl rfl (fun w' hw => (zMX tb bm lm now cnt kl c.session c.lease w' (hw.give [1, 3] rfl (by decide))).mono ?_))))))))))))
      rintro _ w1 ⟨x11_, e12_, kl'13_, rfl, hf10_8, hO⟩
      refine (?_ : CL _ _ _ _ _ _ (Own w S [Res.row b 66 [.pointer (some ⟨tb, 0, none⟩), .pointer (some ⟨cb, 0, none⟩), Vn idx], Res.mp Value.string yD bm kb, Res.row b3 47 (CmdD.cells c), Res.row b4 43 [Vn 0, Vn 0, Vi 0, Vn 0, Vi 0, Vi 0], Res.row tb 111 [.map (some bm), .map (some lm), Vi now, Vn cnt], Res.mp yA zZ lm kl'13_])) w1 (hw.frameL [1, 3] rfl hO)
      refine zG [0, 1, 2] rfl (by decide) (fun w' hw hS => zF 9 rfl (ya (vs := [.agg (LeaD.cells x11_).toArray, Vi e12_]) rfl rfl) hS (zF 10 rfl (ya (vs := [.agg (LeaD.cells x11_).toArray, Vi e12_]) rfl rfl) hS (zY 11 rfl hw (zJ rfl rfl (fun w' hw => (zCm x11_ e12_ w').mono ?_)))))
      rintro _ w1 ⟨rfl, hO⟩
      refine (?_ : CL _ _ _ _ _ _ (Own w S [Res.row b 66 [.pointer (some ⟨tb, 0, none⟩), .pointer (some ⟨cb, 0, none⟩), Vn idx], Res.mp Value.string yD bm kb, Res.row b3 47 (CmdD.cells c), Res.row b4 43 [Vn 0, Vn 0, Vi 0, Vn 0, Vi 0, Vi 0], Res.row tb 111 [.map (some bm), .map (some lm), Vi now, Vn cnt], Res.mp yA zZ lm kl'13_])) w1 (hw.frame0 hO)
      refine zG [0, 1, 2] rfl (by decide) (fun w' hw hS => zY 12 rfl hw (zh 3 rfl rfl rfl (z8 rfl) rfl (zG [0, 1, 2] rfl (by decide) (fun w' hw hS => zR ?_))))
      refine (?_ : C _ _ _ _ _ _ _ (Own w S [Res.row b 66 [.pointer (some ⟨tb, 0, none⟩), .pointer (some ⟨cb, 0, none⟩), Vn idx], Res.mp Value.string yD bm kb, Res.row b3 47 (CmdD.cells c), Res.row b4 43 (RepD.cells (jK x11_ e12_)), Res.row tb 111 [.map (some bm), .map (some lm), Vi now, Vn cnt], Res.mp yA zZ lm kl'13_])) _ hw
      exact zM (ji (cs := (RepD.cells (jK x11_ e12_))) rfl rfl (by kernel_rfl) (Own.rowCells (i := 3) rfl) (fun w' hw => ⟨(jK x11_ e12_), cnt, kb, kl'13_, rfl, .inr (.inr (.inr (.inl ⟨c4, x11_, e12_, hf10_8, zCH _ _ _, rfl, rfl⟩))), hw.sel [0, 4, 1, 5] rfl (by decide)⟩))
     ·
      refine zK (zB (yQ (cs := [Vn 0, Vn 0, Vi 0, Vn 0, Vi 0, Vi 0]) (z := [Vn 0, Vn 0, Vi 0, Vn 0, Vi 0, Vi 0]) (pl := [(0, 1), (1, 1), (2, 1), (3, 1), (4, 1), (5, 1)]) (by kernel_rfl) (by kernel_rfl) rfl (zh 5 rfl rfl rfl (z8 rfl) rfl (zA ?_))))
      exact zM (ji (cs := [Vn 0, Vn 0, Vi 0, Vn 0, Vi 0, Vi 0]) rfl rfl (by kernel_rfl) (Own.rowCells (i := 5) rfl) (fun w' hw => ⟨({ session := 0, seq := 0, e := 0, lease := 0, amount := 0, until_ := 0 } : RepD), cnt, kb, kl, rfl, .inr (.inr (.inr (.inr ⟨⟨⟨c1, c2⟩, c3, c4⟩, rfl, rfl, rfl, rfl⟩))), hw.sel [0, 1, 2, 3] rfl (by decide)⟩))
theorem zBR {S : List Nat} (rb : Nat) (x : RepD) (er : Int) (w : World) (hin : Own w S [Res.row rb 43 (RepD.cells x)] w) : Rets Tryz.prog 24 #[Vi er, .pointer (some ⟨rb, 0, none⟩)] w fun u_ w' => u_ = .tuple #[.agg (RepD.cells ({ x with e := er })).toArray, .bool false] ∧ Own w S [Res.row rb 43 (RepD.cells ({ x with e := er }))] w' := by
  refine zW Tryz.func24 rfl Tryz.ntmps24 hin ?_
  refine zB (yF (v := .agg #[Vn 0, Vn 0, Vi 0, Vn 0, Vi 0, Vi 0]) (by kernel_rfl) rfl (fun b3 => zD rfl (zA (zB (zC rfl (zP (o := 2) rfl rfl (yi (cs := (RepD.cells x)) 0 rfl rfl rfl rfl rfl (zA (zB (yN 0 rfl rfl rfl (zh 1 rfl rfl rfl (z8 rfl) rfl (zD rfl ?_))))))))))))
  refine zA ?_
  exact zM (yH (cs := [Vn x.session, Vn x.seq, Vi er, Vn x.lease, Vi x.amount, Vi x.until_]) (v := .bool false) rfl rfl rfl (by kernel_rfl) (Own.rowCells (i := 1) rfl) (fun w' hw => ⟨rfl, hw.sel [0] rfl (by decide)⟩))
theorem zKo {S : List Nat} (b tb cb bm lm rm idx : Nat) (now : Int) (cnt : Nat) (kb : List (ByteArray × Int)) (kl : List (Nat × LeaD)) (kr : List (Nat × RepD)) (c : CmdD) (w : World) (hcw : c.wf) (ht : 0 ≤ now ∧ now ≤ 2305843009213693952) (hc : cnt ≤ 1000000000) (hlen : 0 ≤ ye c.key kl ∧ ye c.key kl ≤ 9223372036854775807) (hkl : ∀ i l, zu i kl = some l → l.id < 18446744073709551616 ∧ xY l.amount ∧ xY l.until_) (hin : Own w S [Res.row b 66 [.pointer (some ⟨tb, 0, none⟩), .pointer (some ⟨cb, 0, none⟩), Vn idx], Res.row tb 111 [.map (some bm), .map (some lm), Vi now, Vn cnt], Res.mp Value.string yD bm kb, Res.mp yA zZ lm kl, Res.row cb 114 [.map (some rm)], Res.mp yU zq rm kr] w) : Rets Tryz.prog 13 #[.pointer (some ⟨b, 0, none⟩), .agg (CmdD.cells c).toArray] w fun u_ w' => ∃ (r : RepD) (did : Bool) (cnt' : Nat) (kb' : List (ByteArray × Int)) (kl' : List (Nat × LeaD)) (kr' : List (Nat × RepD)), u_ = .tuple #[.agg (RepD.cells r).toArray, .bool did] ∧ DoK now cnt kb kl kr c r did cnt' kb' kl' kr' ∧ Own w S [Res.row b 66 [.pointer (some ⟨tb, 0, none⟩), .pointer (some ⟨cb, 0, none⟩), Vn idx], Res.row tb 111 [.map (some bm), .map (some lm), Vi now, Vn cnt'], Res.mp Value.string yD bm kb', Res.mp yA zZ lm kl', Res.row cb 114 [.map (some rm)], Res.mp yU zq rm kr'] w' := by
  refine zW Tryz.func13 rfl Tryz.ntmps13 hin ?_
  refine zB (yc rfl rfl (fun b3 => yF (v := .agg #[Vn 0, Vn 0, Vi 0, Vn 0, Vi 0, Vi 0]) (by kernel_rfl) rfl (fun b4 => zD rfl (zA (zB (zP (o := 0) rfl rfl (zS 6 (v := Vn c.session) rfl rfl rfl rfl (zP (o := 1) rfl rfl (zS 6 (v := Vn c.seq) rfl rfl rfl rfl (yQ (cs := [Vn c.session, Vn c.seq, Vi 0, Vn 0, Vi 0, Vi 0]) (z := [Vn 0, Vn 0, Vi 0, Vn 0, Vi 0, Vi 0]) (pl := [(0, 1), (1, 1), (2, 1), (3, 1), (4, 1), (5, 1)]) (by kernel_rfl) (by kernel_rfl) rfl (yF (v := .agg #[Vn 0, Vn 0, Vi 0, Vn 0, Vi 0, Vi 0]) (by kernel_rfl) rfl (fun b6 => zh 8 rfl rfl rfl (z8 rfl) rfl ?_))))))))))))
  refine zA (zB (zIE (va := []) (vb := [.pointer (some ⟨b6, 0, none⟩)]) rfl rfl rfl (zD rfl (zA (zL (zB (zC rfl (xE (by kernel_rfl) rfl rfl rfl (zA (xQ rfl (zK (zL ?_))))))))))))
  refine zB (yN (cs := (CmdD.cells c)) 6 rfl rfl rfl (zJ rfl rfl (fun w' hw => (zEK c w' ‹_›).mono ?_)))
  rintro _ w1 ⟨r1_, rfl, hO⟩
  refine (?_ : CL _ _ _ _ _ _ (Own w S [Res.row b 66 [.pointer (some ⟨tb, 0, none⟩), .pointer (some ⟨cb, 0, none⟩), Vn idx], Res.row tb 111 [.map (some bm), .map (some lm), Vi now, Vn cnt], Res.mp Value.string yD bm kb, Res.mp yA zZ lm kl, Res.row cb 114 [.map (some rm)], Res.mp yU zq rm kr, Res.row b3 47 (CmdD.cells c), Res.row b4 43 [Vn 0, Vn 0, Vi 0, Vn 0, Vi 0, Vi 0], Res.row b6 43 [Vn c.session, Vn c.seq, Vi 0, Vn 0, Vi 0, Vi 0], Res.vec 5 1 r1_ (if c.ok then c.enc else []).length ((if c.ok then c.enc else []).map vb)])) w1 (hw.frame0 hO)
  refine zC rfl (zp (vs := [r1_, Vi (yy c.ok)]) rfl rfl rfl (zp (vs := [r1_, Vi (yy c.ok)]) rfl rfl rfl (zD rfl (zD rfl (zA (zB (zC rfl (xn rfl rfl rfl (zA (zU rfl (fun c2 => ?_) (fun c2 => ?_)))))))))))
  ·
   have hno := zFP c2
   refine zB (zC rfl (xI (fst := []) (cap := [.pointer (some ⟨b6, 0, none⟩)]) rfl (by kernel_rfl) rfl rfl (fun w' hw => (zBR b6 ({ session := c.session, seq := c.seq, e := 0, lease := 0, amount := 0, until_ := 0 } : RepD) 2 w' (hw.give [8] rfl (by decide))).mono ?_)))
   rintro _ w1 ⟨rfl, hO⟩
   refine (?_ : CL _ _ _ _ _ _ (Own w S [Res.row b 66 [.pointer (some ⟨tb, 0, none⟩), .pointer (some ⟨cb, 0, none⟩), Vn idx], Res.row tb 111 [.map (some bm), .map (some lm), Vi now, Vn cnt], Res.mp Value.string yD bm kb, Res.mp yA zZ lm kl, Res.row cb 114 [.map (some rm)], Res.mp yU zq rm kr, Res.row b3 47 (CmdD.cells c), Res.row b4 43 [Vn 0, Vn 0, Vi 0, Vn 0, Vi 0, Vi 0], Res.vec 5 1 r1_ (if c.ok then c.enc else []).length ((if c.ok then c.enc else []).map vb), Res.row b6 43 (RepD.cells ({ ({ session := c.session, seq := c.seq, e := 0, lease := 0, amount := 0, until_ := 0 } : RepD) with e := 2 }))])) w1 (hw.frameL [8] rfl hO)
   refine zp (vs := [.agg (RepD.cells ({ ({ session := c.session, seq := c.seq, e := 0, lease := 0, amount := 0, until_ := 0 } : RepD) with e := 2 })).toArray, .bool false]) rfl rfl rfl (zp (vs := [.agg (RepD.cells ({ ({ session := c.session, seq := c.seq, e := 0, lease := 0, amount := 0, until_ := 0 } : RepD) with e := 2 })).toArray, .bool false]) rfl rfl rfl (zh 7 rfl rfl rfl (z8 rfl) rfl (zD rfl (zA ?_))))
   exact zM (yH (cs := (RepD.cells ({ ({ session := c.session, seq := c.seq, e := 0, lease := 0, amount := 0, until_ := 0 } : RepD) with e := 2 }))) (v := .bool false) rfl rfl rfl (by kernel_rfl) (Own.rowCells (i := 7) rfl) (fun w' hw => ⟨{ ({ session := c.session, seq := c.seq, e := 0, lease := 0, amount := 0, until_ := 0 } : RepD) with e := 2 }, false, cnt, kb, kl, kr, rfl, .inl ⟨.inl ⟨hno, rfl⟩, rfl, rfl, rfl, rfl, rfl⟩, hw.sel [0, 1, 2, 3, 4, 5] rfl (by decide)⟩))
  ·
   have hok := zBZ c2
   refine zK (zL (zT (zB (zP (o := 0) rfl rfl (zS 6 (v := Vn c.session) rfl rfl rfl rfl (yo rfl rfl rfl (zC rfl (yP (q := ((c.session : Nat) : Int) = ((0 : Nat) : Int)) 3 3 [42, 41, 40] (c.op = 5) rfl rfl rfl rfl rfl rfl trivial rfl (fun h8_3 => ?_) (fun g8_7 => ?_)))))))))
   ·
    refine zO rfl (gT h8_3) (zP (o := 2) rfl rfl (zO rfl (gT h8_3) (zS 6 (v := Vi c.op) rfl rfl rfl rfl (zO rfl (gT h8_3) (yo rfl rfl rfl ?_)))))
    exact yL rfl (fun _ hw => hw)
   refine zD rfl (zA (zU rfl (fun c3 => ?_) (fun c3 => ?_)))
   ·
    refine zB (yN (cs := [Vn c.session, Vn c.seq, Vi 0, Vn 0, Vi 0, Vi 0]) 8 rfl rfl rfl (zh 7 rfl rfl rfl (z8 rfl) rfl (zD rfl (zA ?_))))
    exact zM (yH (cs := [Vn c.session, Vn c.seq, Vi 0, Vn 0, Vi 0, Vi 0]) (v := .bool false) rfl rfl rfl (by kernel_rfl) (Own.rowCells (i := 7) rfl) (fun w' hw => ⟨({ session := c.session, seq := c.seq, e := 0, lease := 0, amount := 0, until_ := 0 } : RepD), false, cnt, kb, kl, kr, rfl, .inl ⟨.inr (.inl ⟨hok, by omega, by rw [if_pos c3.2]; rfl⟩), rfl, rfl, rfl, rfl, rfl⟩, hw.sel [0, 1, 2, 3, 4, 5] rfl (by decide)⟩))
   ·
    refine zB (zP (o := 0) rfl rfl (zS 6 (v := Vn c.session) rfl rfl rfl rfl (yo rfl rfl rfl (zD rfl (zA (zU rfl (fun c4 => ?_) (fun c4 => ?_)))))))
    ·
     refine zB (zC rfl (xI (fst := []) (cap := [.pointer (some ⟨b6, 0, none⟩)]) rfl (by kernel_rfl) rfl rfl (fun w' hw => (zBR b6 ({ session := c.session, seq := c.seq, e := 0, lease := 0, amount := 0, until_ := 0 } : RepD) 1 w' (hw.give [8] rfl (by decide))).mono ?_)))
     rintro _ w1 ⟨rfl, hO⟩
     refine (?_ : CL _ _ _ _ _ _ (Own w S [Res.row b 66 [.pointer (some ⟨tb, 0, none⟩), .pointer (some ⟨cb, 0, none⟩), Vn idx], Res.row tb 111 [.map (some bm), .map (some lm), Vi now, Vn cnt], Res.mp Value.string yD bm kb, Res.mp yA zZ lm kl, Res.row cb 114 [.map (some rm)], Res.mp yU zq rm kr, Res.row b3 47 (CmdD.cells c), Res.row b4 43 [Vn 0, Vn 0, Vi 0, Vn 0, Vi 0, Vi 0], Res.vec 5 1 r1_ (if c.ok then c.enc else []).length ((if c.ok then c.enc else []).map vb), Res.row b6 43 (RepD.cells ({ ({ session := c.session, seq := c.seq, e := 0, lease := 0, amount := 0, until_ := 0 } : RepD) with e := 1 }))])) w1 (hw.frameL [8] rfl hO)
     refine zp (vs := [.agg (RepD.cells ({ ({ session := c.session, seq := c.seq, e := 0, lease := 0, amount := 0, until_ := 0 } : RepD) with e := 1 })).toArray, .bool false]) rfl rfl rfl (zp (vs := [.agg (RepD.cells ({ ({ session := c.session, seq := c.seq, e := 0, lease := 0, amount := 0, until_ := 0 } : RepD) with e := 1 })).toArray, .bool false]) rfl rfl rfl (zh 7 rfl rfl rfl (z8 rfl) rfl (zD rfl (zA ?_))))
     exact zM (yH (cs := (RepD.cells ({ ({ session := c.session, seq := c.seq, e := 0, lease := 0, amount := 0, until_ := 0 } : RepD) with e := 1 }))) (v := .bool false) rfl rfl rfl (by kernel_rfl) (Own.rowCells (i := 7) rfl) (fun w' hw => ⟨{ ({ session := c.session, seq := c.seq, e := 0, lease := 0, amount := 0, until_ := 0 } : RepD) with e := 1 }, false, cnt, kb, kl, kr, rfl, .inl ⟨.inr (.inl ⟨hok, by omega, by rw [if_neg fun q => c3 ⟨c4, q⟩]; rfl⟩), rfl, rfl, rfl, rfl, rfl⟩, hw.sel [0, 1, 2, 3, 4, 5] rfl (by decide)⟩))
    ·
     refine zB (zP (o := 1) rfl rfl (zS 6 (v := Vn c.seq) rfl rfl rfl rfl (yo rfl rfl rfl (zD rfl (zA (zU rfl (fun c5 => ?_) (fun c5 => ?_)))))))
     ·
      refine zB (zC rfl (xI (fst := []) (cap := [.pointer (some ⟨b6, 0, none⟩)]) rfl (by kernel_rfl) rfl rfl (fun w' hw => (zBR b6 ({ session := c.session, seq := c.seq, e := 0, lease := 0, amount := 0, until_ := 0 } : RepD) 18 w' (hw.give [8] rfl (by decide))).mono ?_)))
      rintro _ w1 ⟨rfl, hO⟩
      refine (?_ : CL _ _ _ _ _ _ (Own w S [Res.row b 66 [.pointer (some ⟨tb, 0, none⟩), .pointer (some ⟨cb, 0, none⟩), Vn idx], Res.row tb 111 [.map (some bm), .map (some lm), Vi now, Vn cnt], Res.mp Value.string yD bm kb, Res.mp yA zZ lm kl, Res.row cb 114 [.map (some rm)], Res.mp yU zq rm kr, Res.row b3 47 (CmdD.cells c), Res.row b4 43 [Vn 0, Vn 0, Vi 0, Vn 0, Vi 0, Vi 0], Res.vec 5 1 r1_ (if c.ok then c.enc else []).length ((if c.ok then c.enc else []).map vb), Res.row b6 43 (RepD.cells ({ ({ session := c.session, seq := c.seq, e := 0, lease := 0, amount := 0, until_ := 0 } : RepD) with e := 18 }))])) w1 (hw.frameL [8] rfl hO)
      refine zp (vs := [.agg (RepD.cells ({ ({ session := c.session, seq := c.seq, e := 0, lease := 0, amount := 0, until_ := 0 } : RepD) with e := 18 })).toArray, .bool false]) rfl rfl rfl (zp (vs := [.agg (RepD.cells ({ ({ session := c.session, seq := c.seq, e := 0, lease := 0, amount := 0, until_ := 0 } : RepD) with e := 18 })).toArray, .bool false]) rfl rfl rfl (zh 7 rfl rfl rfl (z8 rfl) rfl (zD rfl (zA ?_))))
      exact zM (yH (cs := (RepD.cells ({ ({ session := c.session, seq := c.seq, e := 0, lease := 0, amount := 0, until_ := 0 } : RepD) with e := 18 }))) (v := .bool false) rfl rfl rfl (by kernel_rfl) (Own.rowCells (i := 7) rfl) (fun w' hw => ⟨{ ({ session := c.session, seq := c.seq, e := 0, lease := 0, amount := 0, until_ := 0 } : RepD) with e := 18 }, false, cnt, kb, kl, kr, rfl, .inl ⟨.inr (.inr (.inl ⟨hok, by omega, by omega, rfl⟩)), rfl, rfl, rfl, rfl, rfl⟩, hw.sel [0, 1, 2, 3, 4, 5] rfl (by decide)⟩))
     ·
      have hgo : c.ok ∧ c.session ≠ 0 ∧ c.seq ≠ 0 := ⟨hok, by omega, by omega⟩
      refine zK (zFa (fun (x : RepD) (e : Int) (bx : Nat) => [(0, .pointer (some ⟨b, 0, none⟩)), (3, .pointer (some ⟨b3, 0, none⟩)), (4, .pointer (some ⟨b4, 0, none⟩)), (6, .pointer (some ⟨b6, 0, none⟩)), (7, .func (.func 24) #[] #[.pointer (some ⟨b6, 0, none⟩)]), (10, .pointer (some ⟨bx, 0, none⟩)), (11, Vi e)]) (fun (x : RepD) (e : Int) (bx : Nat) => yV kr c.session c.seq = (x, e)) (fun (x : RepD) (e : Int) (bx : Nat) => [Res.row b 66 [.pointer (some ⟨tb, 0, none⟩), .pointer (some ⟨cb, 0, none⟩), Vn idx], Res.row tb 111 [.map (some bm), .map (some lm), Vi now, Vn cnt], Res.mp Value.string yD bm kb, Res.mp yA zZ lm kl, Res.row cb 114 [.map (some rm)], Res.mp yU zq rm kr, Res.row b3 47 (CmdD.cells c), Res.row b4 43 [Vn 0, Vn 0, Vi 0, Vn 0, Vi 0, Vi 0], Res.row b6 43 [Vn c.session, Vn c.seq, Vi 0, Vn 0, Vi 0, Vi 0], Res.vec 5 1 r1_ (if c.ok then c.enc else []).length ((if c.ok then c.enc else []).map vb), Res.row bx 43 (RepD.cells x)]) ?_ (fun x e bx g hΦ => ?_))
      ·
       refine zg [0, 1, 2, 3, 6, 7, 8, 9] rfl (by decide) (by kernel_rfl) (fun w' hw hS => zF 0 rfl (zQ) hS (zF 1 rfl (z7 rfl) hS (zF 2 rfl (zi (o := 1) rfl) hS (zF 3 rfl (zo 0 (v := .pointer (some ⟨cb, 0, none⟩)) rfl rfl rfl) hS (zF 4 rfl (zi (o := 0) rfl) hS (zF 5 rfl (zo 4 (v := Vn c.session) rfl rfl rfl) hS (zF 6 rfl (zi (o := 1) rfl) hS (zF 7 rfl (zo 4 (v := Vn c.seq) rfl rfl rfl) hS (zk 8 12 ?_ ?_)))))))))
       ·
        refine zX 8 rfl hw (zJ rfl rfl (fun w' hw => (zDp cb rm kr c.session c.seq w' (hw.give [4, 5] rfl (by decide))).mono ?_))
        rintro _ w1 ⟨x2_, e3_, rfl, hf14_8, hO⟩
        refine (?_ : CL _ _ _ _ _ _ (Own w S [Res.row b 66 [.pointer (some ⟨tb, 0, none⟩), .pointer (some ⟨cb, 0, none⟩), Vn idx], Res.row tb 111 [.map (some bm), .map (some lm), Vi now, Vn cnt], Res.mp Value.string yD bm kb, Res.mp yA zZ lm kl, Res.row b3 47 (CmdD.cells c), Res.row b4 43 [Vn 0, Vn 0, Vi 0, Vn 0, Vi 0, Vi 0], Res.row b6 43 [Vn c.session, Vn c.seq, Vi 0, Vn 0, Vi 0, Vi 0], Res.vec 5 1 r1_ (if c.ok then c.enc else []).length ((if c.ok then c.enc else []).map vb), Res.row cb 114 [.map (some rm)], Res.mp yU zq rm kr])) w1 (hw.frameL [4, 5] rfl hO)
        refine zG [0, 1, 2, 3, 4, 5, 6, 7] rfl (by decide) (fun w' hw hS => zF 9 rfl (zQ) hS (zF 10 rfl (ya (vs := [.agg (RepD.cells x2_).toArray, Vi e3_]) rfl rfl) hS (zF 11 rfl (ya (vs := [.agg (RepD.cells x2_).toArray, Vi e3_]) rfl rfl) hS (zY 12 rfl hw (yF (v := .agg #[Vn 0, Vn 0, Vi 0, Vn 0, Vi 0, Vi 0]) (by kernel_rfl) rfl (fun b10 => zG [0, 1, 2, 3, 4, 5, 6, 7] rfl (by decide) (fun w' hw hS => zY 13 rfl hw (zh 10 rfl rfl rfl (z8 rfl) rfl (zG [0, 1, 2, 3, 4, 5, 6, 7] rfl (by decide) (fun w' hw hS => zF 14 rfl (yx) hS (zR ?_)))))))))))
        exact ⟨x2_, e3_, b10, ⟨rfl, rfl, rfl, rfl, rfl, rfl, rfl, trivial⟩, hf14_8, hw.sel [0, 1, 2, 3, 8, 9, 4, 5, 6, 7, 10] rfl (by decide)⟩
       ·
        refine zX 12 rfl hw (yF (v := .agg #[Vn 0, Vn 0, Vi 0, Vn 0, Vi 0, Vi 0]) (by kernel_rfl) rfl (fun b10 => zG [0, 1, 2, 3, 6, 7, 8, 9] rfl (by decide) (fun w' hw hS => zY 8 rfl hw (zJ rfl rfl (fun w' hw => (zDp cb rm kr c.session c.seq w' (hw.give [4, 5] rfl (by decide))).mono ?_)))))
        rintro _ w1 ⟨x4_, e5_, rfl, hf14_8, hO⟩
        refine (?_ : CL _ _ _ _ _ _ (Own w S [Res.row b 66 [.pointer (some ⟨tb, 0, none⟩), .pointer (some ⟨cb, 0, none⟩), Vn idx], Res.row tb 111 [.map (some bm), .map (some lm), Vi now, Vn cnt], Res.mp Value.string yD bm kb, Res.mp yA zZ lm kl, Res.row b3 47 (CmdD.cells c), Res.row b4 43 [Vn 0, Vn 0, Vi 0, Vn 0, Vi 0, Vi 0], Res.row b6 43 [Vn c.session, Vn c.seq, Vi 0, Vn 0, Vi 0, Vi 0], Res.vec 5 1 r1_ (if c.ok then c.enc else []).length ((if c.ok then c.enc else []).map vb), Res.row b10 43 [Vn 0, Vn 0, Vi 0, Vn 0, Vi 0, Vi 0], Res.row cb 114 [.map (some rm)], Res.mp yU zq rm kr])) w1 (hw.frameL [4, 5] rfl hO)
        refine zG [0, 1, 2, 3, 4, 5, 6, 7] rfl (by decide) (fun w' hw hS => zF 9 rfl (zQ) hS (zF 10 rfl (ya (vs := [.agg (RepD.cells x4_).toArray, Vi e5_]) rfl rfl) hS (zF 11 rfl (ya (vs := [.agg (RepD.cells x4_).toArray, Vi e5_]) rfl rfl) hS (zY 13 rfl hw (zh 8 rfl rfl rfl (z8 rfl) rfl (zG [0, 1, 2, 3, 4, 5, 6, 7] rfl (by decide) (fun w' hw hS => zF 14 rfl (yx) hS (zR ?_))))))))
        exact ⟨x4_, e5_, b10, ⟨rfl, rfl, rfl, rfl, rfl, rfl, rfl, trivial⟩, hf14_8, hw.sel [0, 1, 2, 3, 9, 10, 4, 5, 6, 7, 8] rfl (by decide)⟩
      have hfk := hΦ
      refine zL (zB (zC rfl (zA (zT (zB (yo rfl rfl rfl (zD rfl (zA (zU rfl (fun c6 => ?_) (fun c6 => ?_))))))))))
      ·
       refine zB (yN (cs := (RepD.cells x)) 10 rfl rfl rfl (zh 7 rfl rfl rfl (z8 rfl) rfl (zD rfl (zA ?_))))
       exact zM (yH (cs := (RepD.cells x)) (v := .bool false) rfl rfl rfl (by kernel_rfl) (Own.rowCells (i := 7) rfl) (fun w' hw => ⟨x, false, cnt, kb, kl, kr, rfl, .inl ⟨.inr (.inr (.inr ⟨hgo, by rw [hfk, c6]; show (0 : Int) ≠ 8; decide, by rw [hfk, if_pos c6]⟩)), rfl, rfl, rfl, rfl, rfl⟩, hw.sel [0, 1, 2, 3, 4, 5] rfl (by decide)⟩))
      ·
       refine zB (yo rfl rfl rfl (zD rfl (zA (zU rfl (fun c7 => ?_) (fun c7 => ?_)))))
       ·
        refine zB (zC rfl (xI (fst := []) (cap := [.pointer (some ⟨b6, 0, none⟩)]) rfl (by kernel_rfl) rfl rfl (fun w' hw => (zBR b6 ({ session := c.session, seq := c.seq, e := 0, lease := 0, amount := 0, until_ := 0 } : RepD) 18 w' (hw.give [8] rfl (by decide))).mono ?_)))
        rintro _ w1 ⟨rfl, hO⟩
        refine (?_ : CL _ _ _ _ _ _ (Own w S [Res.row b 66 [.pointer (some ⟨tb, 0, none⟩), .pointer (some ⟨cb, 0, none⟩), Vn idx], Res.row tb 111 [.map (some bm), .map (some lm), Vi now, Vn cnt], Res.mp Value.string yD bm kb, Res.mp yA zZ lm kl, Res.row cb 114 [.map (some rm)], Res.mp yU zq rm kr, Res.row b3 47 (CmdD.cells c), Res.row b4 43 [Vn 0, Vn 0, Vi 0, Vn 0, Vi 0, Vi 0], Res.vec 5 1 r1_ (if c.ok then c.enc else []).length ((if c.ok then c.enc else []).map vb), Res.row bx 43 (RepD.cells x), Res.row b6 43 (RepD.cells ({ ({ session := c.session, seq := c.seq, e := 0, lease := 0, amount := 0, until_ := 0 } : RepD) with e := 18 }))])) w1 (hw.frameL [8] rfl hO)
        refine zp (vs := [.agg (RepD.cells ({ ({ session := c.session, seq := c.seq, e := 0, lease := 0, amount := 0, until_ := 0 } : RepD) with e := 18 })).toArray, .bool false]) rfl rfl rfl (zp (vs := [.agg (RepD.cells ({ ({ session := c.session, seq := c.seq, e := 0, lease := 0, amount := 0, until_ := 0 } : RepD) with e := 18 })).toArray, .bool false]) rfl rfl rfl (zh 7 rfl rfl rfl (z8 rfl) rfl (zD rfl (zA ?_))))
        exact zM (yH (cs := (RepD.cells ({ ({ session := c.session, seq := c.seq, e := 0, lease := 0, amount := 0, until_ := 0 } : RepD) with e := 18 }))) (v := .bool false) rfl rfl rfl (by kernel_rfl) (Own.rowCells (i := 7) rfl) (fun w' hw => ⟨{ ({ session := c.session, seq := c.seq, e := 0, lease := 0, amount := 0, until_ := 0 } : RepD) with e := 18 }, false, cnt, kb, kl, kr, rfl, .inl ⟨.inr (.inr (.inr ⟨hgo, by rw [hfk, c7]; show (13 : Int) ≠ 8; decide, by rw [hfk, if_neg c6, if_pos c7]; rfl⟩)), rfl, rfl, rfl, rfl, rfl⟩, hw.sel [0, 1, 2, 3, 4, 5] rfl (by decide)⟩))
       ·
        refine zB (yo rfl rfl rfl (zD rfl (zA (zU rfl (fun c8 => ?_) (fun c8 => ?_)))))
        ·
         refine zB (zC rfl (zC rfl (xI (fst := []) (cap := [.pointer (some ⟨b6, 0, none⟩)]) rfl (by kernel_rfl) rfl rfl (fun w' hw => (zBR b6 ({ session := c.session, seq := c.seq, e := 0, lease := 0, amount := 0, until_ := 0 } : RepD) e w' (hw.give [8] rfl (by decide))).mono ?_))))
         rintro _ w1 ⟨rfl, hO⟩
         refine (?_ : CL _ _ _ _ _ _ (Own w S [Res.row b 66 [.pointer (some ⟨tb, 0, none⟩), .pointer (some ⟨cb, 0, none⟩), Vn idx], Res.row tb 111 [.map (some bm), .map (some lm), Vi now, Vn cnt], Res.mp Value.string yD bm kb, Res.mp yA zZ lm kl, Res.row cb 114 [.map (some rm)], Res.mp yU zq rm kr, Res.row b3 47 (CmdD.cells c), Res.row b4 43 [Vn 0, Vn 0, Vi 0, Vn 0, Vi 0, Vi 0], Res.vec 5 1 r1_ (if c.ok then c.enc else []).length ((if c.ok then c.enc else []).map vb), Res.row bx 43 (RepD.cells x), Res.row b6 43 (RepD.cells ({ ({ session := c.session, seq := c.seq, e := 0, lease := 0, amount := 0, until_ := 0 } : RepD) with e := e }))])) w1 (hw.frameL [8] rfl hO)
         refine zp (vs := [.agg (RepD.cells ({ ({ session := c.session, seq := c.seq, e := 0, lease := 0, amount := 0, until_ := 0 } : RepD) with e := e })).toArray, .bool false]) rfl rfl rfl (zp (vs := [.agg (RepD.cells ({ ({ session := c.session, seq := c.seq, e := 0, lease := 0, amount := 0, until_ := 0 } : RepD) with e := e })).toArray, .bool false]) rfl rfl rfl (zh 7 rfl rfl rfl (z8 rfl) rfl (zD rfl (zA ?_))))
         exact zM (yH (cs := (RepD.cells ({ ({ session := c.session, seq := c.seq, e := 0, lease := 0, amount := 0, until_ := 0 } : RepD) with e := e }))) (v := .bool false) rfl rfl rfl (by kernel_rfl) (Own.rowCells (i := 7) rfl) (fun w' hw => ⟨{ ({ session := c.session, seq := c.seq, e := 0, lease := 0, amount := 0, until_ := 0 } : RepD) with e := e }, false, cnt, kb, kl, kr, rfl, .inl ⟨.inr (.inr (.inr ⟨hgo, by rw [hfk, c8]; show (7 : Int) ≠ 8; decide, by rw [hfk, if_neg c6, if_neg c7]; rfl⟩)), rfl, rfl, rfl, rfl, rfl⟩, hw.sel [0, 1, 2, 3, 4, 5] rfl (by decide)⟩))
        ·
         refine zK (zB (zC rfl (yN (cs := (CmdD.cells c)) 6 rfl rfl rfl (zJ rfl rfl (fun w' hw => (zME b tb cb bm lm idx now cnt kb kl c w' ‹_› (by first | omega | (simp <;> omega)) (by first | omega | (simp <;> omega)) (by first | omega | (simp <;> omega)) (hw.give [0, 1, 2, 3] rfl (by decide))).mono ?_)))))
         rintro _ w1 ⟨r6_, cnt'7_, kb'8_, kl'9_, rfl, hf22_2, hO⟩
         have hrw := zKb hcw ht hc hlen hkl hf22_2
         refine (?_ : CL _ _ _ _ _ _ (Own w S [Res.row cb 114 [.map (some rm)], Res.mp yU zq rm kr, Res.row b3 47 (CmdD.cells c), Res.row b4 43 [Vn 0, Vn 0, Vi 0, Vn 0, Vi 0, Vi 0], Res.row b6 43 [Vn c.session, Vn c.seq, Vi 0, Vn 0, Vi 0, Vi 0], Res.vec 5 1 r1_ (if c.ok then c.enc else []).length ((if c.ok then c.enc else []).map vb), Res.row bx 43 (RepD.cells x), Res.row b 66 [.pointer (some ⟨tb, 0, none⟩), .pointer (some ⟨cb, 0, none⟩), Vn idx], Res.row tb 111 [.map (some bm), .map (some lm), Vi now, Vn cnt'7_], Res.mp Value.string yD bm kb'8_, Res.mp yA zZ lm kl'9_])) w1 (hw.frameL [0, 1, 2, 3] rfl hO)
         refine zh 4 rfl rfl rfl (z8 rfl) rfl (zA (zL (zg [0, 1, 2, 3, 5, 6, 7, 8, 9, 10] rfl (by decide) (by kernel_rfl) (fun w' hw hS => zF 0 rfl (zi (o := 0) rfl) hS (zF 1 rfl (zo 2 (v := Vn c.session) rfl rfl rfl) hS (zF 2 rfl (zi (o := 1) rfl) hS (zF 3 rfl (zo 2 (v := Vn c.seq) rfl rfl rfl) hS (zF 4 rfl (zi (o := 0) rfl) hS (zY 5 rfl hw (yi (cs := (RepD.cells r6_)) 4 rfl rfl rfl rfl rfl (zG [0, 1, 2, 3, 5, 6, 7, 8, 9, 10] rfl (by decide) (fun w' hw hS => zF 6 rfl (zi (o := 1) rfl) hS ?_))))))))))))
         refine zY 7 rfl hw (yi 4 rfl rfl rfl rfl rfl (zG [0, 1, 2, 3, 5, 6, 7, 8, 9, 10] rfl (by decide) (fun w' hw hS => zR ?_)))
         refine (?_ : C _ _ _ _ _ _ _ (Own w S [Res.row cb 114 [.map (some rm)], Res.mp yU zq rm kr, Res.row b3 47 (CmdD.cells c), Res.row b4 43 [Vn 0, Vn 0, Vi 0, Vn 0, Vi 0, Vi 0], Res.row b6 43 [Vn c.session, Vn c.seq, Vi r6_.e, Vn r6_.lease, Vi r6_.amount, Vi r6_.until_], Res.vec 5 1 r1_ (if c.ok then c.enc else []).length ((if c.ok then c.enc else []).map vb), Res.row bx 43 (RepD.cells x), Res.row b 66 [.pointer (some ⟨tb, 0, none⟩), .pointer (some ⟨cb, 0, none⟩), Vn idx], Res.row tb 111 [.map (some bm), .map (some lm), Vi now, Vn cnt'7_], Res.mp Value.string yD bm kb'8_, Res.mp yA zZ lm kl'9_])) _ hw
         refine zL (zg [2, 3, 4, 5, 6, 7, 8, 9, 10] rfl (by decide) (by kernel_rfl) (fun w' hw hS => zF 0 rfl (zQ) hS (zF 1 rfl (z7 rfl) hS (zF 2 rfl (zi (o := 1) rfl) hS (zF 3 rfl (zo 5 (v := .pointer (some ⟨cb, 0, none⟩)) rfl rfl rfl) hS (zF 4 rfl (kI 2 rfl rfl) hS (zY 5 rfl hw (zJ rfl rfl (fun w' hw => (zKl cb rm kr ({ r6_ with session := c.session, seq := c.seq } : RepD) w' hrw (hw.give [0, 1] rfl (by decide))).mono ?_)))))))))
         rintro _ w1 ⟨e10_, kl'11_, rfl, hf24_5, hf24_5_1, hO⟩
         refine (?_ : CL _ _ _ _ _ _ (Own w S [Res.row b3 47 (CmdD.cells c), Res.row b4 43 [Vn 0, Vn 0, Vi 0, Vn 0, Vi 0, Vi 0], Res.row b6 43 [Vn c.session, Vn c.seq, Vi r6_.e, Vn r6_.lease, Vi r6_.amount, Vi r6_.until_], Res.vec 5 1 r1_ (if c.ok then c.enc else []).length ((if c.ok then c.enc else []).map vb), Res.row bx 43 (RepD.cells x), Res.row b 66 [.pointer (some ⟨tb, 0, none⟩), .pointer (some ⟨cb, 0, none⟩), Vn idx], Res.row tb 111 [.map (some bm), .map (some lm), Vi now, Vn cnt'7_], Res.mp Value.string yD bm kb'8_, Res.mp yA zZ lm kl'9_, Res.row cb 114 [.map (some rm)], Res.mp yU zq rm kl'11_])) w1 (hw.frameL [0, 1] rfl hO)
         refine zG [0, 1, 2, 3, 4, 5, 6, 7, 8] rfl (by decide) (fun w' hw hS => zR ?_)
         refine (?_ : C _ _ _ _ _ _ _ (Own w S [Res.row b3 47 (CmdD.cells c), Res.row b4 43 [Vn 0, Vn 0, Vi 0, Vn 0, Vi 0, Vi 0], Res.row b6 43 [Vn c.session, Vn c.seq, Vi r6_.e, Vn r6_.lease, Vi r6_.amount, Vi r6_.until_], Res.vec 5 1 r1_ (if c.ok then c.enc else []).length ((if c.ok then c.enc else []).map vb), Res.row bx 43 (RepD.cells x), Res.row b 66 [.pointer (some ⟨tb, 0, none⟩), .pointer (some ⟨cb, 0, none⟩), Vn idx], Res.row tb 111 [.map (some bm), .map (some lm), Vi now, Vn cnt'7_], Res.mp Value.string yD bm kb'8_, Res.mp yA zZ lm kl'9_, Res.row cb 114 [.map (some rm)], Res.mp yU zq rm kl'11_])) _ hw
         refine zB (yN 2 rfl rfl rfl (zh 1 rfl rfl rfl (z8 rfl) rfl (zD rfl (zA ?_))))
         exact zM (yH (cs := [Vn c.session, Vn c.seq, Vi r6_.e, Vn r6_.lease, Vi r6_.amount, Vi r6_.until_]) (v := .bool true) rfl rfl rfl (by kernel_rfl) (Own.rowCells (i := 1) rfl) (fun w' hw => ⟨({ r6_ with session := c.session, seq := c.seq } : RepD), true, cnt'7_, kb'8_, kl'9_, kl'11_, rfl, .inr ⟨⟨hgo, by rw [hfk]; exact zKa hfk hgo.2 c6 c7 c8⟩, hf22_2, rfl, hf24_5_1⟩, hw.sel [5, 6, 7, 8, 9, 10] rfl (by decide)⟩))
end Go.Proofs.YthincafbmpialaaGreat
