import Derived.Test.YtcdiehplbmkmeaaGreatLedP
import Derived.Test.YtcdiehplbmkmeaaGreatQuotaW
set_option linter.unusedSectionVars false
set_option linter.unusedSimpArgs false
set_option linter.unusedVariables false
set_option maxRecDepth 10000
namespace Go.Proofs.YtcdiehplbmkmeaaGreat
open Go Go.Sc Go.Proofs
theorem zGy {p : Prop} [Decidable p] (h : yl p ≠ 0) : ¬ p := fun k => h (errOf_zero.2 k)
theorem zFT {p : Prop} [Decidable p] (h : ¬ yl p ≠ 0) : p := errOf_zero.1 (Decidable.not_not.1 h)
theorem zIu {kr : List (Nat × RepD)} {s q : Nat} {x : RepD} {e : Int} (h : zu kr s q = (x, e)) (hq : s ≠ 0 ∧ q ≠ 0) (h0 : ¬ e = 0) (h13 : ¬ e = 13) (h7 : ¬ e = 7) : e = 8 := by
  unfold zu at h
  rw [if_neg (by omega)] at h
  split at h
  · split at h <;> cases h
    · exact absurd rfl h7
    · rfl
  · split at h
    · cases h; rfl
    · split at h <;> cases h
      · exact absurd rfl h13
      · exact absurd rfl h0
def kT (x : LeaD) (e : Int) : RepD := if e ≠ 0 then ⟨0, 0, e, 0, 0, 0⟩ else ⟨0, 0, 0, x.id, x.amount, x.until_⟩
theorem zBd (c : CmdD) (x : LeaD) (e : Int) : ({ kT x e with session := c.session, seq := c.seq } : RepD) = xv c x e := by
  unfold kT xv xj
  split <;> rfl
theorem zI5 {now : Int} {cnt cnt' : Nat} {kb kb' : List (ByteArray × Int)} {kl kl' : List (Nat × LeaD)} {c : CmdD} {r : RepD} (hw : c.wf) (ht : 0 ≤ now ∧ now ≤ 2305843009213693952) (hc : cnt ≤ 1000000000) (hlen : 0 ≤ yA c.key kl ∧ yA c.key kl ≤ 9223372036854775807)
    (hkl : ∀ i l, zf i kl = some l → l.id < 18446744073709551616 ∧ yx l.amount ∧ yx l.until_) (h : zHj now cnt kb kl c r cnt' kb' kl') : r.wf := by
  rcases h with ⟨_, rfl, _⟩ | ⟨_, x, e, e1, x1, rfl, _⟩ | ⟨_, x, e, k, rfl, _⟩ | ⟨_, x, e, k, rfl, _⟩ | ⟨_, rfl, _⟩
  · refine ⟨hw.session, hw.seq, by show (0 : Nat) < _; omega, ?_, by show yx 0; unfold yx; decide⟩
    show yx (if _ then _ else _)
    unfold yx
    split <;> omega
  · by_cases h0 : e = 0
    · refine jf hw (zD0 hc hw.amount ?_ x x1)
      have hs : yM c.span := Decidable.by_contra fun q => by
        rw [zJb (.inr (.inr (.inr q)))] at e1
        rw [h0] at e1; cases e1
      unfold yM at hs
      unfold yx; omega
    · unfold xv; rw [if_pos h0]; exact y9 hw
  · by_cases h0 : e = 0
    · refine jf hw ?_
      rcases k with q | q | ⟨hs, l, hl, _, q | ⟨_, _, q, _⟩⟩
      · rw [q.2.1] at h0; cases h0
      · rw [q.2.2.1] at h0; cases h0
      · rw [q.2.1] at h0; cases h0
      · rw [q]
        have h3 := hkl _ _ hl
        refine ⟨h3.1, h3.2.1, ?_⟩
        show yx (max _ _)
        have h4 := h3.2.2
        unfold yM at hs
        unfold yx at h4 ⊢
        omega
    · unfold xv; rw [if_pos h0]; exact y9 hw
  · by_cases h0 : e = 0
    · refine jf hw ?_
      rcases k with q | ⟨l, hl, _, _, q, _⟩
      · rw [q.2.1] at h0; cases h0
      · rw [q]; exact hkl _ _ hl
    · unfold xv; rw [if_pos h0]; exact y9 hw
  · exact y9 hw
theorem zBT (x : LeaD) (e : Int) (w : World) : Rets Tryz.prog 91 #[.agg (LeaD.cells x).toArray, Vi e] w fun u_ w' => u_ = .agg (RepD.cells (kT x e)).toArray ∧ Own w [] [] w' := by
  refine ze Tryz.func91 rfl Tryz.ntmps91 (Own.start w) ?_
  refine zB (yj rfl rfl (fun b2 => yG (v := .agg #[Vn 0, Vn 0, Vi 0, Vn 0, Vi 0, Vi 0]) (by kernel_rfl) rfl (fun b4 => zA (zL (zB (zC rfl (jK rfl rfl rfl (zA (zV rfl (fun c1 => ?_) (fun c1 => ?_))))))))))
  ·
   refine zB (zC rfl (z8 (cs := [Vn 0, Vn 0, Vi e, Vn 0, Vi 0, Vi 0]) (z := [Vn 0, Vn 0, Vi 0, Vn 0, Vi 0, Vi 0]) (pl := [(0, 1), (1, 1), (2, 1), (3, 1), (4, 1), (5, 1)]) (by kernel_rfl) (by kernel_rfl) rfl (zm 1 rfl rfl rfl (zw rfl) rfl (zA ?_))))
   exact zN (zCx (cs := [Vn 0, Vn 0, Vi e, Vn 0, Vi 0, Vi 0]) rfl rfl (by kernel_rfl) (Own.rowCells (i := 1) rfl) (fun w' hw => ⟨(by unfold kT; rw [if_pos c1]; rfl), hw.drop⟩))
  ·
   refine zJ (zB (zO (o := 0) rfl rfl (zU 0 (v := Vn x.id) rfl rfl rfl rfl (zO (o := 3) rfl rfl (zU 0 (v := Vi x.amount) rfl rfl rfl rfl (zO (o := 4) rfl rfl (zU 0 (v := Vi x.until_) rfl rfl rfl rfl (z8 (cs := [Vn 0, Vn 0, Vi 0, Vn x.id, Vi x.amount, Vi x.until_]) (z := [Vn 0, Vn 0, Vi 0, Vn 0, Vi 0, Vi 0]) (pl := [(0, 1), (1, 1), (2, 1), (3, 1), (4, 1), (5, 1)]) (by kernel_rfl) (by kernel_rfl) rfl (zm 1 rfl rfl rfl (zw rfl) rfl (zA ?_))))))))))
   exact zN (zCx (cs := [Vn 0, Vn 0, Vi 0, Vn x.id, Vi x.amount, Vi x.until_]) rfl rfl (by kernel_rfl) (Own.rowCells (i := 1) rfl) (fun w' hw => ⟨(by unfold kT; rw [if_neg c1]; rfl), hw.drop⟩))
theorem zHu (w : World) : Rets Tryz.prog 32 #[] w fun u_ w' => ∃ (b tb cb bm lm rm : Nat), u_ = .pointer (some ⟨b, 0, none⟩) ∧ Own w [] [Res.row b 115 [.pointer (some ⟨tb, 0, none⟩), .pointer (some ⟨cb, 0, none⟩), Vn 0], Res.row tb 126 [.map (some bm), .map (some lm), Vi 0, Vn 0], Res.mp Value.string yE bm ([] : List (ByteArray × Int)), Res.mp yC zk lm ([] : List (Nat × LeaD)), Res.row cb 130 [.map (some rm)], Res.mp ym zx rm ([] : List (Nat × RepD))] w' := by
  refine ze Tryz.func32 rfl Tryz.ntmps32 (Own.start w) ?_
  refine zB (zH rfl (zA (zB (zQ rfl rfl (fun w' hw => (zKv w').mono ?_)))))
  rintro _ w1 ⟨b1_, bm2_, lm3_, rfl, hO⟩
  refine (?_ : CL _ _ _ _ _ _ (Own w [] [Res.row b1_ 126 [.map (some bm2_), .map (some lm3_), Vi 0, Vn 0], Res.mp Value.string yE bm2_ ([] : List (ByteArray × Int)), Res.mp yC zk lm3_ ([] : List (Nat × LeaD))])) w1 (hw.frame0 hO)
  refine zQ rfl rfl (fun w' hw => (zJ4 w').mono ?_)
  rintro _ w1 ⟨b4_, m5_, rfl, hO⟩
  refine (?_ : CL _ _ _ _ _ _ (Own w [] [Res.row b1_ 126 [.map (some bm2_), .map (some lm3_), Vi 0, Vn 0], Res.mp Value.string yE bm2_ ([] : List (ByteArray × Int)), Res.mp yC zk lm3_ ([] : List (Nat × LeaD)), Res.row b4_ 130 [.map (some m5_)], Res.mp ym zx m5_ ([] : List (Nat × RepD))])) w1 (hw.frame0 hO)
  refine z8 (cs := [.pointer (some ⟨b1_, 0, none⟩), .pointer (some ⟨b4_, 0, none⟩), Vn 0]) (z := [.pointer none, .pointer none, Vn 0]) (pl := [(0, 1), (1, 1), (2, 1)]) (by kernel_rfl) (by kernel_rfl) rfl (yj rfl rfl (fun b4 => zH rfl (zA ?_)))
  exact zN (z4 (v := .pointer (some ⟨b4, 0, none⟩)) rfl rfl (fun w' hw => ⟨b4, b1_, b4_, bm2_, lm3_, m5_, rfl, hw.sel [5, 0, 1, 2, 3, 4] rfl (by decide)⟩))
theorem zJk {S : List Nat} (b tb cb bm lm idx : Nat) (now : Int) (cnt : Nat) (kb : List (ByteArray × Int)) (kl : List (Nat × LeaD)) (c : CmdD) (w : World) (hcw : c.wf) (ht : 0 ≤ now ∧ now ≤ 2305843009213693952) (hc : cnt ≤ 1000000000) (hlen : 0 ≤ yA c.key kl ∧ yA c.key kl ≤ 9223372036854775807) (hin : Own w S [Res.row b 115 [.pointer (some ⟨tb, 0, none⟩), .pointer (some ⟨cb, 0, none⟩), Vn idx], Res.row tb 126 [.map (some bm), .map (some lm), Vi now, Vn cnt], Res.mp Value.string yE bm kb, Res.mp yC zk lm kl] w) : Rets Tryz.prog 71 #[.pointer (some ⟨b, 0, none⟩), .agg (CmdD.cells c).toArray] w fun u_ w' => ∃ (r : RepD) (cnt' : Nat) (kb' : List (ByteArray × Int)) (kl' : List (Nat × LeaD)), u_ = .agg (RepD.cells r).toArray ∧ zHj now cnt kb kl c { r with session := c.session, seq := c.seq } cnt' kb' kl' ∧ Own w S [Res.row b 115 [.pointer (some ⟨tb, 0, none⟩), .pointer (some ⟨cb, 0, none⟩), Vn idx], Res.row tb 126 [.map (some bm), .map (some lm), Vi now, Vn cnt'], Res.mp Value.string yE bm kb', Res.mp yC zk lm kl'] w' := by
  have hca := hcw.amount
  refine ze Tryz.func71 rfl Tryz.ntmps71 hin ?_
  refine zB (yj rfl rfl (fun b3 => yG (v := .agg #[Vn 0, Vn 0, Vi 0, Vn 0, Vi 0, Vi 0]) (by kernel_rfl) rfl (fun b4 => zA (zL (zB (zO (o := 2) rfl rfl (zU 4 (v := Vi c.op) rfl rfl rfl rfl (zA (zW (zB (yV rfl rfl rfl (zH rfl ?_))))))))))))
  refine zA (zV rfl (fun c1 => ?_) (fun c1 => ?_))
  ·
   refine zL (zZ [0, 4, 5] rfl (by decide) (by kernel_rfl) (fun w' hw hS => zD 0 rfl (zK) hS (zD 1 rfl (zq rfl) hS (zD 2 rfl (zc (o := 0) rfl) hS (zD 3 rfl (zl 0 (v := .pointer (some ⟨tb, 0, none⟩)) rfl rfl rfl) hS (zD 4 rfl (zc (o := 3) rfl) hS (zD 5 rfl (zl 1 (v := .string c.key) rfl rfl rfl) hS (zD 6 rfl (zc (o := 4) rfl) hS (zD 7 rfl (zl 1 (v := Vi c.amount) rfl rfl rfl) hS (zX 8 rfl hw (zQ rfl rfl (fun w' hw => (zLe tb bm lm now cnt kb kl c.key c.amount w' (hw.give [1, 2, 3] rfl (by decide))).mono ?_))))))))))))
   rintro _ w1 ⟨n1_, e2_, kb'3_, rfl, hf3_8, hf3_8_1, hf3_8_2, hO⟩
   refine (?_ : CL _ _ _ _ _ _ (Own w S [Res.row b 115 [.pointer (some ⟨tb, 0, none⟩), .pointer (some ⟨cb, 0, none⟩), Vn idx], Res.row b3 54 (CmdD.cells c), Res.row b4 50 [Vn 0, Vn 0, Vi 0, Vn 0, Vi 0, Vi 0], Res.row tb 126 [.map (some bm), .map (some lm), Vi now, Vn cnt], Res.mp Value.string yE bm kb'3_, Res.mp yC zk lm kl])) w1 (hw.frameL [1, 2, 3] rfl hO)
   refine zE [0, 1, 2] rfl (by decide) (fun w' hw hS => zD 9 rfl (zK) hS (zD 10 rfl (yS (vs := [Vi n1_, Vi e2_]) rfl rfl) hS (zD 11 rfl (yS (vs := [Vi n1_, Vi e2_]) rfl rfl) hS (zD 12 rfl (y8) hS (zD 13 rfl (y8) hS (zM ?_))))))
   refine (?_ : C _ _ _ _ _ _ _ (Own w S [Res.row b 115 [.pointer (some ⟨tb, 0, none⟩), .pointer (some ⟨cb, 0, none⟩), Vn idx], Res.row b3 54 (CmdD.cells c), Res.row b4 50 [Vn 0, Vn 0, Vi 0, Vn 0, Vi 0, Vi 0], Res.row tb 126 [.map (some bm), .map (some lm), Vi now, Vn cnt], Res.mp Value.string yE bm kb'3_, Res.mp yC zk lm kl])) _ hw
   refine zB (zC rfl (zC rfl (z8 (cs := [Vn 0, Vn 0, Vi e2_, Vn 0, Vi n1_, Vi 0]) (z := [Vn 0, Vn 0, Vi 0, Vn 0, Vi 0, Vi 0]) (pl := [(0, 1), (1, 1), (2, 1), (3, 1), (4, 1), (5, 1)]) (by kernel_rfl) (by kernel_rfl) rfl (zm 2 rfl rfl rfl (zw rfl) rfl (zA ?_)))))
   exact zN (zCx (cs := [Vn 0, Vn 0, Vi e2_, Vn 0, Vi n1_, Vi 0]) rfl rfl (by kernel_rfl) (Own.rowCells (i := 2) rfl) (fun w' hw => ⟨({ session := 0, seq := 0, e := e2_, lease := 0, amount := n1_, until_ := 0 } : RepD), cnt, kb'3_, kl, rfl, .inl ⟨c1, by rw [hf3_8_2, hf3_8]; rfl, rfl, hf3_8_1, rfl⟩, hw.sel [0, 3, 4, 5] rfl (by decide)⟩))
  ·
   refine zB (yV rfl rfl rfl (zH rfl (zA (zV rfl (fun c2 => ?_) (fun c2 => ?_)))))
   ·
    refine zL (zZ [0, 4] rfl (by decide) (by kernel_rfl) (fun w' hw hS => zD 0 rfl (zK) hS (zD 1 rfl (zq rfl) hS (zD 2 rfl (zc (o := 0) rfl) hS (zD 3 rfl (zl 0 (v := .pointer (some ⟨tb, 0, none⟩)) rfl rfl rfl) hS (zD 4 rfl (zc (o := 0) rfl) hS (zD 5 rfl (zl 1 (v := Vn c.session) rfl rfl rfl) hS (zD 6 rfl (zc (o := 3) rfl) hS (zD 7 rfl (zl 1 (v := .string c.key) rfl rfl rfl) hS (zD 8 rfl (zc (o := 4) rfl) hS (zD 9 rfl (zl 1 (v := Vi c.amount) rfl rfl rfl) hS (zD 10 rfl (zc (o := 5) rfl) hS ?_))))))))))))
    refine zD 11 rfl (zl 1 (v := Vi c.span) rfl rfl rfl) hS (zX 12 rfl hw (zQ rfl rfl (fun w' hw => (zKZ tb bm lm now cnt kb kl c.session c.key c.amount c.span w' (by first | omega | (simp <;> omega)) ‹_› (by first | omega | (simp <;> omega)) (by first | omega | (simp <;> omega)) (hw.give [1, 2, 3] rfl (by decide))).mono ?_)))
    rintro _ w1 ⟨x4_, e5_, cnt'6_, kl'7_, rfl, hf6_12, hf6_12_1, hf6_12_2, hf6_12_3, hO⟩
    refine (?_ : CL _ _ _ _ _ _ (Own w S [Res.row b 115 [.pointer (some ⟨tb, 0, none⟩), .pointer (some ⟨cb, 0, none⟩), Vn idx], Res.row b3 54 (CmdD.cells c), Res.row b4 50 [Vn 0, Vn 0, Vi 0, Vn 0, Vi 0, Vi 0], Res.row tb 126 [.map (some bm), .map (some lm), Vi now, Vn cnt'6_], Res.mp Value.string yE bm kb, Res.mp yC zk lm kl'7_])) w1 (hw.frameL [1, 2, 3] rfl hO)
    refine zE [0, 1] rfl (by decide) (fun w' hw hS => zD 13 rfl (yS (vs := [.agg (LeaD.cells x4_).toArray, Vi e5_]) rfl rfl) hS (zD 14 rfl (yS (vs := [.agg (LeaD.cells x4_).toArray, Vi e5_]) rfl rfl) hS (zX 15 rfl hw (zQ rfl rfl (fun w' hw => (zBT x4_ e5_ w').mono ?_)))))
    rintro _ w1 ⟨rfl, hO⟩
    refine (?_ : CL _ _ _ _ _ _ (Own w S [Res.row b 115 [.pointer (some ⟨tb, 0, none⟩), .pointer (some ⟨cb, 0, none⟩), Vn idx], Res.row b3 54 (CmdD.cells c), Res.row b4 50 [Vn 0, Vn 0, Vi 0, Vn 0, Vi 0, Vi 0], Res.row tb 126 [.map (some bm), .map (some lm), Vi now, Vn cnt'6_], Res.mp Value.string yE bm kb, Res.mp yC zk lm kl'7_])) w1 (hw.frame0 hO)
    refine zE [0, 1] rfl (by decide) (fun w' hw hS => zX 16 rfl hw (zm 2 rfl rfl rfl (zw rfl) rfl (zE [0, 1] rfl (by decide) (fun w' hw hS => zM ?_))))
    refine (?_ : C _ _ _ _ _ _ _ (Own w S [Res.row b 115 [.pointer (some ⟨tb, 0, none⟩), .pointer (some ⟨cb, 0, none⟩), Vn idx], Res.row b3 54 (CmdD.cells c), Res.row b4 50 (RepD.cells (kT x4_ e5_)), Res.row tb 126 [.map (some bm), .map (some lm), Vi now, Vn cnt'6_], Res.mp Value.string yE bm kb, Res.mp yC zk lm kl'7_])) _ hw
    exact zN (zCx (cs := (RepD.cells (kT x4_ e5_))) rfl rfl (by kernel_rfl) (Own.rowCells (i := 2) rfl) (fun w' hw => ⟨(kT x4_ e5_), cnt'6_, kb, kl'7_, rfl, .inr (.inl ⟨c2, x4_, e5_, hf6_12, hf6_12_1, zBd _ _ _, hf6_12_2, rfl, hf6_12_3⟩), hw.sel [0, 3, 4, 5] rfl (by decide)⟩))
   ·
    refine zB (yV rfl rfl rfl (zH rfl (zA (zV rfl (fun c3 => ?_) (fun c3 => ?_)))))
    ·
     refine zL (zZ [0, 4] rfl (by decide) (by kernel_rfl) (fun w' hw hS => zD 0 rfl (zK) hS (zD 1 rfl (zq rfl) hS (zD 2 rfl (zc (o := 0) rfl) hS (zD 3 rfl (zl 0 (v := .pointer (some ⟨tb, 0, none⟩)) rfl rfl rfl) hS (zD 4 rfl (zc (o := 0) rfl) hS (zD 5 rfl (zl 1 (v := Vn c.session) rfl rfl rfl) hS (zD 6 rfl (zc (o := 6) rfl) hS (zD 7 rfl (zl 1 (v := Vn c.lease) rfl rfl rfl) hS (zD 8 rfl (zc (o := 5) rfl) hS (zD 9 rfl (zl 1 (v := Vi c.span) rfl rfl rfl) hS (zX 10 rfl hw ?_))))))))))))
     refine zQ rfl rfl (fun w' hw => (zIk tb bm lm now cnt kb kl c.session c.lease c.span w' (by first | omega | (simp <;> omega)) (hw.give [1, 2, 3] rfl (by decide))).mono ?_)
     rintro _ w1 ⟨x8_, e9_, kl'10_, rfl, hf8_10, hO⟩
     refine (?_ : CL _ _ _ _ _ _ (Own w S [Res.row b 115 [.pointer (some ⟨tb, 0, none⟩), .pointer (some ⟨cb, 0, none⟩), Vn idx], Res.row b3 54 (CmdD.cells c), Res.row b4 50 [Vn 0, Vn 0, Vi 0, Vn 0, Vi 0, Vi 0], Res.row tb 126 [.map (some bm), .map (some lm), Vi now, Vn cnt], Res.mp Value.string yE bm kb, Res.mp yC zk lm kl'10_])) w1 (hw.frameL [1, 2, 3] rfl hO)
     refine zE [0, 1] rfl (by decide) (fun w' hw hS => zD 11 rfl (yS (vs := [.agg (LeaD.cells x8_).toArray, Vi e9_]) rfl rfl) hS (zD 12 rfl (yS (vs := [.agg (LeaD.cells x8_).toArray, Vi e9_]) rfl rfl) hS (zX 13 rfl hw (zQ rfl rfl (fun w' hw => (zBT x8_ e9_ w').mono ?_)))))
     rintro _ w1 ⟨rfl, hO⟩
     refine (?_ : CL _ _ _ _ _ _ (Own w S [Res.row b 115 [.pointer (some ⟨tb, 0, none⟩), .pointer (some ⟨cb, 0, none⟩), Vn idx], Res.row b3 54 (CmdD.cells c), Res.row b4 50 [Vn 0, Vn 0, Vi 0, Vn 0, Vi 0, Vi 0], Res.row tb 126 [.map (some bm), .map (some lm), Vi now, Vn cnt], Res.mp Value.string yE bm kb, Res.mp yC zk lm kl'10_])) w1 (hw.frame0 hO)
     refine zE [0, 1] rfl (by decide) (fun w' hw hS => zX 14 rfl hw (zm 2 rfl rfl rfl (zw rfl) rfl (zE [0, 1] rfl (by decide) (fun w' hw hS => zM ?_))))
     refine (?_ : C _ _ _ _ _ _ _ (Own w S [Res.row b 115 [.pointer (some ⟨tb, 0, none⟩), .pointer (some ⟨cb, 0, none⟩), Vn idx], Res.row b3 54 (CmdD.cells c), Res.row b4 50 (RepD.cells (kT x8_ e9_)), Res.row tb 126 [.map (some bm), .map (some lm), Vi now, Vn cnt], Res.mp Value.string yE bm kb, Res.mp yC zk lm kl'10_])) _ hw
     exact zN (zCx (cs := (RepD.cells (kT x8_ e9_))) rfl rfl (by kernel_rfl) (Own.rowCells (i := 2) rfl) (fun w' hw => ⟨(kT x8_ e9_), cnt, kb, kl'10_, rfl, .inr (.inr (.inl ⟨c3, x8_, e9_, hf8_10, zBd _ _ _, rfl, rfl⟩)), hw.sel [0, 3, 4, 5] rfl (by decide)⟩))
    ·
     refine zB (yV rfl rfl rfl (zH rfl (zA (zV rfl (fun c4 => ?_) (fun c4 => ?_)))))
     ·
      refine zL (zZ [0, 2, 4] rfl (by decide) (by kernel_rfl) (fun w' hw hS => zD 0 rfl (zK) hS (zD 1 rfl (zq rfl) hS (zD 2 rfl (zc (o := 0) rfl) hS (zD 3 rfl (zl 0 (v := .pointer (some ⟨tb, 0, none⟩)) rfl rfl rfl) hS (zD 4 rfl (zc (o := 0) rfl) hS (zD 5 rfl (zl 2 (v := Vn c.session) rfl rfl rfl) hS (zD 6 rfl (zc (o := 6) rfl) hS (zD 7 rfl (zl 2 (v := Vn c.lease) rfl rfl rfl) hS (zX 8 rfl hw (zQ rfl rfl (fun w' hw => (zKh tb bm lm now cnt kl c.session c.lease w' (hw.give [1, 3] rfl (by decide))).mono ?_))))))))))))
      rintro _ w1 ⟨x11_, e12_, kl'13_, rfl, hf10_8, hO⟩
      refine (?_ : CL _ _ _ _ _ _ (Own w S [Res.row b 115 [.pointer (some ⟨tb, 0, none⟩), .pointer (some ⟨cb, 0, none⟩), Vn idx], Res.mp Value.string yE bm kb, Res.row b3 54 (CmdD.cells c), Res.row b4 50 [Vn 0, Vn 0, Vi 0, Vn 0, Vi 0, Vi 0], Res.row tb 126 [.map (some bm), .map (some lm), Vi now, Vn cnt], Res.mp yC zk lm kl'13_])) w1 (hw.frameL [1, 3] rfl hO)
      refine zE [0, 1, 2] rfl (by decide) (fun w' hw hS => zD 9 rfl (yS (vs := [.agg (LeaD.cells x11_).toArray, Vi e12_]) rfl rfl) hS (zD 10 rfl (yS (vs := [.agg (LeaD.cells x11_).toArray, Vi e12_]) rfl rfl) hS (zX 11 rfl hw (zQ rfl rfl (fun w' hw => (zBT x11_ e12_ w').mono ?_)))))
      rintro _ w1 ⟨rfl, hO⟩
      refine (?_ : CL _ _ _ _ _ _ (Own w S [Res.row b 115 [.pointer (some ⟨tb, 0, none⟩), .pointer (some ⟨cb, 0, none⟩), Vn idx], Res.mp Value.string yE bm kb, Res.row b3 54 (CmdD.cells c), Res.row b4 50 [Vn 0, Vn 0, Vi 0, Vn 0, Vi 0, Vi 0], Res.row tb 126 [.map (some bm), .map (some lm), Vi now, Vn cnt], Res.mp yC zk lm kl'13_])) w1 (hw.frame0 hO)
      refine zE [0, 1, 2] rfl (by decide) (fun w' hw hS => zX 12 rfl hw (zm 3 rfl rfl rfl (zw rfl) rfl (zE [0, 1, 2] rfl (by decide) (fun w' hw hS => zM ?_))))
      refine (?_ : C _ _ _ _ _ _ _ (Own w S [Res.row b 115 [.pointer (some ⟨tb, 0, none⟩), .pointer (some ⟨cb, 0, none⟩), Vn idx], Res.mp Value.string yE bm kb, Res.row b3 54 (CmdD.cells c), Res.row b4 50 (RepD.cells (kT x11_ e12_)), Res.row tb 126 [.map (some bm), .map (some lm), Vi now, Vn cnt], Res.mp yC zk lm kl'13_])) _ hw
      exact zN (zCx (cs := (RepD.cells (kT x11_ e12_))) rfl rfl (by kernel_rfl) (Own.rowCells (i := 3) rfl) (fun w' hw => ⟨(kT x11_ e12_), cnt, kb, kl'13_, rfl, .inr (.inr (.inr (.inl ⟨c4, x11_, e12_, hf10_8, zBd _ _ _, rfl, rfl⟩))), hw.sel [0, 4, 1, 5] rfl (by decide)⟩))
     ·
      refine zJ (zB (z8 (cs := [Vn 0, Vn 0, Vi 0, Vn 0, Vi 0, Vi 0]) (z := [Vn 0, Vn 0, Vi 0, Vn 0, Vi 0, Vi 0]) (pl := [(0, 1), (1, 1), (2, 1), (3, 1), (4, 1), (5, 1)]) (by kernel_rfl) (by kernel_rfl) rfl (zm 5 rfl rfl rfl (zw rfl) rfl (zA ?_))))
      exact zN (zCx (cs := [Vn 0, Vn 0, Vi 0, Vn 0, Vi 0, Vi 0]) rfl rfl (by kernel_rfl) (Own.rowCells (i := 5) rfl) (fun w' hw => ⟨({ session := 0, seq := 0, e := 0, lease := 0, amount := 0, until_ := 0 } : RepD), cnt, kb, kl, rfl, .inr (.inr (.inr (.inr ⟨⟨⟨c1, c2⟩, c3, c4⟩, rfl, rfl, rfl, rfl⟩))), hw.sel [0, 1, 2, 3] rfl (by decide)⟩))
theorem zAi {S : List Nat} (rb : Nat) (x : RepD) (er : Int) (w : World) (hin : Own w S [Res.row rb 50 (RepD.cells x)] w) : Rets Tryz.prog 69 #[Vi er, .pointer (some ⟨rb, 0, none⟩)] w fun u_ w' => u_ = .tuple #[.agg (RepD.cells ({ x with e := er })).toArray, .bool false] ∧ Own w S [Res.row rb 50 (RepD.cells ({ x with e := er }))] w' := by
  refine ze Tryz.func69 rfl Tryz.ntmps69 hin ?_
  refine zB (yG (v := .agg #[Vn 0, Vn 0, Vi 0, Vn 0, Vi 0, Vi 0]) (by kernel_rfl) rfl (fun b3 => zH rfl (zA (zB (zC rfl (zO (o := 2) rfl rfl (yn (cs := (RepD.cells x)) 0 rfl rfl rfl rfl rfl (zA (zB (yN 0 rfl rfl rfl (zm 1 rfl rfl rfl (zw rfl) rfl (zH rfl ?_))))))))))))
  refine zA ?_
  exact zN (zy (cs := [Vn x.session, Vn x.seq, Vi er, Vn x.lease, Vi x.amount, Vi x.until_]) (v := .bool false) rfl rfl rfl (by kernel_rfl) (Own.rowCells (i := 1) rfl) (fun w' hw => ⟨rfl, hw.sel [0] rfl (by decide)⟩))
theorem zJV {S : List Nat} (b tb cb bm lm rm idx : Nat) (now : Int) (cnt : Nat) (kb : List (ByteArray × Int)) (kl : List (Nat × LeaD)) (kr : List (Nat × RepD)) (c : CmdD) (w : World) (hcw : c.wf) (ht : 0 ≤ now ∧ now ≤ 2305843009213693952) (hc : cnt ≤ 1000000000) (hlen : 0 ≤ yA c.key kl ∧ yA c.key kl ≤ 9223372036854775807) (hkl : ∀ i l, zf i kl = some l → l.id < 18446744073709551616 ∧ yx l.amount ∧ yx l.until_) (hin : Own w S [Res.row b 115 [.pointer (some ⟨tb, 0, none⟩), .pointer (some ⟨cb, 0, none⟩), Vn idx], Res.row tb 126 [.map (some bm), .map (some lm), Vi now, Vn cnt], Res.mp Value.string yE bm kb, Res.mp yC zk lm kl, Res.row cb 130 [.map (some rm)], Res.mp ym zx rm kr] w) : Rets Tryz.prog 54 #[.pointer (some ⟨b, 0, none⟩), .agg (CmdD.cells c).toArray] w fun u_ w' => ∃ (r : RepD) (did : Bool) (cnt' : Nat) (kb' : List (ByteArray × Int)) (kl' : List (Nat × LeaD)) (kr' : List (Nat × RepD)), u_ = .tuple #[.agg (RepD.cells r).toArray, .bool did] ∧ DoK now cnt kb kl kr c r did cnt' kb' kl' kr' ∧ Own w S [Res.row b 115 [.pointer (some ⟨tb, 0, none⟩), .pointer (some ⟨cb, 0, none⟩), Vn idx], Res.row tb 126 [.map (some bm), .map (some lm), Vi now, Vn cnt'], Res.mp Value.string yE bm kb', Res.mp yC zk lm kl', Res.row cb 130 [.map (some rm)], Res.mp ym zx rm kr'] w' := by
  refine ze Tryz.func54 rfl Tryz.ntmps54 hin ?_
  refine zB (yj rfl rfl (fun b3 => yG (v := .agg #[Vn 0, Vn 0, Vi 0, Vn 0, Vi 0, Vi 0]) (by kernel_rfl) rfl (fun b4 => zH rfl (zA (zB (zO (o := 0) rfl rfl (zU 6 (v := Vn c.session) rfl rfl rfl rfl (zO (o := 1) rfl rfl (zU 6 (v := Vn c.seq) rfl rfl rfl rfl (z8 (cs := [Vn c.session, Vn c.seq, Vi 0, Vn 0, Vi 0, Vi 0]) (z := [Vn 0, Vn 0, Vi 0, Vn 0, Vi 0, Vi 0]) (pl := [(0, 1), (1, 1), (2, 1), (3, 1), (4, 1), (5, 1)]) (by kernel_rfl) (by kernel_rfl) rfl (yG (v := .agg #[Vn 0, Vn 0, Vi 0, Vn 0, Vi 0, Vi 0]) (by kernel_rfl) rfl (fun b6 => zm 8 rfl rfl rfl (zw rfl) rfl ?_))))))))))))
  refine zA (zB (zMI (va := []) (vb := [.pointer (some ⟨b6, 0, none⟩)]) rfl rfl rfl (zH rfl (zA (zL (zB (zC rfl (xk (by kernel_rfl) rfl rfl rfl (zA (xt rfl (zJ (zL ?_))))))))))))
  refine zB (yN (cs := (CmdD.cells c)) 6 rfl rfl rfl (zQ rfl rfl (fun w' hw => (zAT c w' ‹_›).mono ?_)))
  rintro _ w1 ⟨r1_, rfl, hO⟩
  refine (?_ : CL _ _ _ _ _ _ (Own w S [Res.row b 115 [.pointer (some ⟨tb, 0, none⟩), .pointer (some ⟨cb, 0, none⟩), Vn idx], Res.row tb 126 [.map (some bm), .map (some lm), Vi now, Vn cnt], Res.mp Value.string yE bm kb, Res.mp yC zk lm kl, Res.row cb 130 [.map (some rm)], Res.mp ym zx rm kr, Res.row b3 54 (CmdD.cells c), Res.row b4 50 [Vn 0, Vn 0, Vi 0, Vn 0, Vi 0, Vi 0], Res.row b6 50 [Vn c.session, Vn c.seq, Vi 0, Vn 0, Vi 0, Vi 0], Res.vec 5 1 r1_ (if c.ok then c.enc else []).length ((if c.ok then c.enc else []).map vb)])) w1 (hw.frame0 hO)
  refine zC rfl (zr (vs := [r1_, Vi (yl c.ok)]) rfl rfl rfl (zr (vs := [r1_, Vi (yl c.ok)]) rfl rfl rfl (zH rfl (zH rfl (zA (zB (zC rfl (jK rfl rfl rfl (zA (zV rfl (fun c2 => ?_) (fun c2 => ?_)))))))))))
  ·
   have hno := zGy c2
   refine zB (zC rfl (x8 (fst := []) (cap := [.pointer (some ⟨b6, 0, none⟩)]) rfl (by kernel_rfl) rfl rfl (fun w' hw => (zAi b6 ({ session := c.session, seq := c.seq, e := 0, lease := 0, amount := 0, until_ := 0 } : RepD) 2 w' (hw.give [8] rfl (by decide))).mono ?_)))
   rintro _ w1 ⟨rfl, hO⟩
   refine (?_ : CL _ _ _ _ _ _ (Own w S [Res.row b 115 [.pointer (some ⟨tb, 0, none⟩), .pointer (some ⟨cb, 0, none⟩), Vn idx], Res.row tb 126 [.map (some bm), .map (some lm), Vi now, Vn cnt], Res.mp Value.string yE bm kb, Res.mp yC zk lm kl, Res.row cb 130 [.map (some rm)], Res.mp ym zx rm kr, Res.row b3 54 (CmdD.cells c), Res.row b4 50 [Vn 0, Vn 0, Vi 0, Vn 0, Vi 0, Vi 0], Res.vec 5 1 r1_ (if c.ok then c.enc else []).length ((if c.ok then c.enc else []).map vb), Res.row b6 50 (RepD.cells ({ ({ session := c.session, seq := c.seq, e := 0, lease := 0, amount := 0, until_ := 0 } : RepD) with e := 2 }))])) w1 (hw.frameL [8] rfl hO)
   refine zr (vs := [.agg (RepD.cells ({ ({ session := c.session, seq := c.seq, e := 0, lease := 0, amount := 0, until_ := 0 } : RepD) with e := 2 })).toArray, .bool false]) rfl rfl rfl (zr (vs := [.agg (RepD.cells ({ ({ session := c.session, seq := c.seq, e := 0, lease := 0, amount := 0, until_ := 0 } : RepD) with e := 2 })).toArray, .bool false]) rfl rfl rfl (zm 7 rfl rfl rfl (zw rfl) rfl (zH rfl (zA ?_))))
   exact zN (zy (cs := (RepD.cells ({ ({ session := c.session, seq := c.seq, e := 0, lease := 0, amount := 0, until_ := 0 } : RepD) with e := 2 }))) (v := .bool false) rfl rfl rfl (by kernel_rfl) (Own.rowCells (i := 7) rfl) (fun w' hw => ⟨{ ({ session := c.session, seq := c.seq, e := 0, lease := 0, amount := 0, until_ := 0 } : RepD) with e := 2 }, false, cnt, kb, kl, kr, rfl, .inl ⟨.inl ⟨hno, rfl⟩, rfl, rfl, rfl, rfl, rfl⟩, hw.sel [0, 1, 2, 3, 4, 5] rfl (by decide)⟩))
  ·
   have hok := zFT c2
   refine zJ (zL (zW (zB (zO (o := 0) rfl rfl (zU 6 (v := Vn c.session) rfl rfl rfl rfl (yV rfl rfl rfl (zC rfl (yD (q := ((c.session : Nat) : Int) = ((0 : Nat) : Int)) 3 3 [42, 41, 40] (c.op = 5) rfl rfl rfl rfl rfl rfl trivial rfl (fun h8_3 => ?_) (fun g8_7 => ?_)))))))))
   ·
    refine zR rfl (gT h8_3) (zO (o := 2) rfl rfl (zR rfl (gT h8_3) (zU 6 (v := Vi c.op) rfl rfl rfl rfl (zR rfl (gT h8_3) (yV rfl rfl rfl ?_)))))
    exact yH rfl (fun _ hw => hw)
   refine zH rfl (zA (zV rfl (fun c3 => ?_) (fun c3 => ?_)))
   ·
    refine zB (yN (cs := [Vn c.session, Vn c.seq, Vi 0, Vn 0, Vi 0, Vi 0]) 8 rfl rfl rfl (zm 7 rfl rfl rfl (zw rfl) rfl (zH rfl (zA ?_))))
    exact zN (zy (cs := [Vn c.session, Vn c.seq, Vi 0, Vn 0, Vi 0, Vi 0]) (v := .bool false) rfl rfl rfl (by kernel_rfl) (Own.rowCells (i := 7) rfl) (fun w' hw => ⟨({ session := c.session, seq := c.seq, e := 0, lease := 0, amount := 0, until_ := 0 } : RepD), false, cnt, kb, kl, kr, rfl, .inl ⟨.inr (.inl ⟨hok, by omega, by rw [if_pos c3.2]; rfl⟩), rfl, rfl, rfl, rfl, rfl⟩, hw.sel [0, 1, 2, 3, 4, 5] rfl (by decide)⟩))
   ·
    refine zB (zO (o := 0) rfl rfl (zU 6 (v := Vn c.session) rfl rfl rfl rfl (yV rfl rfl rfl (zH rfl (zA (zV rfl (fun c4 => ?_) (fun c4 => ?_)))))))
    ·
     refine zB (zC rfl (x8 (fst := []) (cap := [.pointer (some ⟨b6, 0, none⟩)]) rfl (by kernel_rfl) rfl rfl (fun w' hw => (zAi b6 ({ session := c.session, seq := c.seq, e := 0, lease := 0, amount := 0, until_ := 0 } : RepD) 1 w' (hw.give [8] rfl (by decide))).mono ?_)))
     rintro _ w1 ⟨rfl, hO⟩
     refine (?_ : CL _ _ _ _ _ _ (Own w S [Res.row b 115 [.pointer (some ⟨tb, 0, none⟩), .pointer (some ⟨cb, 0, none⟩), Vn idx], Res.row tb 126 [.map (some bm), .map (some lm), Vi now, Vn cnt], Res.mp Value.string yE bm kb, Res.mp yC zk lm kl, Res.row cb 130 [.map (some rm)], Res.mp ym zx rm kr, Res.row b3 54 (CmdD.cells c), Res.row b4 50 [Vn 0, Vn 0, Vi 0, Vn 0, Vi 0, Vi 0], Res.vec 5 1 r1_ (if c.ok then c.enc else []).length ((if c.ok then c.enc else []).map vb), Res.row b6 50 (RepD.cells ({ ({ session := c.session, seq := c.seq, e := 0, lease := 0, amount := 0, until_ := 0 } : RepD) with e := 1 }))])) w1 (hw.frameL [8] rfl hO)
     refine zr (vs := [.agg (RepD.cells ({ ({ session := c.session, seq := c.seq, e := 0, lease := 0, amount := 0, until_ := 0 } : RepD) with e := 1 })).toArray, .bool false]) rfl rfl rfl (zr (vs := [.agg (RepD.cells ({ ({ session := c.session, seq := c.seq, e := 0, lease := 0, amount := 0, until_ := 0 } : RepD) with e := 1 })).toArray, .bool false]) rfl rfl rfl (zm 7 rfl rfl rfl (zw rfl) rfl (zH rfl (zA ?_))))
     exact zN (zy (cs := (RepD.cells ({ ({ session := c.session, seq := c.seq, e := 0, lease := 0, amount := 0, until_ := 0 } : RepD) with e := 1 }))) (v := .bool false) rfl rfl rfl (by kernel_rfl) (Own.rowCells (i := 7) rfl) (fun w' hw => ⟨{ ({ session := c.session, seq := c.seq, e := 0, lease := 0, amount := 0, until_ := 0 } : RepD) with e := 1 }, false, cnt, kb, kl, kr, rfl, .inl ⟨.inr (.inl ⟨hok, by omega, by rw [if_neg fun q => c3 ⟨c4, q⟩]; rfl⟩), rfl, rfl, rfl, rfl, rfl⟩, hw.sel [0, 1, 2, 3, 4, 5] rfl (by decide)⟩))
    ·
     refine zB (zO (o := 1) rfl rfl (zU 6 (v := Vn c.seq) rfl rfl rfl rfl (yV rfl rfl rfl (zH rfl (zA (zV rfl (fun c5 => ?_) (fun c5 => ?_)))))))
     ·
      refine zB (zC rfl (x8 (fst := []) (cap := [.pointer (some ⟨b6, 0, none⟩)]) rfl (by kernel_rfl) rfl rfl (fun w' hw => (zAi b6 ({ session := c.session, seq := c.seq, e := 0, lease := 0, amount := 0, until_ := 0 } : RepD) 18 w' (hw.give [8] rfl (by decide))).mono ?_)))
      rintro _ w1 ⟨rfl, hO⟩
      refine (?_ : CL _ _ _ _ _ _ (Own w S [Res.row b 115 [.pointer (some ⟨tb, 0, none⟩), .pointer (some ⟨cb, 0, none⟩), Vn idx], Res.row tb 126 [.map (some bm), .map (some lm), Vi now, Vn cnt], Res.mp Value.string yE bm kb, Res.mp yC zk lm kl, Res.row cb 130 [.map (some rm)], Res.mp ym zx rm kr, Res.row b3 54 (CmdD.cells c), Res.row b4 50 [Vn 0, Vn 0, Vi 0, Vn 0, Vi 0, Vi 0], Res.vec 5 1 r1_ (if c.ok then c.enc else []).length ((if c.ok then c.enc else []).map vb), Res.row b6 50 (RepD.cells ({ ({ session := c.session, seq := c.seq, e := 0, lease := 0, amount := 0, until_ := 0 } : RepD) with e := 18 }))])) w1 (hw.frameL [8] rfl hO)
      refine zr (vs := [.agg (RepD.cells ({ ({ session := c.session, seq := c.seq, e := 0, lease := 0, amount := 0, until_ := 0 } : RepD) with e := 18 })).toArray, .bool false]) rfl rfl rfl (zr (vs := [.agg (RepD.cells ({ ({ session := c.session, seq := c.seq, e := 0, lease := 0, amount := 0, until_ := 0 } : RepD) with e := 18 })).toArray, .bool false]) rfl rfl rfl (zm 7 rfl rfl rfl (zw rfl) rfl (zH rfl (zA ?_))))
      exact zN (zy (cs := (RepD.cells ({ ({ session := c.session, seq := c.seq, e := 0, lease := 0, amount := 0, until_ := 0 } : RepD) with e := 18 }))) (v := .bool false) rfl rfl rfl (by kernel_rfl) (Own.rowCells (i := 7) rfl) (fun w' hw => ⟨{ ({ session := c.session, seq := c.seq, e := 0, lease := 0, amount := 0, until_ := 0 } : RepD) with e := 18 }, false, cnt, kb, kl, kr, rfl, .inl ⟨.inr (.inr (.inl ⟨hok, by omega, by omega, rfl⟩)), rfl, rfl, rfl, rfl, rfl⟩, hw.sel [0, 1, 2, 3, 4, 5] rfl (by decide)⟩))
     ·
      have hgo : c.ok ∧ c.session ≠ 0 ∧ c.seq ≠ 0 := ⟨hok, by omega, by omega⟩
      refine zJ (zEj (fun (x : RepD) (e : Int) (bx : Nat) => [(0, .pointer (some ⟨b, 0, none⟩)), (3, .pointer (some ⟨b3, 0, none⟩)), (4, .pointer (some ⟨b4, 0, none⟩)), (6, .pointer (some ⟨b6, 0, none⟩)), (7, .func (.func 69) #[] #[.pointer (some ⟨b6, 0, none⟩)]), (10, .pointer (some ⟨bx, 0, none⟩)), (11, Vi e)]) (fun (x : RepD) (e : Int) (bx : Nat) => zu kr c.session c.seq = (x, e)) (fun (x : RepD) (e : Int) (bx : Nat) => [Res.row b 115 [.pointer (some ⟨tb, 0, none⟩), .pointer (some ⟨cb, 0, none⟩), Vn idx], Res.row tb 126 [.map (some bm), .map (some lm), Vi now, Vn cnt], Res.mp Value.string yE bm kb, Res.mp yC zk lm kl, Res.row cb 130 [.map (some rm)], Res.mp ym zx rm kr, Res.row b3 54 (CmdD.cells c), Res.row b4 50 [Vn 0, Vn 0, Vi 0, Vn 0, Vi 0, Vi 0], Res.row b6 50 [Vn c.session, Vn c.seq, Vi 0, Vn 0, Vi 0, Vi 0], Res.vec 5 1 r1_ (if c.ok then c.enc else []).length ((if c.ok then c.enc else []).map vb), Res.row bx 50 (RepD.cells x)]) ?_ (fun x e bx g hΦ => ?_))
      ·
       refine zZ [0, 1, 2, 3, 6, 7, 8, 9] rfl (by decide) (by kernel_rfl) (fun w' hw hS => zD 0 rfl (zK) hS (zD 1 rfl (zq rfl) hS (zD 2 rfl (zc (o := 1) rfl) hS (zD 3 rfl (zl 0 (v := .pointer (some ⟨cb, 0, none⟩)) rfl rfl rfl) hS (zD 4 rfl (zc (o := 0) rfl) hS (zD 5 rfl (zl 4 (v := Vn c.session) rfl rfl rfl) hS (zD 6 rfl (zc (o := 1) rfl) hS (zD 7 rfl (zl 4 (v := Vn c.seq) rfl rfl rfl) hS (za 8 12 ?_ ?_)))))))))
       ·
        refine zT 8 rfl hw (zQ rfl rfl (fun w' hw => (zC7 cb rm kr c.session c.seq w' (hw.give [4, 5] rfl (by decide))).mono ?_))
        rintro _ w1 ⟨x2_, e3_, rfl, hf14_8, hO⟩
        refine (?_ : CL _ _ _ _ _ _ (Own w S [Res.row b 115 [.pointer (some ⟨tb, 0, none⟩), .pointer (some ⟨cb, 0, none⟩), Vn idx], Res.row tb 126 [.map (some bm), .map (some lm), Vi now, Vn cnt], Res.mp Value.string yE bm kb, Res.mp yC zk lm kl, Res.row b3 54 (CmdD.cells c), Res.row b4 50 [Vn 0, Vn 0, Vi 0, Vn 0, Vi 0, Vi 0], Res.row b6 50 [Vn c.session, Vn c.seq, Vi 0, Vn 0, Vi 0, Vi 0], Res.vec 5 1 r1_ (if c.ok then c.enc else []).length ((if c.ok then c.enc else []).map vb), Res.row cb 130 [.map (some rm)], Res.mp ym zx rm kr])) w1 (hw.frameL [4, 5] rfl hO)
        refine zE [0, 1, 2, 3, 4, 5, 6, 7] rfl (by decide) (fun w' hw hS => zD 9 rfl (zK) hS (zD 10 rfl (yS (vs := [.agg (RepD.cells x2_).toArray, Vi e3_]) rfl rfl) hS (zD 11 rfl (yS (vs := [.agg (RepD.cells x2_).toArray, Vi e3_]) rfl rfl) hS (zX 12 rfl hw (yG (v := .agg #[Vn 0, Vn 0, Vi 0, Vn 0, Vi 0, Vi 0]) (by kernel_rfl) rfl (fun b10 => zE [0, 1, 2, 3, 4, 5, 6, 7] rfl (by decide) (fun w' hw hS => zX 13 rfl hw (zm 10 rfl rfl rfl (zw rfl) rfl (zE [0, 1, 2, 3, 4, 5, 6, 7] rfl (by decide) (fun w' hw hS => zD 14 rfl (y8) hS (zM ?_)))))))))))
        exact ⟨x2_, e3_, b10, ⟨rfl, rfl, rfl, rfl, rfl, rfl, rfl, trivial⟩, hf14_8, hw.sel [0, 1, 2, 3, 8, 9, 4, 5, 6, 7, 10] rfl (by decide)⟩
       ·
        refine zT 12 rfl hw (yG (v := .agg #[Vn 0, Vn 0, Vi 0, Vn 0, Vi 0, Vi 0]) (by kernel_rfl) rfl (fun b10 => zE [0, 1, 2, 3, 6, 7, 8, 9] rfl (by decide) (fun w' hw hS => zX 8 rfl hw (zQ rfl rfl (fun w' hw => (zC7 cb rm kr c.session c.seq w' (hw.give [4, 5] rfl (by decide))).mono ?_)))))
        rintro _ w1 ⟨x4_, e5_, rfl, hf14_8, hO⟩
        refine (?_ : CL _ _ _ _ _ _ (Own w S [Res.row b 115 [.pointer (some ⟨tb, 0, none⟩), .pointer (some ⟨cb, 0, none⟩), Vn idx], Res.row tb 126 [.map (some bm), .map (some lm), Vi now, Vn cnt], Res.mp Value.string yE bm kb, Res.mp yC zk lm kl, Res.row b3 54 (CmdD.cells c), Res.row b4 50 [Vn 0, Vn 0, Vi 0, Vn 0, Vi 0, Vi 0], Res.row b6 50 [Vn c.session, Vn c.seq, Vi 0, Vn 0, Vi 0, Vi 0], Res.vec 5 1 r1_ (if c.ok then c.enc else []).length ((if c.ok then c.enc else []).map vb), Res.row b10 50 [Vn 0, Vn 0, Vi 0, Vn 0, Vi 0, Vi 0], Res.row cb 130 [.map (some rm)], Res.mp ym zx rm kr])) w1 (hw.frameL [4, 5] rfl hO)
        refine zE [0, 1, 2, 3, 4, 5, 6, 7] rfl (by decide) (fun w' hw hS => zD 9 rfl (zK) hS (zD 10 rfl (yS (vs := [.agg (RepD.cells x4_).toArray, Vi e5_]) rfl rfl) hS (zD 11 rfl (yS (vs := [.agg (RepD.cells x4_).toArray, Vi e5_]) rfl rfl) hS (zX 13 rfl hw (zm 8 rfl rfl rfl (zw rfl) rfl (zE [0, 1, 2, 3, 4, 5, 6, 7] rfl (by decide) (fun w' hw hS => zD 14 rfl (y8) hS (zM ?_))))))))
        exact ⟨x4_, e5_, b10, ⟨rfl, rfl, rfl, rfl, rfl, rfl, rfl, trivial⟩, hf14_8, hw.sel [0, 1, 2, 3, 9, 10, 4, 5, 6, 7, 8] rfl (by decide)⟩
      have hfk := hΦ
      refine zL (zB (zC rfl (zA (zW (zB (yV rfl rfl rfl (zH rfl (zA (zV rfl (fun c6 => ?_) (fun c6 => ?_))))))))))
      ·
       refine zB (yN (cs := (RepD.cells x)) 10 rfl rfl rfl (zm 7 rfl rfl rfl (zw rfl) rfl (zH rfl (zA ?_))))
       exact zN (zy (cs := (RepD.cells x)) (v := .bool false) rfl rfl rfl (by kernel_rfl) (Own.rowCells (i := 7) rfl) (fun w' hw => ⟨x, false, cnt, kb, kl, kr, rfl, .inl ⟨.inr (.inr (.inr ⟨hgo, by rw [hfk, c6]; show (0 : Int) ≠ 8; decide, by rw [hfk, if_pos c6]⟩)), rfl, rfl, rfl, rfl, rfl⟩, hw.sel [0, 1, 2, 3, 4, 5] rfl (by decide)⟩))
      ·
       refine zB (yV rfl rfl rfl (zH rfl (zA (zV rfl (fun c7 => ?_) (fun c7 => ?_)))))
       ·
        refine zB (zC rfl (x8 (fst := []) (cap := [.pointer (some ⟨b6, 0, none⟩)]) rfl (by kernel_rfl) rfl rfl (fun w' hw => (zAi b6 ({ session := c.session, seq := c.seq, e := 0, lease := 0, amount := 0, until_ := 0 } : RepD) 18 w' (hw.give [8] rfl (by decide))).mono ?_)))
        rintro _ w1 ⟨rfl, hO⟩
        refine (?_ : CL _ _ _ _ _ _ (Own w S [Res.row b 115 [.pointer (some ⟨tb, 0, none⟩), .pointer (some ⟨cb, 0, none⟩), Vn idx], Res.row tb 126 [.map (some bm), .map (some lm), Vi now, Vn cnt], Res.mp Value.string yE bm kb, Res.mp yC zk lm kl, Res.row cb 130 [.map (some rm)], Res.mp ym zx rm kr, Res.row b3 54 (CmdD.cells c), Res.row b4 50 [Vn 0, Vn 0, Vi 0, Vn 0, Vi 0, Vi 0], Res.vec 5 1 r1_ (if c.ok then c.enc else []).length ((if c.ok then c.enc else []).map vb), Res.row bx 50 (RepD.cells x), Res.row b6 50 (RepD.cells ({ ({ session := c.session, seq := c.seq, e := 0, lease := 0, amount := 0, until_ := 0 } : RepD) with e := 18 }))])) w1 (hw.frameL [8] rfl hO)
        refine zr (vs := [.agg (RepD.cells ({ ({ session := c.session, seq := c.seq, e := 0, lease := 0, amount := 0, until_ := 0 } : RepD) with e := 18 })).toArray, .bool false]) rfl rfl rfl (zr (vs := [.agg (RepD.cells ({ ({ session := c.session, seq := c.seq, e := 0, lease := 0, amount := 0, until_ := 0 } : RepD) with e := 18 })).toArray, .bool false]) rfl rfl rfl (zm 7 rfl rfl rfl (zw rfl) rfl (zH rfl (zA ?_))))
        exact zN (zy (cs := (RepD.cells ({ ({ session := c.session, seq := c.seq, e := 0, lease := 0, amount := 0, until_ := 0 } : RepD) with e := 18 }))) (v := .bool false) rfl rfl rfl (by kernel_rfl) (Own.rowCells (i := 7) rfl) (fun w' hw => ⟨{ ({ session := c.session, seq := c.seq, e := 0, lease := 0, amount := 0, until_ := 0 } : RepD) with e := 18 }, false, cnt, kb, kl, kr, rfl, .inl ⟨.inr (.inr (.inr ⟨hgo, by rw [hfk, c7]; show (13 : Int) ≠ 8; decide, by rw [hfk, if_neg c6, if_pos c7]; rfl⟩)), rfl, rfl, rfl, rfl, rfl⟩, hw.sel [0, 1, 2, 3, 4, 5] rfl (by decide)⟩))
       ·
        refine zB (yV rfl rfl rfl (zH rfl (zA (zV rfl (fun c8 => ?_) (fun c8 => ?_)))))
        ·
         refine zB (zC rfl (zC rfl (x8 (fst := []) (cap := [.pointer (some ⟨b6, 0, none⟩)]) rfl (by kernel_rfl) rfl rfl (fun w' hw => (zAi b6 ({ session := c.session, seq := c.seq, e := 0, lease := 0, amount := 0, until_ := 0 } : RepD) e w' (hw.give [8] rfl (by decide))).mono ?_))))
         rintro _ w1 ⟨rfl, hO⟩
         refine (?_ : CL _ _ _ _ _ _ (Own w S [Res.row b 115 [.pointer (some ⟨tb, 0, none⟩), .pointer (some ⟨cb, 0, none⟩), Vn idx], Res.row tb 126 [.map (some bm), .map (some lm), Vi now, Vn cnt], Res.mp Value.string yE bm kb, Res.mp yC zk lm kl, Res.row cb 130 [.map (some rm)], Res.mp ym zx rm kr, Res.row b3 54 (CmdD.cells c), Res.row b4 50 [Vn 0, Vn 0, Vi 0, Vn 0, Vi 0, Vi 0], Res.vec 5 1 r1_ (if c.ok then c.enc else []).length ((if c.ok then c.enc else []).map vb), Res.row bx 50 (RepD.cells x), Res.row b6 50 (RepD.cells ({ ({ session := c.session, seq := c.seq, e := 0, lease := 0, amount := 0, until_ := 0 } : RepD) with e := e }))])) w1 (hw.frameL [8] rfl hO)
         refine zr (vs := [.agg (RepD.cells ({ ({ session := c.session, seq := c.seq, e := 0, lease := 0, amount := 0, until_ := 0 } : RepD) with e := e })).toArray, .bool false]) rfl rfl rfl (zr (vs := [.agg (RepD.cells ({ ({ session := c.session, seq := c.seq, e := 0, lease := 0, amount := 0, until_ := 0 } : RepD) with e := e })).toArray, .bool false]) rfl rfl rfl (zm 7 rfl rfl rfl (zw rfl) rfl (zH rfl (zA ?_))))
         exact zN (zy (cs := (RepD.cells ({ ({ session := c.session, seq := c.seq, e := 0, lease := 0, amount := 0, until_ := 0 } : RepD) with e := e }))) (v := .bool false) rfl rfl rfl (by kernel_rfl) (Own.rowCells (i := 7) rfl) (fun w' hw => ⟨{ ({ session := c.session, seq := c.seq, e := 0, lease := 0, amount := 0, until_ := 0 } : RepD) with e := e }, false, cnt, kb, kl, kr, rfl, .inl ⟨.inr (.inr (.inr ⟨hgo, by rw [hfk, c8]; show (7 : Int) ≠ 8; decide, by rw [hfk, if_neg c6, if_neg c7]; rfl⟩)), rfl, rfl, rfl, rfl, rfl⟩, hw.sel [0, 1, 2, 3, 4, 5] rfl (by decide)⟩))
        ·
         refine zJ (zB (zC rfl (yN (cs := (CmdD.cells c)) 6 rfl rfl rfl (zQ rfl rfl (fun w' hw => (zJk b tb cb bm lm idx now cnt kb kl c w' ‹_› (by first | omega | (simp <;> omega)) (by first | omega | (simp <;> omega)) (by first | omega | (simp <;> omega)) (hw.give [0, 1, 2, 3] rfl (by decide))).mono ?_)))))
         rintro _ w1 ⟨r6_, cnt'7_, kb'8_, kl'9_, rfl, hf22_2, hO⟩
         have hrw := zI5 hcw ht hc hlen hkl hf22_2
         refine (?_ : CL _ _ _ _ _ _ (Own w S [Res.row cb 130 [.map (some rm)], Res.mp ym zx rm kr, Res.row b3 54 (CmdD.cells c), Res.row b4 50 [Vn 0, Vn 0, Vi 0, Vn 0, Vi 0, Vi 0], Res.row b6 50 [Vn c.session, Vn c.seq, Vi 0, Vn 0, Vi 0, Vi 0], Res.vec 5 1 r1_ (if c.ok then c.enc else []).length ((if c.ok then c.enc else []).map vb), Res.row bx 50 (RepD.cells x), Res.row b 115 [.pointer (some ⟨tb, 0, none⟩), .pointer (some ⟨cb, 0, none⟩), Vn idx], Res.row tb 126 [.map (some bm), .map (some lm), Vi now, Vn cnt'7_], Res.mp Value.string yE bm kb'8_, Res.mp yC zk lm kl'9_])) w1 (hw.frameL [0, 1, 2, 3] rfl hO)
         refine zm 4 rfl rfl rfl (zw rfl) rfl (zA (zL (zZ [0, 1, 2, 3, 5, 6, 7, 8, 9, 10] rfl (by decide) (by kernel_rfl) (fun w' hw hS => zD 0 rfl (zc (o := 0) rfl) hS (zD 1 rfl (zl 2 (v := Vn c.session) rfl rfl rfl) hS (zD 2 rfl (zc (o := 1) rfl) hS (zD 3 rfl (zl 2 (v := Vn c.seq) rfl rfl rfl) hS (zD 4 rfl (zc (o := 0) rfl) hS (zX 5 rfl hw (yn (cs := (RepD.cells r6_)) 4 rfl rfl rfl rfl rfl (zE [0, 1, 2, 3, 5, 6, 7, 8, 9, 10] rfl (by decide) (fun w' hw hS => zD 6 rfl (zc (o := 1) rfl) hS ?_))))))))))))
         refine zX 7 rfl hw (yn 4 rfl rfl rfl rfl rfl (zE [0, 1, 2, 3, 5, 6, 7, 8, 9, 10] rfl (by decide) (fun w' hw hS => zM ?_)))
         refine (?_ : C _ _ _ _ _ _ _ (Own w S [Res.row cb 130 [.map (some rm)], Res.mp ym zx rm kr, Res.row b3 54 (CmdD.cells c), Res.row b4 50 [Vn 0, Vn 0, Vi 0, Vn 0, Vi 0, Vi 0], Res.row b6 50 [Vn c.session, Vn c.seq, Vi r6_.e, Vn r6_.lease, Vi r6_.amount, Vi r6_.until_], Res.vec 5 1 r1_ (if c.ok then c.enc else []).length ((if c.ok then c.enc else []).map vb), Res.row bx 50 (RepD.cells x), Res.row b 115 [.pointer (some ⟨tb, 0, none⟩), .pointer (some ⟨cb, 0, none⟩), Vn idx], Res.row tb 126 [.map (some bm), .map (some lm), Vi now, Vn cnt'7_], Res.mp Value.string yE bm kb'8_, Res.mp yC zk lm kl'9_])) _ hw
         refine zL (zZ [2, 3, 4, 5, 6, 7, 8, 9, 10] rfl (by decide) (by kernel_rfl) (fun w' hw hS => zD 0 rfl (zK) hS (zD 1 rfl (zq rfl) hS (zD 2 rfl (zc (o := 1) rfl) hS (zD 3 rfl (zl 5 (v := .pointer (some ⟨cb, 0, none⟩)) rfl rfl rfl) hS (zD 4 rfl (xh 2 rfl rfl) hS (zX 5 rfl hw (zQ rfl rfl (fun w' hw => (zIt cb rm kr ({ r6_ with session := c.session, seq := c.seq } : RepD) w' hrw (hw.give [0, 1] rfl (by decide))).mono ?_)))))))))
         rintro _ w1 ⟨e10_, kl'11_, rfl, hf24_5, hf24_5_1, hO⟩
         refine (?_ : CL _ _ _ _ _ _ (Own w S [Res.row b3 54 (CmdD.cells c), Res.row b4 50 [Vn 0, Vn 0, Vi 0, Vn 0, Vi 0, Vi 0], Res.row b6 50 [Vn c.session, Vn c.seq, Vi r6_.e, Vn r6_.lease, Vi r6_.amount, Vi r6_.until_], Res.vec 5 1 r1_ (if c.ok then c.enc else []).length ((if c.ok then c.enc else []).map vb), Res.row bx 50 (RepD.cells x), Res.row b 115 [.pointer (some ⟨tb, 0, none⟩), .pointer (some ⟨cb, 0, none⟩), Vn idx], Res.row tb 126 [.map (some bm), .map (some lm), Vi now, Vn cnt'7_], Res.mp Value.string yE bm kb'8_, Res.mp yC zk lm kl'9_, Res.row cb 130 [.map (some rm)], Res.mp ym zx rm kl'11_])) w1 (hw.frameL [0, 1] rfl hO)
         refine zE [0, 1, 2, 3, 4, 5, 6, 7, 8] rfl (by decide) (fun w' hw hS => zM ?_)
         refine (?_ : C _ _ _ _ _ _ _ (Own w S [Res.row b3 54 (CmdD.cells c), Res.row b4 50 [Vn 0, Vn 0, Vi 0, Vn 0, Vi 0, Vi 0], Res.row b6 50 [Vn c.session, Vn c.seq, Vi r6_.e, Vn r6_.lease, Vi r6_.amount, Vi r6_.until_], Res.vec 5 1 r1_ (if c.ok then c.enc else []).length ((if c.ok then c.enc else []).map vb), Res.row bx 50 (RepD.cells x), Res.row b 115 [.pointer (some ⟨tb, 0, none⟩), .pointer (some ⟨cb, 0, none⟩), Vn idx], Res.row tb 126 [.map (some bm), .map (some lm), Vi now, Vn cnt'7_], Res.mp Value.string yE bm kb'8_, Res.mp yC zk lm kl'9_, Res.row cb 130 [.map (some rm)], Res.mp ym zx rm kl'11_])) _ hw
         refine zB (yN 2 rfl rfl rfl (zm 1 rfl rfl rfl (zw rfl) rfl (zH rfl (zA ?_))))
         exact zN (zy (cs := [Vn c.session, Vn c.seq, Vi r6_.e, Vn r6_.lease, Vi r6_.amount, Vi r6_.until_]) (v := .bool true) rfl rfl rfl (by kernel_rfl) (Own.rowCells (i := 1) rfl) (fun w' hw => ⟨({ r6_ with session := c.session, seq := c.seq } : RepD), true, cnt'7_, kb'8_, kl'9_, kl'11_, rfl, .inr ⟨⟨hgo, by rw [hfk]; exact zIu hfk hgo.2 c6 c7 c8⟩, hf22_2, rfl, hf24_5_1⟩, hw.sel [5, 6, 7, 8, 9, 10] rfl (by decide)⟩))
end Go.Proofs.YtcdiehplbmkmeaaGreat
