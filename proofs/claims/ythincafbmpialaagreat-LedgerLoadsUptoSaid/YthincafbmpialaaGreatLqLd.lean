import Derived.Test.YthincafbmpialaaGreatLqT
set_option linter.unusedSectionVars false
set_option linter.unusedSimpArgs false
set_option linter.unusedVariables false
set_option maxRecDepth 10000
namespace Go.Proofs.YthincafbmpialaaGreat
open Go Go.Sc Go.Proofs
theorem zGs {x : LeaD} {now : Int} {last : Nat} : (((((((((0 : Nat) : Int) < ((x.id : Nat) : Int)) ∧ (((x.id : Nat) : Int) ≤ ((last : Nat) : Int))) ∧ (((0 : Nat) : Int) < ((x.session : Nat) : Int))) ∧ (yZ x.key)) ∧ (1 ≤ x.amount)) ∧ (now < x.until_)) ∧ (x.until_ ≤ 4611686018427387904)) ↔ zA9 now last x := by
  unfold zA9
  constructor
  · rintro ⟨⟨⟨⟨⟨⟨a, b⟩, c⟩, d⟩, e⟩, f⟩, k⟩
    exact ⟨by omega, by omega, by omega, d, e, f, k⟩
  · rintro ⟨a, b, c, d, e, f, k⟩
    exact ⟨⟨⟨⟨⟨⟨by omega, by omega⟩, by omega⟩, d⟩, e⟩, f⟩, k⟩
theorem zJ7 {n a m e : Int} (h : (9223372036854775807 < zI [n, a] 0 + zI [n, a] 1 ∧ e = 3 ∧ m = 0) ∨ (zI [n, a] 0 + zI [n, a] 1 ≤ 9223372036854775807 ∧ e = 0 ∧ m = zI [n, a] 0 + zI [n, a] 1)) (he : e ≠ 0) : 9223372036854775807 < n + a := by
  rcases h with h | h
  · exact h.1
  · exact absurd h.2.1 he
theorem zIN {n a m e : Int} (h : (9223372036854775807 < zI [n, a] 0 + zI [n, a] 1 ∧ e = 3 ∧ m = 0) ∨ (zI [n, a] 0 + zI [n, a] 1 ≤ 9223372036854775807 ∧ e = 0 ∧ m = zI [n, a] 0 + zI [n, a] 1)) (he : ¬ e ≠ 0) : n + a ≤ 9223372036854775807 := by
  rcases h with h | h
  · have := h.2.1; omega
  · exact h.1
theorem zKE (x : LeaD) (now : Int) (last : Nat) (w : World) : Rets Tryz.prog 79 #[.agg (LeaD.cells x).toArray, Vi now, Vn last] w fun u_ w' => u_ = .bool (decide (zA9 now last x)) ∧ Own w [] [] w' := by
  refine zW Tryz.func79 rfl Tryz.ntmps79 (Own.start w) ?_
  refine zB (yc rfl rfl (fun b3 => zD rfl (zA (zB (zP (o := 0) rfl rfl (zS 0 (v := Vn x.id) rfl rfl rfl rfl (yg rfl rfl rfl (zC rfl (yP (q := ((0 : Nat) : Int) < ((x.id : Nat) : Int)) 4 3 [14, 13, 12, 11] (((x.id : Nat) : Int) ≤ ((last : Nat) : Int)) rfl rfl rfl rfl rfl rfl trivial rfl (fun h1_3 => ?_) (fun g1_8 => ?_))))))))))
  ·
   refine zO rfl (gT h1_3) (zP (o := 0) rfl rfl (zO rfl (gT h1_3) (zS 0 (v := Vn x.id) rfl rfl rfl rfl (zO rfl (gT h1_3) (zC rfl (zO rfl (gT h1_3) (ka rfl rfl rfl ?_)))))))
   exact yL rfl (fun _ hw => hw)
  refine zC rfl (yP (q := (((0 : Nat) : Int) < ((x.id : Nat) : Int)) ∧ (((x.id : Nat) : Int) ≤ ((last : Nat) : Int))) 3 9 [19, 18, 17] (((0 : Nat) : Int) < ((x.session : Nat) : Int)) rfl rfl rfl rfl rfl rfl trivial rfl (fun h1_9 => ?_) (fun g1_13 => ?_))
  ·
   refine zO rfl (gT h1_9) (zP (o := 1) rfl rfl (zO rfl (gT h1_9) (zS 0 (v := Vn x.session) rfl rfl rfl rfl (zO rfl (gT h1_9) (yg rfl rfl rfl ?_)))))
   exact yL rfl (fun _ hw => hw)
  refine zC rfl (yP (q := ((((0 : Nat) : Int) < ((x.id : Nat) : Int)) ∧ (((x.id : Nat) : Int) ≤ ((last : Nat) : Int))) ∧ (((0 : Nat) : Int) < ((x.session : Nat) : Int))) 3 14 [24, 23, 22] (yZ x.key) rfl rfl rfl rfl rfl rfl trivial rfl (fun h1_14 => ?_) (fun g1_18 => ?_))
  ·
   refine zO rfl (gT h1_14) (zP (o := 2) rfl rfl (zO rfl (gT h1_14) (zS 0 (v := .string x.key) rfl rfl rfl rfl (zO rfl (gT h1_14) (zJ rfl rfl (fun w' hw => (zB9 x.key w').mono ?_))))))
   rintro _ w1 ⟨rfl, hO⟩
   refine (?_ : CL _ _ _ _ _ _ (Own w [] [Res.row b3 76 (LeaD.cells x)])) w1 (hw.frame0 hO)
   exact yL rfl (fun _ hw => hw)
  refine zC rfl (yP (q := (((((0 : Nat) : Int) < ((x.id : Nat) : Int)) ∧ (((x.id : Nat) : Int) ≤ ((last : Nat) : Int))) ∧ (((0 : Nat) : Int) < ((x.session : Nat) : Int))) ∧ (yZ x.key)) 3 19 [29, 28, 27] (1 ≤ x.amount) rfl rfl rfl rfl rfl rfl trivial rfl (fun h1_19 => ?_) (fun g1_23 => ?_))
  ·
   refine zO rfl (gT h1_19) (zP (o := 3) rfl rfl (zO rfl (gT h1_19) (zS 0 (v := Vi x.amount) rfl rfl rfl rfl (zO rfl (gT h1_19) (xC rfl rfl rfl ?_)))))
   exact yL rfl (fun _ hw => hw)
  refine zC rfl (yP (q := ((((((0 : Nat) : Int) < ((x.id : Nat) : Int)) ∧ (((x.id : Nat) : Int) ≤ ((last : Nat) : Int))) ∧ (((0 : Nat) : Int) < ((x.session : Nat) : Int))) ∧ (yZ x.key)) ∧ (1 ≤ x.amount)) 4 24 [35, 34, 33, 32] (now < x.until_) rfl rfl rfl rfl rfl rfl trivial rfl (fun h1_24 => ?_) (fun g1_29 => ?_))
  ·
   refine zO rfl (gT h1_24) (zP (o := 4) rfl rfl (zO rfl (gT h1_24) (zS 0 (v := Vi x.until_) rfl rfl rfl rfl (zO rfl (gT h1_24) (zC rfl (zO rfl (gT h1_24) (yg rfl rfl rfl ?_)))))))
   exact yL rfl (fun _ hw => hw)
  refine zC rfl (yP (q := (((((((0 : Nat) : Int) < ((x.id : Nat) : Int)) ∧ (((x.id : Nat) : Int) ≤ ((last : Nat) : Int))) ∧ (((0 : Nat) : Int) < ((x.session : Nat) : Int))) ∧ (yZ x.key)) ∧ (1 ≤ x.amount)) ∧ (now < x.until_)) 3 30 [40, 39, 38] (x.until_ ≤ 4611686018427387904) rfl rfl rfl rfl rfl rfl trivial rfl (fun h1_30 => ?_) (fun g1_34 => ?_))
  ·
   refine zO rfl (gT h1_30) (zP (o := 4) rfl rfl (zO rfl (gT h1_30) (zS 0 (v := Vi x.until_) rfl rfl rfl rfl (zO rfl (gT h1_30) (ka rfl rfl rfl ?_)))))
   exact yL rfl (fun _ hw => hw)
  refine zD rfl (zA ?_)
  exact zM (z6 (v := .bool (decide (((((((((0 : Nat) : Int) < ((x.id : Nat) : Int)) ∧ (((x.id : Nat) : Int) ≤ ((last : Nat) : Int))) ∧ (((0 : Nat) : Int) < ((x.session : Nat) : Int))) ∧ (yZ x.key)) ∧ (1 ≤ x.amount)) ∧ (now < x.until_)) ∧ (x.until_ ≤ 4611686018427387904)))) rfl rfl (fun w' hw => ⟨(by congr 1; exact decide_eq_decide.2 (zGs)), hw.drop⟩))
theorem zLj {S : List Nat} (b bm lm : Nat) (now0 : Int) (cnt0 : Nat) (kb : List (ByteArray × Int)) (kl : List (Nat × LeaD)) (now : Int) (last : Nat) (bv : Value) (bs : List BudD) (lv : Value) (ls : List LeaD) (w : World) (hbl : bs.length ≤ 2000000) (hll : ls.length ≤ 2000000) (hbi : ∀ b ∈ bs, xY b.amount) (hli : ∀ l ∈ ls, xY l.amount) (hin : Own w S [Res.row b 111 [.map (some bm), .map (some lm), Vi now0, Vn cnt0], Res.mp Value.string yD bm kb, Res.mp yA zZ lm kl] w) (hbv : Rd w S (Res.sl bv bs.length (bs.flatMap BudD.cells))) (hlv : Rd w S (Res.sl lv ls.length (ls.flatMap LeaD.cells))) : Rets Tryz.prog 44 #[.pointer (some ⟨b, 0, none⟩), Vi now, Vn last, bv, lv] w fun u_ w' => ∃ (bm' lm' : Nat) (now' : Int) (cnt' : Nat) (kb' : List (ByteArray × Int)) (kl' : List (Nat × LeaD)) (e : Int), u_ = Vi e ∧ ((e = 0 ∧ LoadOk now last bs ls ∧ now' = now ∧ cnt' = last ∧ kb' = KB bs ∧ kl' = KL ls) ∨ (e = 2 ∧ ¬ LoadOk now last bs ls ∧ now' = now0 ∧ cnt' = cnt0 ∧ kb' = kb ∧ kl' = kl)) ∧ Own w S [Res.row b 111 [.map (some bm'), .map (some lm'), Vi now', Vn cnt'], Res.mp Value.string yD bm' kb', Res.mp yA zZ lm' kl'] w' := by
  refine zW Tryz.func44 rfl Tryz.ntmps44 hin ?_
  refine zB (zD rfl (zA (zL (zB (zC rfl (xE (by kernel_rfl) rfl rfl rfl (zA (xQ rfl (zK (zL (zB (zC rfl ?_))))))))))))
  refine yI rfl rfl rfl (zC rfl (yY (q := now < 0) 2 2 [24, 23] (2305843009213693952 < now) rfl rfl rfl rfl rfl rfl trivial rfl (fun h3_2 => ?_) (fun g3_5 => ?_)))
  ·
   refine zO rfl (gF h3_2) (zC rfl (zO rfl (gF h3_2) (yg rfl rfl rfl ?_)))
   exact yL rfl (fun _ hw => hw)
  refine zC rfl (yY (q := (now < 0) ∨ (2305843009213693952 < now)) 3 6 [29, 28, 27] (64 < ((bs.length : Nat) : Int)) rfl rfl rfl rfl rfl rfl trivial rfl (fun h3_6 => ?_) (fun g3_10 => ?_))
  ·
   refine zO rfl (gF h3_6) (zC rfl (zO rfl (gF h3_6) (yC (pR hbv) rfl rfl (zO rfl (gF h3_6) (yg rfl rfl rfl ?_)))))
   exact yL rfl (fun _ hw => hw)
  refine zC rfl (yY (q := ((now < 0) ∨ (2305843009213693952 < now)) ∨ (64 < ((bs.length : Nat) : Int))) 3 11 [34, 33, 32] (128 < ((ls.length : Nat) : Int)) rfl rfl rfl rfl rfl rfl trivial rfl (fun h3_11 => ?_) (fun g3_15 => ?_))
  ·
   refine zO rfl (gF h3_11) (zC rfl (zO rfl (gF h3_11) (yC (pR hlv) rfl rfl (zO rfl (gF h3_11) (yg rfl rfl rfl ?_)))))
   exact yL rfl (fun _ hw => hw)
  refine zA (zU rfl (fun c2 => ?_) (fun c2 => ?_))
  ·
   refine zB (zD rfl (zA ?_))
   exact zM (z6 (v := Vi 2) rfl rfl (fun w' hw => ⟨bm, lm, now0, cnt0, kb, kl, 2, rfl, .inr ⟨rfl, (fun q => by have h1 := q.time; have h2 := q.blen; have h3 := q.llen; omega), rfl, rfl, rfl, rfl⟩, hw⟩))
  ·
   refine zK (zB (zJ rfl rfl (fun w' hw => (zK1 w').mono ?_)))
   rintro _ w1 ⟨b1_, bm2_, lm3_, rfl, hO⟩
   refine (?_ : CL _ _ _ _ _ _ (Own w S [Res.row b 111 [.map (some bm), .map (some lm), Vi now0, Vn cnt0], Res.mp Value.string yD bm kb, Res.mp yA zZ lm kl, Res.row b1_ 111 [.map (some bm2_), .map (some lm3_), Vi 0, Vn 0], Res.mp Value.string yD bm2_ ([] : List (ByteArray × Int)), Res.mp yA zZ lm3_ ([] : List (Nat × LeaD))])) w1 (hw.frame0 hO)
   refine zD rfl (zA (zB (zC rfl (zC rfl (zC rfl (zC rfl (zm rfl rfl (zP (o := 2) rfl rfl (yi (cs := [.map (some bm2_), .map (some lm3_), Vi 0, Vn 0]) 3 rfl rfl rfl rfl rfl (zm rfl rfl (zP (o := 3) rfl rfl (yi (cs := [.map (some bm2_), .map (some lm3_), Vi now, Vn 0]) 3 rfl rfl rfl rfl rfl ?_))))))))))))
   refine zA (zL (zB (zC rfl (yC (pR hbv) rfl rfl (zC rfl (zA (zT ?_)))))))
   refine xT (fun (i : Nat) (kn : List (ByteArray × Int)) => [(0, .pointer (some ⟨b, 0, none⟩)), (1, Vi now), (2, Vn last), (3, bv), (4, lv), (11, .pointer (some ⟨b1_, 0, none⟩)), (45, bv), (46, Vj bs.length), (47, Vj i)]) (fun (i : Nat) (kn : List (ByteArray × Int)) => i ≤ bs.length ∧ BudsOk (bs.take i) ∧ kn = KB (bs.take i)) (fun (i : Nat) (kn : List (ByteArray × Int)) => [Res.row b 111 [.map (some bm), .map (some lm), Vi now0, Vn cnt0], Res.mp Value.string yD bm kb, Res.mp yA zZ lm kl, Res.row b1_ 111 [.map (some bm2_), .map (some lm3_), Vi now, Vn last], Res.mp Value.string yD bm2_ kn, Res.mp yA zZ lm3_ ([] : List (Nat × LeaD))]) (fun (i : Nat) (kn : List (ByteArray × Int)) => bs.length - i) (fun w' hw => ⟨0, [], ⟨rfl, rfl, rfl, rfl, rfl, rfl, rfl, rfl, rfl, trivial⟩, ⟨Nat.zero_le _, BudsOk.nil, rfl⟩, hw⟩) (fun i kn g hΦ => ?_)
   have hi := hΦ.1
   have hBI := hΦ.2.1
   have hkn := hΦ.2.2
   refine zB (yI rfl rfl rfl (zA (zL (zU rfl (fun c3 => ?_) (fun c3 => ?_)))))
   ·
    refine zK (zL (zT (zB (zC rfl (zH (pR hbv) 2 i rfl rfl rfl (by omega) rfl (xh (pR hbv) 2 i (off := yn bv + i * 2) (fun _ => rfl) rfl rfl (by omega) rfl (yF (v := .agg #[.string (⟨#[]⟩ : ByteArray), Vi 0]) (by kernel_rfl) rfl (fun b13 => zD rfl (zh 6 rfl rfl rfl (z8 rfl) rfl (zA (zL (zL ?_))))))))))))
    refine zg [0, 1, 2, 3, 4, 5, 6] rfl (by decide) (by kernel_rfl) (fun w' hw hS => zF 0 rfl (zi (o := 0) rfl) hS (zF 1 rfl (zo 6 (v := .string ((zI bs i).key)) rfl rfl rfl) hS (zY 2 rfl hw (zJ rfl rfl (fun w' hw => (zB9 ((zI bs i).key) w').mono ?_)))))
    rintro _ w1 ⟨rfl, hO⟩
    refine (?_ : CL _ _ _ _ _ _ (Own w S [Res.row b 111 [.map (some bm), .map (some lm), Vi now0, Vn cnt0], Res.mp Value.string yD bm kb, Res.mp yA zZ lm kl, Res.row b1_ 111 [.map (some bm2_), .map (some lm3_), Vi now, Vn last], Res.mp Value.string yD bm2_ kn, Res.mp yA zZ lm3_ ([] : List (Nat × LeaD)), Res.row b13 93 (BudD.cells (zI bs i))])) w1 (hw.frame0 hO)
    refine zG [0, 1, 2, 3, 4, 5, 6] rfl (by decide) (fun w' hw hS => zF 3 rfl (jN (q := yZ ((zI bs i).key)) rfl) hS (zF 4 rfl (zQ) hS ?_))
    by_cases g10_4 : ¬ (yZ ((zI bs i).key))
    ·
     refine zc 5 rfl rfl (gT g10_4) rfl hS (zc 6 rfl rfl (gT g10_4) rfl hS (zc 7 rfl rfl (gT g10_4) rfl hS (zF 8 rfl (y5 (gT g10_4)) hS (zF 9 rfl (zQ) hS (zc 10 rfl rfl rfl rfl hS (zc 11 rfl rfl rfl rfl hS (zc 12 rfl rfl rfl rfl hS (y8 13 rfl rfl rfl hS (y8 14 rfl rfl rfl hS (y8 15 rfl rfl rfl hS (y8 16 rfl rfl rfl hS (y8 17 rfl rfl rfl hS ?_))))))))))))
     refine y8 18 rfl rfl rfl hS (y8 19 rfl rfl rfl hS (y8 20 rfl rfl rfl hS (y8 21 rfl rfl rfl hS (zc 22 rfl rfl rfl rfl hS (zF 23 rfl (y5 rfl) hS (zR ?_))))))
     refine (?_ : C _ _ _ _ _ _ _ (Own w S [Res.row b 111 [.map (some bm), .map (some lm), Vi now0, Vn cnt0], Res.mp Value.string yD bm kb, Res.mp yA zZ lm kl, Res.row b1_ 111 [.map (some bm2_), .map (some lm3_), Vi now, Vn last], Res.mp Value.string yD bm2_ kn, Res.mp yA zZ lm3_ ([] : List (Nat × LeaD)), Res.row b13 93 (BudD.cells (zI bs i))])) _ hw
     refine jz rfl (zB (zD rfl (zA ?_)))
     exact zM (z6 (v := Vi 2) rfl rfl (fun w' hw => ⟨bm, lm, now0, cnt0, kb, kl, 2, rfl, .inr ⟨rfl, (fun q => zEG (i := i) q.buds (by omega) (.inl g10_4)), rfl, rfl, rfl, rfl⟩, hw.sel [0, 1, 2] rfl (by decide)⟩))
    ·
     refine zl 5 rfl rfl (gF g10_4) (zi (o := 1) rfl) hS (zl 6 rfl rfl (gF g10_4) (zo 6 (v := Vi ((zI bs i).amount)) rfl rfl rfl) hS (zl 7 rfl rfl (gF g10_4) (zEU rfl rfl) hS (zF 8 rfl (yz (gF g10_4)) hS (zF 9 rfl (zQ) hS ?_))))
     by_cases g10_9 : ((zI bs i).amount) < 1
     ·
      refine zc 10 rfl rfl (gT g10_9) rfl hS (zc 11 rfl rfl (gT g10_9) rfl hS (zc 12 rfl rfl (gT g10_9) rfl hS (y8 13 rfl rfl rfl hS (y8 14 rfl rfl rfl hS (y8 15 rfl rfl rfl hS (y8 16 rfl rfl rfl hS (y8 17 rfl rfl rfl hS (y8 18 rfl rfl rfl hS (y8 19 rfl rfl rfl hS (y8 20 rfl rfl rfl hS (y8 21 rfl rfl rfl hS (zc 22 rfl rfl (gT g10_9) rfl hS ?_))))))))))))
      refine zF 23 rfl (y5 (gT g10_9)) hS (zR ?_)
      refine (?_ : C _ _ _ _ _ _ _ (Own w S [Res.row b 111 [.map (some bm), .map (some lm), Vi now0, Vn cnt0], Res.mp Value.string yD bm kb, Res.mp yA zZ lm kl, Res.row b1_ 111 [.map (some bm2_), .map (some lm3_), Vi now, Vn last], Res.mp Value.string yD bm2_ kn, Res.mp yA zZ lm3_ ([] : List (Nat × LeaD)), Res.row b13 93 (BudD.cells (zI bs i))])) _ hw
      refine jz rfl (zB (zD rfl (zA ?_)))
      exact zM (z6 (v := Vi 2) rfl rfl (fun w' hw => ⟨bm, lm, now0, cnt0, kb, kl, 2, rfl, .inr ⟨rfl, (fun q => zEG (i := i) q.buds (by omega) (.inr (.inl g10_9))), rfl, rfl, rfl, rfl⟩, hw.sel [0, 1, 2] rfl (by decide)⟩))
     ·
      refine zl 10 rfl rfl (gF g10_9) (zQ) hS (zl 11 rfl rfl (gF g10_9) (zBO rfl rfl) hS (zl 12 rfl rfl (gF g10_9) (zQ) hS ?_))
      by_cases g10_12 : 0 < ((i : Nat) : Int)
      ·
       refine zl 13 rfl rfl (gT g10_12) (zi (o := 0) rfl) hS (zl 14 rfl rfl (gT g10_12) (zo 6 (v := .string ((zI bs i).key)) rfl rfl rfl) hS (zl 15 rfl rfl (gT g10_12) (zQ) hS (zl 16 rfl rfl (gT g10_12) (zQ) hS (zl 17 rfl rfl (gT g10_12) (kc rfl rfl (zr (by omega))) hS (zl 18 rfl rfl (gT g10_12) (yR (pR hbv) 2 (i - 1) rfl rfl (by omega) (by omega)) hS (zl 19 rfl rfl (gT g10_12) (zi (o := 0) rfl) hS (zl 20 rfl rfl (gT g10_12) (yq (pR hbv) 2 (i - 1) 0 (off := yn bv + (i - 1) * 2 + 0) (fun _ => rfl) rfl (by omega) (by omega) rfl) hS (zl 21 rfl rfl (gT g10_12) (zMq rfl rfl) hS (zl 22 rfl rfl (gF g10_9) (y5 (gT g10_12)) hS (zF 23 rfl (yz (gF g10_9)) hS (zR ?_)))))))))))
       refine (?_ : C _ _ _ _ _ _ _ (Own w S [Res.row b 111 [.map (some bm), .map (some lm), Vi now0, Vn cnt0], Res.mp Value.string yD bm kb, Res.mp yA zZ lm kl, Res.row b1_ 111 [.map (some bm2_), .map (some lm3_), Vi now, Vn last], Res.mp Value.string yD bm2_ kn, Res.mp yA zZ lm3_ ([] : List (Nat × LeaD)), Res.row b13 93 (BudD.cells (zI bs i))])) _ hw
       refine zU rfl (fun c6 => ?_) (fun c6 => ?_)
       ·
        refine zB (zD rfl (zA ?_))
        exact zM (z6 (v := Vi 2) rfl rfl (fun w' hw => ⟨bm, lm, now0, cnt0, kb, kl, 2, rfl, .inr ⟨rfl, (fun q => zEG (i := i) q.buds (by omega) (.inr (.inr ⟨by omega, c6⟩))), rfl, rfl, rfl, rfl⟩, hw.sel [0, 1, 2] rfl (by decide)⟩))
       ·
        refine zK (zg [0, 1, 2, 3, 5, 6] rfl (by decide) (by kernel_rfl) (fun w' hw hS => zF 0 rfl (zQ) hS (zF 1 rfl (z7 rfl) hS (zF 2 rfl (zi (o := 0) rfl) hS (zF 3 rfl (zo 3 (v := .map (some bm2_)) rfl rfl rfl) hS (zF 4 rfl (zi (o := 0) rfl) hS (zF 5 rfl (zo 5 (v := .string ((zI bs i).key)) rfl rfl rfl) hS (zF 6 rfl (zi (o := 1) rfl) hS (zF 7 rfl (zo 5 (v := Vi ((zI bs i).amount)) rfl rfl rfl) hS (zY 8 rfl hw (jP 4 (k := (zI bs i).key) (v := (zI bs i).amount) zCC zBX rfl rfl rfl rfl (zG [0, 1, 2, 3, 5, 6] rfl (by decide) (fun w' hw hS => ?_)))))))))))))
        refine zR ?_
        refine (?_ : C _ _ _ _ _ _ _ (Own w S [Res.row b 111 [.map (some bm), .map (some lm), Vi now0, Vn cnt0], Res.mp Value.string yD bm kb, Res.mp yA zZ lm kl, Res.row b1_ 111 [.map (some bm2_), .map (some lm3_), Vi now, Vn last], Res.mp Value.string yD bm2_ (xJ ((zI bs i).key) ((zI bs i).amount) kn), Res.mp yA zZ lm3_ ([] : List (Nat × LeaD)), Res.row b13 93 (BudD.cells (zI bs i))])) _ hw
        refine zd (zt rfl rfl (zr (by omega)) rfl (zC rfl ?_))
        exact zj (fun w' hw => ⟨i + 1, xJ (zI bs i).key (zI bs i).amount kn, ⟨rfl, rfl, rfl, rfl, rfl, rfl, rfl, rfl, rfl, trivial⟩, ⟨by omega, zE9 hBI (by omega) (Decidable.not_not.1 g10_4) (by omega) (fun _ => c6), by rw [hkn]; exact zGT hBI (by omega) (fun _ => c6)⟩, hw.sel [0, 1, 2, 3, 4, 5] rfl (by decide), (by omega)⟩)
      ·
       refine zc 13 rfl rfl (gF g10_12) rfl hS (zc 14 rfl rfl (gF g10_12) rfl hS (zc 15 rfl rfl (gF g10_12) rfl hS (zc 16 rfl rfl (gF g10_12) rfl hS (zc 17 rfl rfl (gF g10_12) rfl hS (zc 18 rfl rfl (gF g10_12) rfl hS (zc 19 rfl rfl (gF g10_12) rfl hS (zc 20 rfl rfl (gF g10_12) rfl hS (zc 21 rfl rfl (gF g10_12) rfl hS (zl 22 rfl rfl (gF g10_9) (yz (gF g10_12)) hS (zF 23 rfl (yz (gF g10_9)) hS (zR ?_)))))))))))
       refine (?_ : C _ _ _ _ _ _ _ (Own w S [Res.row b 111 [.map (some bm), .map (some lm), Vi now0, Vn cnt0], Res.mp Value.string yD bm kb, Res.mp yA zZ lm kl, Res.row b1_ 111 [.map (some bm2_), .map (some lm3_), Vi now, Vn last], Res.mp Value.string yD bm2_ kn, Res.mp yA zZ lm3_ ([] : List (Nat × LeaD)), Res.row b13 93 (BudD.cells (zI bs i))])) _ hw
       refine xQ rfl (zK (zg [0, 1, 2, 3, 5, 6] rfl (by decide) (by kernel_rfl) (fun w' hw hS => zF 0 rfl (zQ) hS (zF 1 rfl (z7 rfl) hS (zF 2 rfl (zi (o := 0) rfl) hS (zF 3 rfl (zo 3 (v := .map (some bm2_)) rfl rfl rfl) hS (zF 4 rfl (zi (o := 0) rfl) hS (zF 5 rfl (zo 5 (v := .string ((zI bs i).key)) rfl rfl rfl) hS (zF 6 rfl (zi (o := 1) rfl) hS (zF 7 rfl (zo 5 (v := Vi ((zI bs i).amount)) rfl rfl rfl) hS (zY 8 rfl hw (jP 4 (k := (zI bs i).key) (v := (zI bs i).amount) zCC zBX rfl rfl rfl rfl ?_))))))))))))
       refine zG [0, 1, 2, 3, 5, 6] rfl (by decide) (fun w' hw hS => zR ?_)
       refine (?_ : C _ _ _ _ _ _ _ (Own w S [Res.row b 111 [.map (some bm), .map (some lm), Vi now0, Vn cnt0], Res.mp Value.string yD bm kb, Res.mp yA zZ lm kl, Res.row b1_ 111 [.map (some bm2_), .map (some lm3_), Vi now, Vn last], Res.mp Value.string yD bm2_ (xJ ((zI bs i).key) ((zI bs i).amount) kn), Res.mp yA zZ lm3_ ([] : List (Nat × LeaD)), Res.row b13 93 (BudD.cells (zI bs i))])) _ hw
       refine zd (zt rfl rfl (zr (by omega)) rfl (zC rfl ?_))
       exact zj (fun w' hw => ⟨i + 1, xJ (zI bs i).key (zI bs i).amount kn, ⟨rfl, rfl, rfl, rfl, rfl, rfl, rfl, rfl, rfl, trivial⟩, ⟨by omega, zE9 hBI (by omega) (Decidable.not_not.1 g10_4) (by omega) (fun h => absurd h (by omega)), by rw [hkn]; exact zGT hBI (by omega) (fun h => absurd h (by omega))⟩, hw.sel [0, 1, 2, 3, 4, 5] rfl (by decide), (by omega)⟩)
   ·
    refine yG rfl (zL (zB (zC rfl (yC (pR hlv) rfl rfl (zC rfl (zA (zT ?_)))))))
    refine xT (fun (j : Nat) (kn2 : List (Nat × LeaD)) => [(0, .pointer (some ⟨b, 0, none⟩)), (1, Vi now), (2, Vn last), (4, lv), (11, .pointer (some ⟨b1_, 0, none⟩)), (85, lv), (86, Vj ls.length), (87, Vj j)]) (fun (j : Nat) (kn2 : List (Nat × LeaD)) => j ≤ ls.length ∧ LeasOk now last (ls.take j) ∧ kn2 = KL (ls.take j)) (fun (j : Nat) (kn2 : List (Nat × LeaD)) => [Res.row b 111 [.map (some bm), .map (some lm), Vi now0, Vn cnt0], Res.mp Value.string yD bm kb, Res.mp yA zZ lm kl, Res.row b1_ 111 [.map (some bm2_), .map (some lm3_), Vi now, Vn last], Res.mp Value.string yD bm2_ kn, Res.mp yA zZ lm3_ kn2]) (fun (j : Nat) (kn2 : List (Nat × LeaD)) => ls.length - j) (fun w' hw => ⟨0, [], ⟨rfl, rfl, rfl, rfl, rfl, rfl, rfl, rfl, trivial⟩, ⟨Nat.zero_le _, LeasOk.nil _ _, rfl⟩, hw⟩) (fun j kn2 g hΦ => ?_)
    have hj := hΦ.1
    have hLI := hΦ.2.1
    have hkn2 := hΦ.2.2
    refine zB (yI rfl rfl rfl (zA (zL (zU rfl (fun c8 => ?_) (fun c8 => ?_)))))
    ·
     refine zK (zL (zT (zB (zC rfl (zH (pR hlv) 5 j rfl rfl rfl (by omega) rfl (xh (pR hlv) 5 j (off := yn lv + j * 5) (fun _ => rfl) rfl rfl (by omega) rfl (yF (v := .agg #[Vn 0, Vn 0, .string (⟨#[]⟩ : ByteArray), Vi 0, Vi 0]) (by kernel_rfl) rfl (fun b15 => zD rfl (zh 6 rfl rfl rfl (z8 rfl) rfl (zA (zL (zg [0, 1, 2, 4, 6] rfl (by decide) (by kernel_rfl) (fun w' hw hS => ?_)))))))))))))
     refine zF 0 rfl (zQ) hS (zF 1 rfl (zi (o := 2) rfl) hS (zF 2 rfl (zo 4 (v := .string ((zI ls j).key)) rfl rfl rfl) hS (zF 4 rfl (zi (o := 3) rfl) hS (zF 5 rfl (zo 4 (v := Vi ((zI ls j).amount)) rfl rfl rfl) hS (zY 3 rfl hw (zJ rfl rfl (fun w' hw => (zAN b1_ bm2_ lm3_ now last kn2 ((zI ls j).key) w' (hw.give [3, 5] rfl (by decide))).mono ?_)))))))
     rintro _ w1 ⟨n4_, rfl, hf17_3, hO⟩
     refine (?_ : CL _ _ _ _ _ _ (Own w S [Res.row b 111 [.map (some bm), .map (some lm), Vi now0, Vn cnt0], Res.mp Value.string yD bm kb, Res.mp yA zZ lm kl, Res.mp Value.string yD bm2_ kn, Res.row b15 76 (LeaD.cells (zI ls j)), Res.row b1_ 111 [.map (some bm2_), .map (some lm3_), Vi now, Vn last], Res.mp yA zZ lm3_ kn2])) w1 (hw.frameL [3, 5] rfl hO)
     refine zG [0, 1, 2, 3, 4] rfl (by decide) (fun w' hw hS => zY 6 rfl hw (yj (e := 2) (sz := 1) (vs := [Vi n4_, Vi ((zI ls j).amount)]) (by kernel_rfl) rfl rfl (by simp [Value.cells]) (by decide) rfl (fun b99 => zG [0, 1, 2, 3, 4] rfl (by decide) (fun w' hw hS => zY 7 rfl hw (zJ rfl rfl (fun w' hw => (zGf (.slice (some ⟨b99, 0, none⟩) 2 2) [n4_, (zI ls j).amount] w' rfl (by show 0 ≤ n4_ ∧ n4_ ≤ _; rw [hf17_3, hkn2, (zAR hLI _).1]; exact (zAR hLI _).2) (by show _ ≤ (zI ls j).amount ∧ (zI ls j).amount ≤ _; exact hli _ (yM (by omega))) (hw.rdVec0 7 rfl)).mono ?_))))))
     rintro _ w1 ⟨n5_, e6_, rfl, hf17_7, hO⟩
     refine (?_ : CL _ _ _ _ _ _ (Own w S [Res.row b 111 [.map (some bm), .map (some lm), Vi now0, Vn cnt0], Res.mp Value.string yD bm kb, Res.mp yA zZ lm kl, Res.mp Value.string yD bm2_ kn, Res.row b15 76 (LeaD.cells (zI ls j)), Res.row b1_ 111 [.map (some bm2_), .map (some lm3_), Vi now, Vn last], Res.mp yA zZ lm3_ kn2, Res.vec 2 1 (.slice (some ⟨b99, 0, none⟩) 2 2) [n4_, (zI ls j).amount].length ([n4_, (zI ls j).amount].flatMap I1)])) w1 (hw.frame0 hO)
     refine zG [0, 1, 2, 3, 4] rfl (by decide) (fun w' hw hS => zF 8 rfl (zQ) hS (zF 9 rfl (ya (vs := [Vi n5_, Vi e6_]) rfl rfl) hS (zF 10 rfl (ya (vs := [Vi n5_, Vi e6_]) rfl rfl) hS (zF 11 rfl (yx) hS (zF 12 rfl (yx) hS (zR ?_))))))
     refine (?_ : C _ _ _ _ _ _ _ (Own w S [Res.row b 111 [.map (some bm), .map (some lm), Vi now0, Vn cnt0], Res.mp Value.string yD bm kb, Res.mp yA zZ lm kl, Res.mp Value.string yD bm2_ kn, Res.row b15 76 (LeaD.cells (zI ls j)), Res.row b1_ 111 [.map (some bm2_), .map (some lm3_), Vi now, Vn last], Res.mp yA zZ lm3_ kn2, Res.vec 2 1 (.slice (some ⟨b99, 0, none⟩) 2 2) [n4_, (zI ls j).amount].length ([n4_, (zI ls j).amount].flatMap I1)])) _ hw
     refine zL (zL (zg [0, 1, 2, 3, 4, 5, 6, 7] rfl (by decide) (by kernel_rfl) (fun w' hw hS => zF 0 rfl (zQ) hS (zF 1 rfl (zG9 rfl rfl) hS (zF 2 rfl (zQ) hS ?_)))))
     by_cases g18_2 : e6_ ≠ 0
     ·
      refine zc 3 rfl rfl (gT g18_2) rfl hS (zc 4 rfl rfl (gT g18_2) rfl hS (zc 5 rfl rfl (gT g18_2) rfl hS (zc 6 rfl rfl (gT g18_2) rfl hS (zc 7 rfl rfl (gT g18_2) rfl hS (zF 8 rfl (y5 (gT g18_2)) hS (zF 9 rfl (zQ) hS (zc 10 rfl rfl rfl rfl hS (zc 11 rfl rfl rfl rfl hS (zc 12 rfl rfl rfl rfl hS (y8 13 rfl rfl rfl hS (y8 14 rfl rfl rfl hS (y8 15 rfl rfl rfl hS ?_))))))))))))
      refine y8 16 rfl rfl rfl hS (y8 17 rfl rfl rfl hS (y8 18 rfl rfl rfl hS (y8 19 rfl rfl rfl hS (y8 20 rfl rfl rfl hS (y8 21 rfl rfl rfl hS (zc 22 rfl rfl rfl rfl hS (zF 23 rfl (y5 rfl) hS (zR ?_))))))))
      refine (?_ : C _ _ _ _ _ _ _ (Own w S [Res.row b 111 [.map (some bm), .map (some lm), Vi now0, Vn cnt0], Res.mp Value.string yD bm kb, Res.mp yA zZ lm kl, Res.mp Value.string yD bm2_ kn, Res.row b15 76 (LeaD.cells (zI ls j)), Res.row b1_ 111 [.map (some bm2_), .map (some lm3_), Vi now, Vn last], Res.mp yA zZ lm3_ kn2, Res.vec 2 1 (.slice (some ⟨b99, 0, none⟩) 2 2) [n4_, (zI ls j).amount].length ([n4_, (zI ls j).amount].flatMap I1)])) _ hw
      refine jz rfl (zB (zD rfl (zA ?_)))
      exact zM (z6 (v := Vi 2) rfl rfl (fun w' hw => ⟨bm, lm, now0, cnt0, kb, kl, 2, rfl, .inr ⟨rfl, (fun q => zDq (i := j) q.leas (by omega) (.inl (by have := zJ7 hf17_7 g18_2; rw [hf17_3, hkn2, (zAR hLI _).1] at this; exact this))), rfl, rfl, rfl, rfl⟩, hw.sel [0, 1, 2] rfl (by decide)⟩))
     ·
      refine zl 3 rfl rfl (gF g18_2) (kI (cs := (LeaD.cells (zI ls j))) 4 rfl rfl) hS (zl 4 rfl rfl (gF g18_2) (zQ) hS (zl 5 rfl rfl (gF g18_2) (zQ) hS (zY 6 rfl hw (zO rfl (gF g18_2) (zJ rfl rfl (fun w' hw => (zKE (zI ls j) now last w').mono ?_))))))
      rintro _ w1 ⟨rfl, hO⟩
      refine (?_ : CL _ _ _ _ _ _ (Own w S [Res.row b 111 [.map (some bm), .map (some lm), Vi now0, Vn cnt0], Res.mp Value.string yD bm kb, Res.mp yA zZ lm kl, Res.mp Value.string yD bm2_ kn, Res.row b15 76 (LeaD.cells (zI ls j)), Res.row b1_ 111 [.map (some bm2_), .map (some lm3_), Vi now, Vn last], Res.mp yA zZ lm3_ kn2, Res.vec 2 1 (.slice (some ⟨b99, 0, none⟩) 2 2) [n4_, (zI ls j).amount].length ([n4_, (zI ls j).amount].flatMap I1)])) w1 (hw.frame0 hO)
      refine zG [0, 1, 2, 3, 4, 5, 6, 7] rfl (by decide) (fun w' hw hS => zl 7 rfl rfl (gF g18_2) (jN (q := zA9 now last (zI ls j)) rfl) hS (zF 8 rfl (yz (gF g18_2)) hS (zF 9 rfl (zQ) hS ?_)))
      by_cases g18_9 : ¬ (zA9 now last (zI ls j))
      ·
       refine zc 10 rfl rfl (gT g18_9) rfl hS (zc 11 rfl rfl (gT g18_9) rfl hS (zc 12 rfl rfl (gT g18_9) rfl hS (y8 13 rfl rfl rfl hS (y8 14 rfl rfl rfl hS (y8 15 rfl rfl rfl hS (y8 16 rfl rfl rfl hS (y8 17 rfl rfl rfl hS (y8 18 rfl rfl rfl hS (y8 19 rfl rfl rfl hS (y8 20 rfl rfl rfl hS (y8 21 rfl rfl rfl hS (zc 22 rfl rfl (gT g18_9) rfl hS ?_))))))))))))
       refine zF 23 rfl (y5 (gT g18_9)) hS (zR ?_)
       refine (?_ : C _ _ _ _ _ _ _ (Own w S [Res.row b 111 [.map (some bm), .map (some lm), Vi now0, Vn cnt0], Res.mp Value.string yD bm kb, Res.mp yA zZ lm kl, Res.mp Value.string yD bm2_ kn, Res.row b15 76 (LeaD.cells (zI ls j)), Res.row b1_ 111 [.map (some bm2_), .map (some lm3_), Vi now, Vn last], Res.mp yA zZ lm3_ kn2, Res.vec 2 1 (.slice (some ⟨b99, 0, none⟩) 2 2) [n4_, (zI ls j).amount].length ([n4_, (zI ls j).amount].flatMap I1)])) _ hw
       refine jz rfl (zB (zD rfl (zA ?_)))
       exact zM (z6 (v := Vi 2) rfl rfl (fun w' hw => ⟨bm, lm, now0, cnt0, kb, kl, 2, rfl, .inr ⟨rfl, (fun q => zDq (i := j) q.leas (by omega) (.inr (.inl g18_9))), rfl, rfl, rfl, rfl⟩, hw.sel [0, 1, 2] rfl (by decide)⟩))
      ·
       refine zl 10 rfl rfl (gF g18_9) (zQ) hS (zl 11 rfl rfl (gF g18_9) (zBO rfl rfl) hS (zl 12 rfl rfl (gF g18_9) (zQ) hS ?_))
       by_cases g18_12 : 0 < ((j : Nat) : Int)
       ·
        refine zl 13 rfl rfl (gT g18_12) (zi (o := 0) rfl) hS (zl 14 rfl rfl (gT g18_12) (zo 4 (v := Vn ((zI ls j).id)) rfl rfl rfl) hS (zl 15 rfl rfl (gT g18_12) (zQ) hS (zl 16 rfl rfl (gT g18_12) (zQ) hS (zl 17 rfl rfl (gT g18_12) (kc rfl rfl (zr (by omega))) hS (zl 18 rfl rfl (gT g18_12) (yR (pR hlv) 5 (j - 1) rfl rfl (by omega) (by omega)) hS (zl 19 rfl rfl (gT g18_12) (zi (o := 0) rfl) hS (zl 20 rfl rfl (gT g18_12) (yq (pR hlv) 5 (j - 1) 0 (off := yn lv + (j - 1) * 5 + 0) (fun _ => rfl) rfl (by omega) (by omega) rfl) hS (zl 21 rfl rfl (gT g18_12) (zAj rfl rfl) hS (zl 22 rfl rfl (gF g18_9) (y5 (gT g18_12)) hS (zF 23 rfl (yz (gF g18_9)) hS (zR ?_)))))))))))
        refine (?_ : C _ _ _ _ _ _ _ (Own w S [Res.row b 111 [.map (some bm), .map (some lm), Vi now0, Vn cnt0], Res.mp Value.string yD bm kb, Res.mp yA zZ lm kl, Res.mp Value.string yD bm2_ kn, Res.row b15 76 (LeaD.cells (zI ls j)), Res.row b1_ 111 [.map (some bm2_), .map (some lm3_), Vi now, Vn last], Res.mp yA zZ lm3_ kn2, Res.vec 2 1 (.slice (some ⟨b99, 0, none⟩) 2 2) [n4_, (zI ls j).amount].length ([n4_, (zI ls j).amount].flatMap I1)])) _ hw
        refine zU rfl (fun c11 => ?_) (fun c11 => ?_)
        ·
         refine zB (zD rfl (zA ?_))
         exact zM (z6 (v := Vi 2) rfl rfl (fun w' hw => ⟨bm, lm, now0, cnt0, kb, kl, 2, rfl, .inr ⟨rfl, (fun q => zDq (i := j) q.leas (by omega) (.inr (.inr ⟨by omega, by omega⟩))), rfl, rfl, rfl, rfl⟩, hw.sel [0, 1, 2] rfl (by decide)⟩))
        ·
         refine zK (zg [0, 1, 2, 3, 4, 5, 7] rfl (by decide) (by kernel_rfl) (fun w' hw hS => zF 0 rfl (zQ) hS (zF 1 rfl (z7 rfl) hS (zF 2 rfl (zi (o := 1) rfl) hS (zF 3 rfl (zo 5 (v := .map (some lm3_)) rfl rfl rfl) hS (zF 4 rfl (zi (o := 0) rfl) hS (zF 5 rfl (zo 4 (v := Vn ((zI ls j).id)) rfl rfl rfl) hS (zF 6 rfl (kI (cs := (LeaD.cells (zI ls j))) 4 rfl rfl) hS (zY 7 rfl hw (jP 6 (k := (zI ls j).id) (v := (zI ls j)) zFF zBu rfl rfl rfl rfl (zG [0, 1, 2, 3, 4, 5, 7] rfl (by decide) (fun w' hw hS => zR ?_))))))))))))
         refine (?_ : C _ _ _ _ _ _ _ (Own w S [Res.row b 111 [.map (some bm), .map (some lm), Vi now0, Vn cnt0], Res.mp Value.string yD bm kb, Res.mp yA zZ lm kl, Res.mp Value.string yD bm2_ kn, Res.row b15 76 (LeaD.cells (zI ls j)), Res.row b1_ 111 [.map (some bm2_), .map (some lm3_), Vi now, Vn last], Res.mp yA zZ lm3_ (xJ ((zI ls j).id) (zI ls j) kn2), Res.vec 2 1 (.slice (some ⟨b99, 0, none⟩) 2 2) [n4_, (zI ls j).amount].length ([n4_, (zI ls j).amount].flatMap I1)])) _ hw
         refine zd (zt rfl rfl (zr (by omega)) rfl (zC rfl ?_))
         exact zj (fun w' hw => ⟨j + 1, xJ (zI ls j).id (zI ls j) kn2, ⟨rfl, rfl, rfl, rfl, rfl, rfl, rfl, rfl, trivial⟩, ⟨by omega, zEt hLI (by omega) (Decidable.not_not.1 g18_9) (by have := zIN hf17_7 g18_2; rw [hf17_3, hkn2, (zAR hLI _).1] at this; exact this) (fun _ => by omega), by rw [hkn2]; exact zGU hLI (by omega) (fun _ => by omega)⟩, hw.sel [0, 1, 2, 5, 3, 6] rfl (by decide), (by omega)⟩)
       ·
        refine zc 13 rfl rfl (gF g18_12) rfl hS (zc 14 rfl rfl (gF g18_12) rfl hS (zc 15 rfl rfl (gF g18_12) rfl hS (zc 16 rfl rfl (gF g18_12) rfl hS (zc 17 rfl rfl (gF g18_12) rfl hS (zc 18 rfl rfl (gF g18_12) rfl hS (zc 19 rfl rfl (gF g18_12) rfl hS (zc 20 rfl rfl (gF g18_12) rfl hS (zc 21 rfl rfl (gF g18_12) rfl hS (zl 22 rfl rfl (gF g18_9) (yz (gF g18_12)) hS (zF 23 rfl (yz (gF g18_9)) hS (zR ?_)))))))))))
        refine (?_ : C _ _ _ _ _ _ _ (Own w S [Res.row b 111 [.map (some bm), .map (some lm), Vi now0, Vn cnt0], Res.mp Value.string yD bm kb, Res.mp yA zZ lm kl, Res.mp Value.string yD bm2_ kn, Res.row b15 76 (LeaD.cells (zI ls j)), Res.row b1_ 111 [.map (some bm2_), .map (some lm3_), Vi now, Vn last], Res.mp yA zZ lm3_ kn2, Res.vec 2 1 (.slice (some ⟨b99, 0, none⟩) 2 2) [n4_, (zI ls j).amount].length ([n4_, (zI ls j).amount].flatMap I1)])) _ hw
        refine xQ rfl (zK (zg [0, 1, 2, 3, 4, 5, 7] rfl (by decide) (by kernel_rfl) (fun w' hw hS => zF 0 rfl (zQ) hS (zF 1 rfl (z7 rfl) hS (zF 2 rfl (zi (o := 1) rfl) hS (zF 3 rfl (zo 5 (v := .map (some lm3_)) rfl rfl rfl) hS (zF 4 rfl (zi (o := 0) rfl) hS (zF 5 rfl (zo 4 (v := Vn ((zI ls j).id)) rfl rfl rfl) hS (zF 6 rfl (kI (cs := (LeaD.cells (zI ls j))) 4 rfl rfl) hS (zY 7 rfl hw (jP 6 (k := (zI ls j).id) (v := (zI ls j)) zFF zBu rfl rfl rfl rfl (zG [0, 1, 2, 3, 4, 5, 7] rfl (by decide) (fun w' hw hS => ?_)))))))))))))
        refine zR ?_
        refine (?_ : C _ _ _ _ _ _ _ (Own w S [Res.row b 111 [.map (some bm), .map (some lm), Vi now0, Vn cnt0], Res.mp Value.string yD bm kb, Res.mp yA zZ lm kl, Res.mp Value.string yD bm2_ kn, Res.row b15 76 (LeaD.cells (zI ls j)), Res.row b1_ 111 [.map (some bm2_), .map (some lm3_), Vi now, Vn last], Res.mp yA zZ lm3_ (xJ ((zI ls j).id) (zI ls j) kn2), Res.vec 2 1 (.slice (some ⟨b99, 0, none⟩) 2 2) [n4_, (zI ls j).amount].length ([n4_, (zI ls j).amount].flatMap I1)])) _ hw
        refine zd (zt rfl rfl (zr (by omega)) rfl (zC rfl ?_))
        exact zj (fun w' hw => ⟨j + 1, xJ (zI ls j).id (zI ls j) kn2, ⟨rfl, rfl, rfl, rfl, rfl, rfl, rfl, rfl, trivial⟩, ⟨by omega, zEt hLI (by omega) (Decidable.not_not.1 g18_9) (by have := zIN hf17_7 g18_2; rw [hf17_3, hkn2, (zAR hLI _).1] at this; exact this) (fun _ => by omega), by rw [hkn2]; exact zGU hLI (by omega) (fun _ => by omega)⟩, hw.sel [0, 1, 2, 5, 3, 6] rfl (by decide), (by omega)⟩)
    ·
     refine yG rfl (zB (zC rfl (zC rfl (zm rfl rfl (yN (cs := [.map (some bm2_), .map (some lm3_), Vi now, Vn last]) 3 rfl rfl rfl (zm rfl rfl (zh 0 rfl rfl rfl (z8 rfl) rfl (zA (zB (zD rfl (zA ?_)))))))))))
     exact zM (z6 (v := Vi 0) rfl rfl (fun w' hw => ⟨bm2_, lm3_, now, last, kn, kn2, 0, rfl, .inl ⟨rfl, ⟨⟨by omega, by omega⟩, by omega, by omega, (by have := hBI; rwa [List.take_of_length_le (by omega)] at this), (by have := hLI; rwa [List.take_of_length_le (by omega)] at this)⟩, rfl, rfl, (by rw [hkn, List.take_of_length_le (by omega)]), (by rw [hkn2, List.take_of_length_le (by omega)])⟩, hw.sel [0, 4, 5] rfl (by decide)⟩))
end Go.Proofs.YthincafbmpialaaGreat
