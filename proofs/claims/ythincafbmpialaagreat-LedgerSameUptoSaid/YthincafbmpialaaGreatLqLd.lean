import Derived.Test.YthincafbmpialaaGreatLqT
set_option linter.unusedSectionVars false
set_option linter.unusedSimpArgs false
set_option linter.unusedVariables false
set_option maxRecDepth 10000
namespace Go.Proofs.YthincafbmpialaaGreat
open Go Go.Sc Go.Proofs
theorem zGL {x : LeaD} {now : Int} {last : Nat} : (((((((((0 : Nat) : Int) < ((x.id : Nat) : Int)) ∧ (((x.id : Nat) : Int) ≤ ((last : Nat) : Int))) ∧ (((0 : Nat) : Int) < ((x.session : Nat) : Int))) ∧ (yY x.key)) ∧ (1 ≤ x.amount)) ∧ (now < x.until_)) ∧ (x.until_ ≤ 4611686018427387904)) ↔ zA3 now last x := by
  unfold zA3
  constructor
  · rintro ⟨⟨⟨⟨⟨⟨a, b⟩, c⟩, d⟩, e⟩, f⟩, k⟩
    exact ⟨by omega, by omega, by omega, d, e, f, k⟩
  · rintro ⟨a, b, c, d, e, f, k⟩
    exact ⟨⟨⟨⟨⟨⟨by omega, by omega⟩, by omega⟩, d⟩, e⟩, f⟩, k⟩
theorem zI6 {n a m e : Int} (h : (9223372036854775807 < zI [n, a] 0 + zI [n, a] 1 ∧ e = 3 ∧ m = 0) ∨ (zI [n, a] 0 + zI [n, a] 1 ≤ 9223372036854775807 ∧ e = 0 ∧ m = zI [n, a] 0 + zI [n, a] 1)) (he : e ≠ 0) : 9223372036854775807 < n + a := by
  rcases h with h | h
  · exact h.1
  · exact absurd h.2.1 he
theorem zHQ {n a m e : Int} (h : (9223372036854775807 < zI [n, a] 0 + zI [n, a] 1 ∧ e = 3 ∧ m = 0) ∨ (zI [n, a] 0 + zI [n, a] 1 ≤ 9223372036854775807 ∧ e = 0 ∧ m = zI [n, a] 0 + zI [n, a] 1)) (he : ¬ e ≠ 0) : n + a ≤ 9223372036854775807 := by
  rcases h with h | h
  · have := h.2.1; omega
  · exact h.1
theorem zIc (x : LeaD) (now : Int) (last : Nat) (w : World) : Rets Tryz.prog 79 #[.agg (LeaD.cells x).toArray, Vi now, Vn last] w fun u_ w' => u_ = .bool (decide (zA3 now last x)) ∧ Own w [] [] w' := by
  refine zb Tryz.func79 rfl Tryz.ntmps79 (Own.start w) ?_
  refine zB (yb rfl rfl (fun b3 => zD rfl (zA (zB (zX (o := 0) rfl rfl (zY 0 (v := Vn x.id) rfl rfl rfl rfl (y9 rfl rfl rfl (zC rfl (yW (q := ((0 : Nat) : Int) < ((x.id : Nat) : Int)) 4 3 [14, 13, 12, 11] (((x.id : Nat) : Int) ≤ ((last : Nat) : Int)) rfl rfl rfl rfl rfl rfl trivial rfl (fun h1_3 => ?_) (fun g1_8 => ?_))))))))))
  ·
   refine zS rfl (gT h1_3) (zX (o := 0) rfl rfl (zS rfl (gT h1_3) (zY 0 (v := Vn x.id) rfl rfl rfl rfl (zS rfl (gT h1_3) (zC rfl (zS rfl (gT h1_3) (jh rfl rfl rfl ?_)))))))
   exact ya rfl (fun _ hw => hw)
  refine zC rfl (yW (q := (((0 : Nat) : Int) < ((x.id : Nat) : Int)) ∧ (((x.id : Nat) : Int) ≤ ((last : Nat) : Int))) 3 9 [19, 18, 17] (((0 : Nat) : Int) < ((x.session : Nat) : Int)) rfl rfl rfl rfl rfl rfl trivial rfl (fun h1_9 => ?_) (fun g1_13 => ?_))
  ·
   refine zS rfl (gT h1_9) (zX (o := 1) rfl rfl (zS rfl (gT h1_9) (zY 0 (v := Vn x.session) rfl rfl rfl rfl (zS rfl (gT h1_9) (y9 rfl rfl rfl ?_)))))
   exact ya rfl (fun _ hw => hw)
  refine zC rfl (yW (q := ((((0 : Nat) : Int) < ((x.id : Nat) : Int)) ∧ (((x.id : Nat) : Int) ≤ ((last : Nat) : Int))) ∧ (((0 : Nat) : Int) < ((x.session : Nat) : Int))) 3 14 [24, 23, 22] (yY x.key) rfl rfl rfl rfl rfl rfl trivial rfl (fun h1_14 => ?_) (fun g1_18 => ?_))
  ·
   refine zS rfl (gT h1_14) (zX (o := 2) rfl rfl (zS rfl (gT h1_14) (zY 0 (v := .string x.key) rfl rfl rfl rfl (zS rfl (gT h1_14) (zK rfl rfl (fun w' hw => (zBq x.key w').mono ?_))))))
   rintro _ w1 ⟨rfl, hO⟩
   refine (?_ : CL _ _ _ _ _ _ (Own w [] [Res.row b3 76 (LeaD.cells x)])) w1 (hw.frame0 hO)
   exact ya rfl (fun _ hw => hw)
  refine zC rfl (yW (q := (((((0 : Nat) : Int) < ((x.id : Nat) : Int)) ∧ (((x.id : Nat) : Int) ≤ ((last : Nat) : Int))) ∧ (((0 : Nat) : Int) < ((x.session : Nat) : Int))) ∧ (yY x.key)) 3 19 [29, 28, 27] (1 ≤ x.amount) rfl rfl rfl rfl rfl rfl trivial rfl (fun h1_19 => ?_) (fun g1_23 => ?_))
  ·
   refine zS rfl (gT h1_19) (zX (o := 3) rfl rfl (zS rfl (gT h1_19) (zY 0 (v := Vi x.amount) rfl rfl rfl rfl (zS rfl (gT h1_19) (xG rfl rfl rfl ?_)))))
   exact ya rfl (fun _ hw => hw)
  refine zC rfl (yW (q := ((((((0 : Nat) : Int) < ((x.id : Nat) : Int)) ∧ (((x.id : Nat) : Int) ≤ ((last : Nat) : Int))) ∧ (((0 : Nat) : Int) < ((x.session : Nat) : Int))) ∧ (yY x.key)) ∧ (1 ≤ x.amount)) 4 24 [35, 34, 33, 32] (now < x.until_) rfl rfl rfl rfl rfl rfl trivial rfl (fun h1_24 => ?_) (fun g1_29 => ?_))
  ·
   refine zS rfl (gT h1_24) (zX (o := 4) rfl rfl (zS rfl (gT h1_24) (zY 0 (v := Vi x.until_) rfl rfl rfl rfl (zS rfl (gT h1_24) (zC rfl (zS rfl (gT h1_24) (y9 rfl rfl rfl ?_)))))))
   exact ya rfl (fun _ hw => hw)
  refine zC rfl (yW (q := (((((((0 : Nat) : Int) < ((x.id : Nat) : Int)) ∧ (((x.id : Nat) : Int) ≤ ((last : Nat) : Int))) ∧ (((0 : Nat) : Int) < ((x.session : Nat) : Int))) ∧ (yY x.key)) ∧ (1 ≤ x.amount)) ∧ (now < x.until_)) 3 30 [40, 39, 38] (x.until_ ≤ 4611686018427387904) rfl rfl rfl rfl rfl rfl trivial rfl (fun h1_30 => ?_) (fun g1_34 => ?_))
  ·
   refine zS rfl (gT h1_30) (zX (o := 4) rfl rfl (zS rfl (gT h1_30) (zY 0 (v := Vi x.until_) rfl rfl rfl rfl (zS rfl (gT h1_30) (jh rfl rfl rfl ?_)))))
   exact ya rfl (fun _ hw => hw)
  refine zD rfl (zA ?_)
  exact zP (z8 (v := .bool (decide (((((((((0 : Nat) : Int) < ((x.id : Nat) : Int)) ∧ (((x.id : Nat) : Int) ≤ ((last : Nat) : Int))) ∧ (((0 : Nat) : Int) < ((x.session : Nat) : Int))) ∧ (yY x.key)) ∧ (1 ≤ x.amount)) ∧ (now < x.until_)) ∧ (x.until_ ≤ 4611686018427387904)))) rfl rfl (fun w' hw => ⟨(by congr 1; exact decide_eq_decide.2 (zGL)), hw.drop⟩))
theorem zKp {S : List Nat} (b bm lm : Nat) (now0 : Int) (cnt0 : Nat) (kb : List (ByteArray × Int)) (kl : List (Nat × LeaD)) (now : Int) (last : Nat) (bv : Value) (bs : List BudD) (lv : Value) (ls : List LeaD) (w : World) (hbl : bs.length ≤ 2000000) (hll : ls.length ≤ 2000000) (hbi : ∀ b ∈ bs, xD b.amount) (hli : ∀ l ∈ ls, xD l.amount) (hin : Own w S [Res.row b 111 [.map (some bm), .map (some lm), Vi now0, Vn cnt0], Res.mp Value.string zw bm kb, Res.mp zq zU lm kl] w) (hbv : Rd w S (Res.sl bv bs.length (bs.flatMap BudD.cells))) (hlv : Rd w S (Res.sl lv ls.length (ls.flatMap LeaD.cells))) : Rets Tryz.prog 44 #[.pointer (some ⟨b, 0, none⟩), Vi now, Vn last, bv, lv] w fun u_ w' => ∃ (bm' lm' : Nat) (now' : Int) (cnt' : Nat) (kb' : List (ByteArray × Int)) (kl' : List (Nat × LeaD)) (e : Int), u_ = Vi e ∧ ((e = 0 ∧ LoadOk now last bs ls ∧ now' = now ∧ cnt' = last ∧ kb' = KB bs ∧ kl' = KL ls) ∨ (e = 2 ∧ ¬ LoadOk now last bs ls ∧ now' = now0 ∧ cnt' = cnt0 ∧ kb' = kb ∧ kl' = kl)) ∧ Own w S [Res.row b 111 [.map (some bm'), .map (some lm'), Vi now', Vn cnt'], Res.mp Value.string zw bm' kb', Res.mp zq zU lm' kl'] w' := by
  refine zb Tryz.func44 rfl Tryz.ntmps44 hin ?_
  refine zB (zD rfl (zA (zL (zB (zC rfl (yz (by kernel_rfl) rfl rfl rfl (zA (xO rfl (zM (zL (zB (zC rfl ?_))))))))))))
  refine yZ rfl rfl rfl (zC rfl (y6 (q := now < 0) 2 2 [24, 23] (2305843009213693952 < now) rfl rfl rfl rfl rfl rfl trivial rfl (fun h3_2 => ?_) (fun g3_5 => ?_)))
  ·
   refine zS rfl (gF h3_2) (zC rfl (zS rfl (gF h3_2) (y9 rfl rfl rfl ?_)))
   exact ya rfl (fun _ hw => hw)
  refine zC rfl (y6 (q := (now < 0) ∨ (2305843009213693952 < now)) 3 6 [29, 28, 27] (64 < ((bs.length : Nat) : Int)) rfl rfl rfl rfl rfl rfl trivial rfl (fun h3_6 => ?_) (fun g3_10 => ?_))
  ·
   refine zS rfl (gF h3_6) (zC rfl (zS rfl (gF h3_6) (yO (pR hbv) rfl rfl (zS rfl (gF h3_6) (y9 rfl rfl rfl ?_)))))
   exact ya rfl (fun _ hw => hw)
  refine zC rfl (y6 (q := ((now < 0) ∨ (2305843009213693952 < now)) ∨ (64 < ((bs.length : Nat) : Int))) 3 11 [34, 33, 32] (128 < ((ls.length : Nat) : Int)) rfl rfl rfl rfl rfl rfl trivial rfl (fun h3_11 => ?_) (fun g3_15 => ?_))
  ·
   refine zS rfl (gF h3_11) (zC rfl (zS rfl (gF h3_11) (yO (pR hlv) rfl rfl (zS rfl (gF h3_11) (y9 rfl rfl rfl ?_)))))
   exact ya rfl (fun _ hw => hw)
  refine zA (zZ rfl (fun c2 => ?_) (fun c2 => ?_))
  ·
   refine zB (zD rfl (zA ?_))
   exact zP (z8 (v := Vi 2) rfl rfl (fun w' hw => ⟨bm, lm, now0, cnt0, kb, kl, 2, rfl, .inr ⟨rfl, (fun q => by have h1 := q.time; have h2 := q.blen; have h3 := q.llen; omega), rfl, rfl, rfl, rfl⟩, hw⟩))
  ·
   refine zM (zB (zK rfl rfl (fun w' hw => (zJ4 w').mono ?_)))
   rintro _ w1 ⟨b1_, bm2_, lm3_, rfl, hO⟩
   refine (?_ : CL _ _ _ _ _ _ (Own w S [Res.row b 111 [.map (some bm), .map (some lm), Vi now0, Vn cnt0], Res.mp Value.string zw bm kb, Res.mp zq zU lm kl, Res.row b1_ 111 [.map (some bm2_), .map (some lm3_), Vi 0, Vn 0], Res.mp Value.string zw bm2_ ([] : List (ByteArray × Int)), Res.mp zq zU lm3_ ([] : List (Nat × LeaD))])) w1 (hw.frame0 hO)
   refine zD rfl (zA (zB (zC rfl (zC rfl (zC rfl (zC rfl (zr rfl rfl (zX (o := 2) rfl rfl (xr (cs := [.map (some bm2_), .map (some lm3_), Vi 0, Vn 0]) 3 rfl rfl rfl rfl rfl (zr rfl rfl (zX (o := 3) rfl rfl (xr (cs := [.map (some bm2_), .map (some lm3_), Vi now, Vn 0]) 3 rfl rfl rfl rfl rfl ?_))))))))))))
   refine zA (zL (zB (zC rfl (yO (pR hbv) rfl rfl (zC rfl (zA (zQ ?_)))))))
   refine xY (fun (i : Nat) (kn : List (ByteArray × Int)) => [(0, .pointer (some ⟨b, 0, none⟩)), (1, Vi now), (2, Vn last), (3, bv), (4, lv), (11, .pointer (some ⟨b1_, 0, none⟩)), (45, bv), (46, Vj bs.length), (47, Vj i)]) (fun (i : Nat) (kn : List (ByteArray × Int)) => i ≤ bs.length ∧ BudsOk (bs.take i) ∧ kn = KB (bs.take i)) (fun (i : Nat) (kn : List (ByteArray × Int)) => [Res.row b 111 [.map (some bm), .map (some lm), Vi now0, Vn cnt0], Res.mp Value.string zw bm kb, Res.mp zq zU lm kl, Res.row b1_ 111 [.map (some bm2_), .map (some lm3_), Vi now, Vn last], Res.mp Value.string zw bm2_ kn, Res.mp zq zU lm3_ ([] : List (Nat × LeaD))]) (fun (i : Nat) (kn : List (ByteArray × Int)) => bs.length - i) (fun w' hw => ⟨0, [], ⟨rfl, rfl, rfl, rfl, rfl, rfl, rfl, rfl, rfl, trivial⟩, ⟨Nat.zero_le _, BudsOk.nil, rfl⟩, hw⟩) (fun i kn g hΦ => ?_)
   have hi := hΦ.1
   have hBI := hΦ.2.1
   have hkn := hΦ.2.2
   refine zB (yZ rfl rfl rfl (zA (zL (zZ rfl (fun c3 => ?_) (fun c3 => ?_)))))
   ·
    refine zM (zL (zQ (zB (zC rfl (zH (pR hbv) 2 i rfl rfl rfl (by omega) rfl (jA (pR hbv) 2 i (off := xZ bv + i * 2) (fun _ => rfl) rfl rfl (by omega) rfl (yL (v := .agg #[.string (⟨#[]⟩ : ByteArray), Vi 0]) (by kernel_rfl) rfl (fun b13 => zD rfl (zo 6 rfl rfl rfl (yI rfl) rfl (zA (zL (zL ?_))))))))))))
    refine zi [0, 1, 2, 3, 4, 5, 6] rfl (by decide) (by kernel_rfl) (fun w' hw hS => zG 0 rfl (zy (o := 0) rfl) hS (zG 1 rfl (z7 6 (v := .string ((zI bs i).key)) rfl rfl rfl) hS (ze 2 rfl hw (zK rfl rfl (fun w' hw => (zBq ((zI bs i).key) w').mono ?_)))))
    rintro _ w1 ⟨rfl, hO⟩
    refine (?_ : CL _ _ _ _ _ _ (Own w S [Res.row b 111 [.map (some bm), .map (some lm), Vi now0, Vn cnt0], Res.mp Value.string zw bm kb, Res.mp zq zU lm kl, Res.row b1_ 111 [.map (some bm2_), .map (some lm3_), Vi now, Vn last], Res.mp Value.string zw bm2_ kn, Res.mp zq zU lm3_ ([] : List (Nat × LeaD)), Res.row b13 93 (BudD.cells (zI bs i))])) w1 (hw.frame0 hO)
    refine zF [0, 1, 2, 3, 4, 5, 6] rfl (by decide) (fun w' hw hS => zG 3 rfl (k9 (q := yY ((zI bs i).key)) rfl) hS (zG 4 rfl (zN) hS ?_))
    by_cases g10_4 : ¬ (yY ((zI bs i).key))
    ·
     refine za 5 rfl rfl (gT g10_4) rfl hS (za 6 rfl rfl (gT g10_4) rfl hS (za 7 rfl rfl (gT g10_4) rfl hS (zG 8 rfl (y0 (gT g10_4)) hS (zG 9 rfl (zN) hS (za 10 rfl rfl rfl rfl hS (za 11 rfl rfl rfl rfl hS (za 12 rfl rfl rfl rfl hS (ym 13 rfl rfl rfl hS (ym 14 rfl rfl rfl hS (ym 15 rfl rfl rfl hS (ym 16 rfl rfl rfl hS (ym 17 rfl rfl rfl hS ?_))))))))))))
     refine ym 18 rfl rfl rfl hS (ym 19 rfl rfl rfl hS (ym 20 rfl rfl rfl hS (ym 21 rfl rfl rfl hS (za 22 rfl rfl rfl rfl hS (zG 23 rfl (y0 rfl) hS (zO ?_))))))
     refine (?_ : C _ _ _ _ _ _ _ (Own w S [Res.row b 111 [.map (some bm), .map (some lm), Vi now0, Vn cnt0], Res.mp Value.string zw bm kb, Res.mp zq zU lm kl, Res.row b1_ 111 [.map (some bm2_), .map (some lm3_), Vi now, Vn last], Res.mp Value.string zw bm2_ kn, Res.mp zq zU lm3_ ([] : List (Nat × LeaD)), Res.row b13 93 (BudD.cells (zI bs i))])) _ hw
     refine jg rfl (zB (zD rfl (zA ?_)))
     exact zP (z8 (v := Vi 2) rfl rfl (fun w' hw => ⟨bm, lm, now0, cnt0, kb, kl, 2, rfl, .inr ⟨rfl, (fun q => zDV (i := i) q.buds (by omega) (.inl g10_4)), rfl, rfl, rfl, rfl⟩, hw.sel [0, 1, 2] rfl (by decide)⟩))
    ·
     refine zg 5 rfl rfl (gF g10_4) (zy (o := 1) rfl) hS (zg 6 rfl rfl (gF g10_4) (z7 6 (v := Vi ((zI bs i).amount)) rfl rfl rfl) hS (zg 7 rfl rfl (gF g10_4) (zFm rfl rfl) hS (zG 8 rfl (y3 (gF g10_4)) hS (zG 9 rfl (zN) hS ?_))))
     by_cases g10_9 : ((zI bs i).amount) < 1
     ·
      refine za 10 rfl rfl (gT g10_9) rfl hS (za 11 rfl rfl (gT g10_9) rfl hS (za 12 rfl rfl (gT g10_9) rfl hS (ym 13 rfl rfl rfl hS (ym 14 rfl rfl rfl hS (ym 15 rfl rfl rfl hS (ym 16 rfl rfl rfl hS (ym 17 rfl rfl rfl hS (ym 18 rfl rfl rfl hS (ym 19 rfl rfl rfl hS (ym 20 rfl rfl rfl hS (ym 21 rfl rfl rfl hS (za 22 rfl rfl (gT g10_9) rfl hS ?_))))))))))))
      refine zG 23 rfl (y0 (gT g10_9)) hS (zO ?_)
      refine (?_ : C _ _ _ _ _ _ _ (Own w S [Res.row b 111 [.map (some bm), .map (some lm), Vi now0, Vn cnt0], Res.mp Value.string zw bm kb, Res.mp zq zU lm kl, Res.row b1_ 111 [.map (some bm2_), .map (some lm3_), Vi now, Vn last], Res.mp Value.string zw bm2_ kn, Res.mp zq zU lm3_ ([] : List (Nat × LeaD)), Res.row b13 93 (BudD.cells (zI bs i))])) _ hw
      refine jg rfl (zB (zD rfl (zA ?_)))
      exact zP (z8 (v := Vi 2) rfl rfl (fun w' hw => ⟨bm, lm, now0, cnt0, kb, kl, 2, rfl, .inr ⟨rfl, (fun q => zDV (i := i) q.buds (by omega) (.inr (.inl g10_9))), rfl, rfl, rfl, rfl⟩, hw.sel [0, 1, 2] rfl (by decide)⟩))
     ·
      refine zg 10 rfl rfl (gF g10_9) (zN) hS (zg 11 rfl rfl (gF g10_9) (zA8 rfl rfl) hS (zg 12 rfl rfl (gF g10_9) (zN) hS ?_))
      by_cases g10_12 : 0 < ((i : Nat) : Int)
      ·
       refine zg 13 rfl rfl (gT g10_12) (zy (o := 0) rfl) hS (zg 14 rfl rfl (gT g10_12) (z7 6 (v := .string ((zI bs i).key)) rfl rfl rfl) hS (zg 15 rfl rfl (gT g10_12) (zN) hS (zg 16 rfl rfl (gT g10_12) (zN) hS (zg 17 rfl rfl (gT g10_12) (kN rfl rfl (zz (by omega))) hS (zg 18 rfl rfl (gT g10_12) (yU (pR hbv) 2 (i - 1) rfl rfl (by omega) (by omega)) hS (zg 19 rfl rfl (gT g10_12) (zy (o := 0) rfl) hS (zg 20 rfl rfl (gT g10_12) (yo (pR hbv) 2 (i - 1) 0 (off := xZ bv + (i - 1) * 2 + 0) (fun _ => rfl) rfl (by omega) (by omega) rfl) hS (zg 21 rfl rfl (gT g10_12) (zL4 rfl rfl) hS (zg 22 rfl rfl (gF g10_9) (y0 (gT g10_12)) hS (zG 23 rfl (y3 (gF g10_9)) hS (zO ?_)))))))))))
       refine (?_ : C _ _ _ _ _ _ _ (Own w S [Res.row b 111 [.map (some bm), .map (some lm), Vi now0, Vn cnt0], Res.mp Value.string zw bm kb, Res.mp zq zU lm kl, Res.row b1_ 111 [.map (some bm2_), .map (some lm3_), Vi now, Vn last], Res.mp Value.string zw bm2_ kn, Res.mp zq zU lm3_ ([] : List (Nat × LeaD)), Res.row b13 93 (BudD.cells (zI bs i))])) _ hw
       refine zZ rfl (fun c6 => ?_) (fun c6 => ?_)
       ·
        refine zB (zD rfl (zA ?_))
        exact zP (z8 (v := Vi 2) rfl rfl (fun w' hw => ⟨bm, lm, now0, cnt0, kb, kl, 2, rfl, .inr ⟨rfl, (fun q => zDV (i := i) q.buds (by omega) (.inr (.inr ⟨by omega, c6⟩))), rfl, rfl, rfl, rfl⟩, hw.sel [0, 1, 2] rfl (by decide)⟩))
       ·
        refine zM (zi [0, 1, 2, 3, 5, 6] rfl (by decide) (by kernel_rfl) (fun w' hw hS => zG 0 rfl (zN) hS (zG 1 rfl (yJ rfl) hS (zG 2 rfl (zy (o := 0) rfl) hS (zG 3 rfl (z7 3 (v := .map (some bm2_)) rfl rfl rfl) hS (zG 4 rfl (zy (o := 0) rfl) hS (zG 5 rfl (z7 5 (v := .string ((zI bs i).key)) rfl rfl rfl) hS (zG 6 rfl (zy (o := 1) rfl) hS (zG 7 rfl (z7 5 (v := Vi ((zI bs i).amount)) rfl rfl rfl) hS (ze 8 rfl hw (k8 4 (k := (zI bs i).key) (v := (zI bs i).amount) zDu zB3 rfl rfl rfl rfl (zF [0, 1, 2, 3, 5, 6] rfl (by decide) (fun w' hw hS => ?_)))))))))))))
        refine zO ?_
        refine (?_ : C _ _ _ _ _ _ _ (Own w S [Res.row b 111 [.map (some bm), .map (some lm), Vi now0, Vn cnt0], Res.mp Value.string zw bm kb, Res.mp zq zU lm kl, Res.row b1_ 111 [.map (some bm2_), .map (some lm3_), Vi now, Vn last], Res.mp Value.string zw bm2_ (y5 ((zI bs i).key) ((zI bs i).amount) kn), Res.mp zq zU lm3_ ([] : List (Nat × LeaD)), Res.row b13 93 (BudD.cells (zI bs i))])) _ hw
        refine zj (z6 rfl rfl (zz (by omega)) rfl (zC rfl ?_))
        exact zf (fun w' hw => ⟨i + 1, y5 (zI bs i).key (zI bs i).amount kn, ⟨rfl, rfl, rfl, rfl, rfl, rfl, rfl, rfl, rfl, trivial⟩, ⟨by omega, zD3 hBI (by omega) (Decidable.not_not.1 g10_4) (by omega) (fun _ => c6), by rw [hkn]; exact zFd hBI (by omega) (fun _ => c6)⟩, hw.sel [0, 1, 2, 3, 4, 5] rfl (by decide), (by omega)⟩)
      ·
       refine za 13 rfl rfl (gF g10_12) rfl hS (za 14 rfl rfl (gF g10_12) rfl hS (za 15 rfl rfl (gF g10_12) rfl hS (za 16 rfl rfl (gF g10_12) rfl hS (za 17 rfl rfl (gF g10_12) rfl hS (za 18 rfl rfl (gF g10_12) rfl hS (za 19 rfl rfl (gF g10_12) rfl hS (za 20 rfl rfl (gF g10_12) rfl hS (za 21 rfl rfl (gF g10_12) rfl hS (zg 22 rfl rfl (gF g10_9) (y3 (gF g10_12)) hS (zG 23 rfl (y3 (gF g10_9)) hS (zO ?_)))))))))))
       refine (?_ : C _ _ _ _ _ _ _ (Own w S [Res.row b 111 [.map (some bm), .map (some lm), Vi now0, Vn cnt0], Res.mp Value.string zw bm kb, Res.mp zq zU lm kl, Res.row b1_ 111 [.map (some bm2_), .map (some lm3_), Vi now, Vn last], Res.mp Value.string zw bm2_ kn, Res.mp zq zU lm3_ ([] : List (Nat × LeaD)), Res.row b13 93 (BudD.cells (zI bs i))])) _ hw
       refine xO rfl (zM (zi [0, 1, 2, 3, 5, 6] rfl (by decide) (by kernel_rfl) (fun w' hw hS => zG 0 rfl (zN) hS (zG 1 rfl (yJ rfl) hS (zG 2 rfl (zy (o := 0) rfl) hS (zG 3 rfl (z7 3 (v := .map (some bm2_)) rfl rfl rfl) hS (zG 4 rfl (zy (o := 0) rfl) hS (zG 5 rfl (z7 5 (v := .string ((zI bs i).key)) rfl rfl rfl) hS (zG 6 rfl (zy (o := 1) rfl) hS (zG 7 rfl (z7 5 (v := Vi ((zI bs i).amount)) rfl rfl rfl) hS (ze 8 rfl hw (k8 4 (k := (zI bs i).key) (v := (zI bs i).amount) zDu zB3 rfl rfl rfl rfl ?_))))))))))))
       refine zF [0, 1, 2, 3, 5, 6] rfl (by decide) (fun w' hw hS => zO ?_)
       refine (?_ : C _ _ _ _ _ _ _ (Own w S [Res.row b 111 [.map (some bm), .map (some lm), Vi now0, Vn cnt0], Res.mp Value.string zw bm kb, Res.mp zq zU lm kl, Res.row b1_ 111 [.map (some bm2_), .map (some lm3_), Vi now, Vn last], Res.mp Value.string zw bm2_ (y5 ((zI bs i).key) ((zI bs i).amount) kn), Res.mp zq zU lm3_ ([] : List (Nat × LeaD)), Res.row b13 93 (BudD.cells (zI bs i))])) _ hw
       refine zj (z6 rfl rfl (zz (by omega)) rfl (zC rfl ?_))
       exact zf (fun w' hw => ⟨i + 1, y5 (zI bs i).key (zI bs i).amount kn, ⟨rfl, rfl, rfl, rfl, rfl, rfl, rfl, rfl, rfl, trivial⟩, ⟨by omega, zD3 hBI (by omega) (Decidable.not_not.1 g10_4) (by omega) (fun h => absurd h (by omega)), by rw [hkn]; exact zFd hBI (by omega) (fun h => absurd h (by omega))⟩, hw.sel [0, 1, 2, 3, 4, 5] rfl (by decide), (by omega)⟩)
   ·
    refine yK rfl (zL (zB (zC rfl (yO (pR hlv) rfl rfl (zC rfl (zA (zQ ?_)))))))
    refine xY (fun (j : Nat) (kn2 : List (Nat × LeaD)) => [(0, .pointer (some ⟨b, 0, none⟩)), (1, Vi now), (2, Vn last), (4, lv), (11, .pointer (some ⟨b1_, 0, none⟩)), (85, lv), (86, Vj ls.length), (87, Vj j)]) (fun (j : Nat) (kn2 : List (Nat × LeaD)) => j ≤ ls.length ∧ LeasOk now last (ls.take j) ∧ kn2 = KL (ls.take j)) (fun (j : Nat) (kn2 : List (Nat × LeaD)) => [Res.row b 111 [.map (some bm), .map (some lm), Vi now0, Vn cnt0], Res.mp Value.string zw bm kb, Res.mp zq zU lm kl, Res.row b1_ 111 [.map (some bm2_), .map (some lm3_), Vi now, Vn last], Res.mp Value.string zw bm2_ kn, Res.mp zq zU lm3_ kn2]) (fun (j : Nat) (kn2 : List (Nat × LeaD)) => ls.length - j) (fun w' hw => ⟨0, [], ⟨rfl, rfl, rfl, rfl, rfl, rfl, rfl, rfl, trivial⟩, ⟨Nat.zero_le _, LeasOk.nil _ _, rfl⟩, hw⟩) (fun j kn2 g hΦ => ?_)
    have hj := hΦ.1
    have hLI := hΦ.2.1
    have hkn2 := hΦ.2.2
    refine zB (yZ rfl rfl rfl (zA (zL (zZ rfl (fun c8 => ?_) (fun c8 => ?_)))))
    ·
     refine zM (zL (zQ (zB (zC rfl (zH (pR hlv) 5 j rfl rfl rfl (by omega) rfl (jA (pR hlv) 5 j (off := xZ lv + j * 5) (fun _ => rfl) rfl rfl (by omega) rfl (yL (v := .agg #[Vn 0, Vn 0, .string (⟨#[]⟩ : ByteArray), Vi 0, Vi 0]) (by kernel_rfl) rfl (fun b15 => zD rfl (zo 6 rfl rfl rfl (yI rfl) rfl (zA (zL (zi [0, 1, 2, 4, 6] rfl (by decide) (by kernel_rfl) (fun w' hw hS => ?_)))))))))))))
     refine zG 0 rfl (zN) hS (zG 1 rfl (zy (o := 2) rfl) hS (zG 2 rfl (z7 4 (v := .string ((zI ls j).key)) rfl rfl rfl) hS (zG 4 rfl (zy (o := 3) rfl) hS (zG 5 rfl (z7 4 (v := Vi ((zI ls j).amount)) rfl rfl rfl) hS (ze 3 rfl hw (zK rfl rfl (fun w' hw => (zBd b1_ bm2_ lm3_ now last kn2 ((zI ls j).key) w' (hw.give [3, 5] rfl (by decide))).mono ?_)))))))
     rintro _ w1 ⟨n4_, rfl, hf17_3, hO⟩
     refine (?_ : CL _ _ _ _ _ _ (Own w S [Res.row b 111 [.map (some bm), .map (some lm), Vi now0, Vn cnt0], Res.mp Value.string zw bm kb, Res.mp zq zU lm kl, Res.mp Value.string zw bm2_ kn, Res.row b15 76 (LeaD.cells (zI ls j)), Res.row b1_ 111 [.map (some bm2_), .map (some lm3_), Vi now, Vn last], Res.mp zq zU lm3_ kn2])) w1 (hw.frameL [3, 5] rfl hO)
     refine zF [0, 1, 2, 3, 4] rfl (by decide) (fun w' hw hS => ze 6 rfl hw (xF (e := 2) (sz := 1) (vs := [Vi n4_, Vi ((zI ls j).amount)]) (by kernel_rfl) rfl rfl (by simp [Value.cells]) (by decide) rfl (fun b99 => zF [0, 1, 2, 3, 4] rfl (by decide) (fun w' hw hS => ze 7 rfl hw (zK rfl rfl (fun w' hw => (zFo (.slice (some ⟨b99, 0, none⟩) 2 2) [n4_, (zI ls j).amount] w' rfl (by show 0 ≤ n4_ ∧ n4_ ≤ _; rw [hf17_3, hkn2, (jn hLI _).1]; exact (jn hLI _).2) (by show _ ≤ (zI ls j).amount ∧ (zI ls j).amount ≤ _; exact hli _ (yH (by omega))) (hw.rdVec0 7 rfl)).mono ?_))))))
     rintro _ w1 ⟨n5_, e6_, rfl, hf17_7, hO⟩
     refine (?_ : CL _ _ _ _ _ _ (Own w S [Res.row b 111 [.map (some bm), .map (some lm), Vi now0, Vn cnt0], Res.mp Value.string zw bm kb, Res.mp zq zU lm kl, Res.mp Value.string zw bm2_ kn, Res.row b15 76 (LeaD.cells (zI ls j)), Res.row b1_ 111 [.map (some bm2_), .map (some lm3_), Vi now, Vn last], Res.mp zq zU lm3_ kn2, Res.vec 2 1 (.slice (some ⟨b99, 0, none⟩) 2 2) [n4_, (zI ls j).amount].length ([n4_, (zI ls j).amount].flatMap I1)])) w1 (hw.frame0 hO)
     refine zF [0, 1, 2, 3, 4] rfl (by decide) (fun w' hw hS => zG 8 rfl (zN) hS (zG 9 rfl (yw (vs := [Vi n5_, Vi e6_]) rfl rfl) hS (zG 10 rfl (yw (vs := [Vi n5_, Vi e6_]) rfl rfl) hS (zG 11 rfl (xV) hS (zG 12 rfl (xV) hS (zO ?_))))))
     refine (?_ : C _ _ _ _ _ _ _ (Own w S [Res.row b 111 [.map (some bm), .map (some lm), Vi now0, Vn cnt0], Res.mp Value.string zw bm kb, Res.mp zq zU lm kl, Res.mp Value.string zw bm2_ kn, Res.row b15 76 (LeaD.cells (zI ls j)), Res.row b1_ 111 [.map (some bm2_), .map (some lm3_), Vi now, Vn last], Res.mp zq zU lm3_ kn2, Res.vec 2 1 (.slice (some ⟨b99, 0, none⟩) 2 2) [n4_, (zI ls j).amount].length ([n4_, (zI ls j).amount].flatMap I1)])) _ hw
     refine zL (zL (zi [0, 1, 2, 3, 4, 5, 6, 7] rfl (by decide) (by kernel_rfl) (fun w' hw hS => zG 0 rfl (zN) hS (zG 1 rfl (zLA rfl rfl) hS (zG 2 rfl (zN) hS ?_)))))
     by_cases g18_2 : e6_ ≠ 0
     ·
      refine za 3 rfl rfl (gT g18_2) rfl hS (za 4 rfl rfl (gT g18_2) rfl hS (za 5 rfl rfl (gT g18_2) rfl hS (za 6 rfl rfl (gT g18_2) rfl hS (za 7 rfl rfl (gT g18_2) rfl hS (zG 8 rfl (y0 (gT g18_2)) hS (zG 9 rfl (zN) hS (za 10 rfl rfl rfl rfl hS (za 11 rfl rfl rfl rfl hS (za 12 rfl rfl rfl rfl hS (ym 13 rfl rfl rfl hS (ym 14 rfl rfl rfl hS (ym 15 rfl rfl rfl hS ?_))))))))))))
      refine ym 16 rfl rfl rfl hS (ym 17 rfl rfl rfl hS (ym 18 rfl rfl rfl hS (ym 19 rfl rfl rfl hS (ym 20 rfl rfl rfl hS (ym 21 rfl rfl rfl hS (za 22 rfl rfl rfl rfl hS (zG 23 rfl (y0 rfl) hS (zO ?_))))))))
      refine (?_ : C _ _ _ _ _ _ _ (Own w S [Res.row b 111 [.map (some bm), .map (some lm), Vi now0, Vn cnt0], Res.mp Value.string zw bm kb, Res.mp zq zU lm kl, Res.mp Value.string zw bm2_ kn, Res.row b15 76 (LeaD.cells (zI ls j)), Res.row b1_ 111 [.map (some bm2_), .map (some lm3_), Vi now, Vn last], Res.mp zq zU lm3_ kn2, Res.vec 2 1 (.slice (some ⟨b99, 0, none⟩) 2 2) [n4_, (zI ls j).amount].length ([n4_, (zI ls j).amount].flatMap I1)])) _ hw
      refine jg rfl (zB (zD rfl (zA ?_)))
      exact zP (z8 (v := Vi 2) rfl rfl (fun w' hw => ⟨bm, lm, now0, cnt0, kb, kl, 2, rfl, .inr ⟨rfl, (fun q => zDm (i := j) q.leas (by omega) (.inl (by have := zI6 hf17_7 g18_2; rw [hf17_3, hkn2, (jn hLI _).1] at this; exact this))), rfl, rfl, rfl, rfl⟩, hw.sel [0, 1, 2] rfl (by decide)⟩))
     ·
      refine zg 3 rfl rfl (gF g18_2) (je (cs := (LeaD.cells (zI ls j))) 4 rfl rfl) hS (zg 4 rfl rfl (gF g18_2) (zN) hS (zg 5 rfl rfl (gF g18_2) (zN) hS (ze 6 rfl hw (zS rfl (gF g18_2) (zK rfl rfl (fun w' hw => (zIc (zI ls j) now last w').mono ?_))))))
      rintro _ w1 ⟨rfl, hO⟩
      refine (?_ : CL _ _ _ _ _ _ (Own w S [Res.row b 111 [.map (some bm), .map (some lm), Vi now0, Vn cnt0], Res.mp Value.string zw bm kb, Res.mp zq zU lm kl, Res.mp Value.string zw bm2_ kn, Res.row b15 76 (LeaD.cells (zI ls j)), Res.row b1_ 111 [.map (some bm2_), .map (some lm3_), Vi now, Vn last], Res.mp zq zU lm3_ kn2, Res.vec 2 1 (.slice (some ⟨b99, 0, none⟩) 2 2) [n4_, (zI ls j).amount].length ([n4_, (zI ls j).amount].flatMap I1)])) w1 (hw.frame0 hO)
      refine zF [0, 1, 2, 3, 4, 5, 6, 7] rfl (by decide) (fun w' hw hS => zg 7 rfl rfl (gF g18_2) (k9 (q := zA3 now last (zI ls j)) rfl) hS (zG 8 rfl (y3 (gF g18_2)) hS (zG 9 rfl (zN) hS ?_)))
      by_cases g18_9 : ¬ (zA3 now last (zI ls j))
      ·
       refine za 10 rfl rfl (gT g18_9) rfl hS (za 11 rfl rfl (gT g18_9) rfl hS (za 12 rfl rfl (gT g18_9) rfl hS (ym 13 rfl rfl rfl hS (ym 14 rfl rfl rfl hS (ym 15 rfl rfl rfl hS (ym 16 rfl rfl rfl hS (ym 17 rfl rfl rfl hS (ym 18 rfl rfl rfl hS (ym 19 rfl rfl rfl hS (ym 20 rfl rfl rfl hS (ym 21 rfl rfl rfl hS (za 22 rfl rfl (gT g18_9) rfl hS ?_))))))))))))
       refine zG 23 rfl (y0 (gT g18_9)) hS (zO ?_)
       refine (?_ : C _ _ _ _ _ _ _ (Own w S [Res.row b 111 [.map (some bm), .map (some lm), Vi now0, Vn cnt0], Res.mp Value.string zw bm kb, Res.mp zq zU lm kl, Res.mp Value.string zw bm2_ kn, Res.row b15 76 (LeaD.cells (zI ls j)), Res.row b1_ 111 [.map (some bm2_), .map (some lm3_), Vi now, Vn last], Res.mp zq zU lm3_ kn2, Res.vec 2 1 (.slice (some ⟨b99, 0, none⟩) 2 2) [n4_, (zI ls j).amount].length ([n4_, (zI ls j).amount].flatMap I1)])) _ hw
       refine jg rfl (zB (zD rfl (zA ?_)))
       exact zP (z8 (v := Vi 2) rfl rfl (fun w' hw => ⟨bm, lm, now0, cnt0, kb, kl, 2, rfl, .inr ⟨rfl, (fun q => zDm (i := j) q.leas (by omega) (.inr (.inl g18_9))), rfl, rfl, rfl, rfl⟩, hw.sel [0, 1, 2] rfl (by decide)⟩))
      ·
       refine zg 10 rfl rfl (gF g18_9) (zN) hS (zg 11 rfl rfl (gF g18_9) (zA8 rfl rfl) hS (zg 12 rfl rfl (gF g18_9) (zN) hS ?_))
       by_cases g18_12 : 0 < ((j : Nat) : Int)
       ·
        refine zg 13 rfl rfl (gT g18_12) (zy (o := 0) rfl) hS (zg 14 rfl rfl (gT g18_12) (z7 4 (v := Vn ((zI ls j).id)) rfl rfl rfl) hS (zg 15 rfl rfl (gT g18_12) (zN) hS (zg 16 rfl rfl (gT g18_12) (zN) hS (zg 17 rfl rfl (gT g18_12) (kN rfl rfl (zz (by omega))) hS (zg 18 rfl rfl (gT g18_12) (yU (pR hlv) 5 (j - 1) rfl rfl (by omega) (by omega)) hS (zg 19 rfl rfl (gT g18_12) (zy (o := 0) rfl) hS (zg 20 rfl rfl (gT g18_12) (yo (pR hlv) 5 (j - 1) 0 (off := xZ lv + (j - 1) * 5 + 0) (fun _ => rfl) rfl (by omega) (by omega) rfl) hS (zg 21 rfl rfl (gT g18_12) (zBC rfl rfl) hS (zg 22 rfl rfl (gF g18_9) (y0 (gT g18_12)) hS (zG 23 rfl (y3 (gF g18_9)) hS (zO ?_)))))))))))
        refine (?_ : C _ _ _ _ _ _ _ (Own w S [Res.row b 111 [.map (some bm), .map (some lm), Vi now0, Vn cnt0], Res.mp Value.string zw bm kb, Res.mp zq zU lm kl, Res.mp Value.string zw bm2_ kn, Res.row b15 76 (LeaD.cells (zI ls j)), Res.row b1_ 111 [.map (some bm2_), .map (some lm3_), Vi now, Vn last], Res.mp zq zU lm3_ kn2, Res.vec 2 1 (.slice (some ⟨b99, 0, none⟩) 2 2) [n4_, (zI ls j).amount].length ([n4_, (zI ls j).amount].flatMap I1)])) _ hw
        refine zZ rfl (fun c11 => ?_) (fun c11 => ?_)
        ·
         refine zB (zD rfl (zA ?_))
         exact zP (z8 (v := Vi 2) rfl rfl (fun w' hw => ⟨bm, lm, now0, cnt0, kb, kl, 2, rfl, .inr ⟨rfl, (fun q => zDm (i := j) q.leas (by omega) (.inr (.inr ⟨by omega, by omega⟩))), rfl, rfl, rfl, rfl⟩, hw.sel [0, 1, 2] rfl (by decide)⟩))
        ·
         refine zM (zi [0, 1, 2, 3, 4, 5, 7] rfl (by decide) (by kernel_rfl) (fun w' hw hS => zG 0 rfl (zN) hS (zG 1 rfl (yJ rfl) hS (zG 2 rfl (zy (o := 1) rfl) hS (zG 3 rfl (z7 5 (v := .map (some lm3_)) rfl rfl rfl) hS (zG 4 rfl (zy (o := 0) rfl) hS (zG 5 rfl (z7 4 (v := Vn ((zI ls j).id)) rfl rfl rfl) hS (zG 6 rfl (je (cs := (LeaD.cells (zI ls j))) 4 rfl rfl) hS (ze 7 rfl hw (k8 6 (k := (zI ls j).id) (v := (zI ls j)) zET zBn rfl rfl rfl rfl (zF [0, 1, 2, 3, 4, 5, 7] rfl (by decide) (fun w' hw hS => zO ?_))))))))))))
         refine (?_ : C _ _ _ _ _ _ _ (Own w S [Res.row b 111 [.map (some bm), .map (some lm), Vi now0, Vn cnt0], Res.mp Value.string zw bm kb, Res.mp zq zU lm kl, Res.mp Value.string zw bm2_ kn, Res.row b15 76 (LeaD.cells (zI ls j)), Res.row b1_ 111 [.map (some bm2_), .map (some lm3_), Vi now, Vn last], Res.mp zq zU lm3_ (y5 ((zI ls j).id) (zI ls j) kn2), Res.vec 2 1 (.slice (some ⟨b99, 0, none⟩) 2 2) [n4_, (zI ls j).amount].length ([n4_, (zI ls j).amount].flatMap I1)])) _ hw
         refine zj (z6 rfl rfl (zz (by omega)) rfl (zC rfl ?_))
         exact zf (fun w' hw => ⟨j + 1, y5 (zI ls j).id (zI ls j) kn2, ⟨rfl, rfl, rfl, rfl, rfl, rfl, rfl, rfl, trivial⟩, ⟨by omega, zED hLI (by omega) (Decidable.not_not.1 g18_9) (by have := zHQ hf17_7 g18_2; rw [hf17_3, hkn2, (jn hLI _).1] at this; exact this) (fun _ => by omega), by rw [hkn2]; exact zFe hLI (by omega) (fun _ => by omega)⟩, hw.sel [0, 1, 2, 5, 3, 6] rfl (by decide), (by omega)⟩)
       ·
        refine za 13 rfl rfl (gF g18_12) rfl hS (za 14 rfl rfl (gF g18_12) rfl hS (za 15 rfl rfl (gF g18_12) rfl hS (za 16 rfl rfl (gF g18_12) rfl hS (za 17 rfl rfl (gF g18_12) rfl hS (za 18 rfl rfl (gF g18_12) rfl hS (za 19 rfl rfl (gF g18_12) rfl hS (za 20 rfl rfl (gF g18_12) rfl hS (za 21 rfl rfl (gF g18_12) rfl hS (zg 22 rfl rfl (gF g18_9) (y3 (gF g18_12)) hS (zG 23 rfl (y3 (gF g18_9)) hS (zO ?_)))))))))))
        refine (?_ : C _ _ _ _ _ _ _ (Own w S [Res.row b 111 [.map (some bm), .map (some lm), Vi now0, Vn cnt0], Res.mp Value.string zw bm kb, Res.mp zq zU lm kl, Res.mp Value.string zw bm2_ kn, Res.row b15 76 (LeaD.cells (zI ls j)), Res.row b1_ 111 [.map (some bm2_), .map (some lm3_), Vi now, Vn last], Res.mp zq zU lm3_ kn2, Res.vec 2 1 (.slice (some ⟨b99, 0, none⟩) 2 2) [n4_, (zI ls j).amount].length ([n4_, (zI ls j).amount].flatMap I1)])) _ hw
        refine xO rfl (zM (zi [0, 1, 2, 3, 4, 5, 7] rfl (by decide) (by kernel_rfl) (fun w' hw hS => zG 0 rfl (zN) hS (zG 1 rfl (yJ rfl) hS (zG 2 rfl (zy (o := 1) rfl) hS (zG 3 rfl (z7 5 (v := .map (some lm3_)) rfl rfl rfl) hS (zG 4 rfl (zy (o := 0) rfl) hS (zG 5 rfl (z7 4 (v := Vn ((zI ls j).id)) rfl rfl rfl) hS (zG 6 rfl (je (cs := (LeaD.cells (zI ls j))) 4 rfl rfl) hS (ze 7 rfl hw (k8 6 (k := (zI ls j).id) (v := (zI ls j)) zET zBn rfl rfl rfl rfl (zF [0, 1, 2, 3, 4, 5, 7] rfl (by decide) (fun w' hw hS => ?_)))))))))))))
        refine zO ?_
        refine (?_ : C _ _ _ _ _ _ _ (Own w S [Res.row b 111 [.map (some bm), .map (some lm), Vi now0, Vn cnt0], Res.mp Value.string zw bm kb, Res.mp zq zU lm kl, Res.mp Value.string zw bm2_ kn, Res.row b15 76 (LeaD.cells (zI ls j)), Res.row b1_ 111 [.map (some bm2_), .map (some lm3_), Vi now, Vn last], Res.mp zq zU lm3_ (y5 ((zI ls j).id) (zI ls j) kn2), Res.vec 2 1 (.slice (some ⟨b99, 0, none⟩) 2 2) [n4_, (zI ls j).amount].length ([n4_, (zI ls j).amount].flatMap I1)])) _ hw
        refine zj (z6 rfl rfl (zz (by omega)) rfl (zC rfl ?_))
        exact zf (fun w' hw => ⟨j + 1, y5 (zI ls j).id (zI ls j) kn2, ⟨rfl, rfl, rfl, rfl, rfl, rfl, rfl, rfl, trivial⟩, ⟨by omega, zED hLI (by omega) (Decidable.not_not.1 g18_9) (by have := zHQ hf17_7 g18_2; rw [hf17_3, hkn2, (jn hLI _).1] at this; exact this) (fun _ => by omega), by rw [hkn2]; exact zFe hLI (by omega) (fun _ => by omega)⟩, hw.sel [0, 1, 2, 5, 3, 6] rfl (by decide), (by omega)⟩)
    ·
     refine yK rfl (zB (zC rfl (zC rfl (zr rfl rfl (yd (cs := [.map (some bm2_), .map (some lm3_), Vi now, Vn last]) 3 rfl rfl rfl (zr rfl rfl (zo 0 rfl rfl rfl (yI rfl) rfl (zA (zB (zD rfl (zA ?_)))))))))))
     exact zP (z8 (v := Vi 0) rfl rfl (fun w' hw => ⟨bm2_, lm3_, now, last, kn, kn2, 0, rfl, .inl ⟨rfl, ⟨⟨by omega, by omega⟩, by omega, by omega, (by have := hBI; rwa [List.take_of_length_le (by omega)] at this), (by have := hLI; rwa [List.take_of_length_le (by omega)] at this)⟩, rfl, rfl, (by rw [hkn, List.take_of_length_le (by omega)]), (by rw [hkn2, List.take_of_length_le (by omega)])⟩, hw.sel [0, 4, 5] rfl (by decide)⟩))
end Go.Proofs.YthincafbmpialaaGreat
