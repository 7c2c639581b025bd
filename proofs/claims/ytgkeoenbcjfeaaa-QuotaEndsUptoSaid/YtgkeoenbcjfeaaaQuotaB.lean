/-
  THE LAWS QuotaBack AND QuotaEnds.
-/
import Derived.Test.YtgkeoenbcjfeaaaQuotaL
set_option linter.unusedVariables false
set_option maxRecDepth 10000
namespace Go.Proofs.Ytgkeoenbcjfeaaa
open Go Go.Sc Go.Proofs

structure Grown (c now : Int) (cnt : Nat) (kb : List (ByteArray × Int)) (kl : List (Nat × LeaD)) (bs : List BudD) (ls : List LeaD) : Prop where
  ok : QOk now cnt bs ls
  rel : QRel kb kl bs ls
  cnt : (cnt : Int) ≤ c
section
variable {now : Int} {cnt : Nat} {bs : List BudD} {ls : List LeaD} {kb : List (ByteArray × Int)} {kl kl1 kl2 : List (Nat × LeaD)} {s o : Nat} {k : ByteArray} {a sp e : Int} {x y : LeaD}
structure Lent1 (now : Int) (cnt : Nat) (kl kl1 : List (Nat × LeaD)) (ls : List LeaD) (s : Nat) (k : ByteArray) (a sp : Int) (x : LeaD) : Prop where
  eq : x = ⟨cnt + 1, s, k, a, now + sp⟩
  new : getA x.id kl = none
  app : kl1 = kl ++ [(x.id, x)]
  get : getA x.id kl1 = some x
  del : delA x.id kl1 = kl
  nd : KNd kl1
  len : kl1.length ≤ 128
  lent : lentK k kl1 = lentS k ls + a
  lent0 : lentK k kl = lentS k ls
  b0 : 0 ≤ lentS k ls
  b1 : lentS k ls + a ≤ 9223372036854775807
  a1 : 1 ≤ a
  sp : 1 ≤ sp ∧ sp ≤ 1099511627776
theorem lent1 (ho : QOk now cnt bs ls) (hr : QRel kb kl bs ls) (h1 : e = lendEK s k a sp kb kl) (hx : x = lendX e cnt s k a (now + sp)) (hkl : kl1 = lendK e x kl) (h0 : ¬ e ≠ 0) : Lent1 now cnt kl kl1 ls s k a sp x := by
  have h0 : e = 0 := Decidable.not_not.1 h0
  subst h0
  have hE : lendE s k a sp bs ls = 0 := (lendE_eq ho hr _ _ _ _).symm.trans h1.symm
  obtain ⟨⟨g1, g2, g3, g4⟩, g5, g6, g7, g8⟩ := lendE_ok hE
  have hx' : x = ⟨cnt + 1, s, k, a, now + sp⟩ := hx
  have hnew : getA x.id kl = none := by
    rw [getA_none, hx']
    intro p hp q
    obtain ⟨l, hl, rfl⟩ := List.mem_map.1 (hr.l.mem_iff.1 hp)
    have := (ho.lok l hl).2.1
    simp only at q; omega
  have hkl1 : kl1 = kl ++ [(x.id, x)] := by rw [hkl]; unfold lendK; rw [if_pos rfl, putA_new hnew]
  have hnd : KNd kl1 := by rw [hkl]; unfold lendK; rw [if_pos rfl]; exact (ho.knl hr).put
  have hw := ho.lent k
  have hb := lentS_nn (k := k) ho.pos
  refine ⟨hx', hnew, hkl1, ?_, ?_, hnd, ?_, ?_, (hr.lent k).trans hw, hb, by omega, g3, g4⟩
  · exact getA_of hnd (by rw [hkl1]; simp)
  · rw [delA_filter hnd, hkl1, List.filter_append, List.filter_cons_of_neg (by simp), List.filter_nil, List.append_nil]
    exact List.filter_eq_self.2 fun p hp => by simpa using getA_none.1 hnew p hp
  · rw [hkl1, List.length_append, hr.llen, List.length_singleton]; omega
  · have : lentS k (kl1.map (·.2)) = lentS k ls + a := by
      rw [hkl1, List.map_append, lentS_app, lentS_perm (hr.l.map _), KL_val, hx']
      simp [lentS]
    unfold lentK lentW; rw [this]; exact wi64 (by omega)
theorem renew_other {f sp2 : Int} (h : RenewK now kb kl1 o x.id sp2 y f kl2) (hs : spanOk sp2) (hg : getA x.id kl1 = some x) (ho : ¬ x.session = o) : f = 17 ∧ kl2 = kl1 := by
  rcases h with ⟨a1, _⟩ | ⟨_, _, a3, _, a5⟩ | ⟨_, l, a2, a3, _⟩
  · exact absurd hs a1
  · exact ⟨a3, a5⟩
  · rw [hg] at a2; rw [← Option.some.inj a2] at a3; exact absurd a3 ho
theorem renew_gone {f sp2 : Int} {i : Nat} (h : RenewK now kb kl1 o i sp2 y f kl2) (hs : spanOk sp2) (hg : getA i kl1 = none) : f = 17 ∧ kl2 = kl1 := by
  rcases h with ⟨a1, _⟩ | ⟨_, _, a3, _, a5⟩ | ⟨_, l, a2, a3, _⟩
  · exact absurd hs a1
  · exact ⟨a3, a5⟩
  · rw [hg] at a2; cases a2
theorem back_other {f : Int} (h : BackK kl1 o x.id y f kl2) (hg : getA x.id kl1 = some x) (ho : ¬ x.session = o) : f = 17 ∧ kl2 = kl1 := by
  rcases h with ⟨_, a3, _, a5⟩ | ⟨l, a2, a3, _⟩
  · exact ⟨a3, a5⟩
  · rw [hg] at a2; rw [← Option.some.inj a2] at a3; exact absurd a3 ho
theorem back_gone {f : Int} {i : Nat} (h : BackK kl1 o i y f kl2) (hg : getA i kl1 = none) : f = 17 := by
  rcases h with ⟨_, a3, _, a5⟩ | ⟨l, a2, a3, _⟩
  · exact a3
  · rw [hg] at a2; cases a2
theorem back_own {f : Int} (h : BackK kl1 o x.id y f kl2) (hg : getA x.id kl1 = some x) (ho : x.session = o) : f = 0 ∧ y = x ∧ kl2 = delA x.id kl1 := by
  rcases h with ⟨a2, _⟩ | ⟨l, a2, a3, a4, a5, a6⟩
  · exact absurd ho (a2 _ hg)
  · rw [hg] at a2; exact ⟨a4, a5.trans (Option.some.inj a2).symm, a6⟩
/-- Again by another one. -/
theorem lend_again (h : lendEK s k a sp kb kl = 0) (ho : o ≠ 0) : lendEK o k a sp kb kl = 0 := by
  unfold lendEK at h ⊢
  split at h
  · cases h
  · rename_i c
    rw [if_neg]
    · exact h
    · unfold lendArg at c ⊢
      exact fun q => c (q.elim (fun q => absurd q ho) .inr)
theorem passE_ok {n : Int} (h0 : 0 ≤ n ∧ n ≤ 1099511627776) (h : now + n ≤ 2305843009213693952) : passE now n = 0 := by
  unfold passE; rw [if_neg (by omega), if_neg (by omega)]
theorem mem_gone {n : Int} {gs : List Nat} (hn : KNd kl) (he : passE now n = 0) (hg : gs.Perm (passGK now n kl)) (hx : getA x.id kl = some x) : x.id ∈ gs ↔ x.until_ ≤ now + n := by
  rw [hg.mem_iff]
  unfold passGK
  rw [if_pos he]
  constructor
  · intro q
    obtain ⟨p, hp, e⟩ := List.mem_map.1 q
    obtain ⟨h1, h2⟩ := List.mem_filter.1 hp
    have := getA_of hn (show (x.id, p.2) ∈ kl by rw [← e]; exact h1)
    rw [hx] at this
    rw [Option.some.inj this]
    simpa [dueL] using h2
  · exact fun q => List.mem_map.2 ⟨(x.id, x), List.mem_filter.2 ⟨getA_mem hx, by simpa [dueL] using q⟩, rfl⟩
theorem get_pass {n : Int} (hn : KNd kl) (he : passE now n = 0) (hx : getA x.id kl = some x) : getA x.id (passLK now n kl) = if x.until_ ≤ now + n then none else some x := by
  unfold passLK
  rw [if_pos he]
  split
  · rename_i c
    rw [getA_none]
    intro p hp q
    obtain ⟨h1, h2⟩ := List.mem_filter.1 hp
    have := getA_of hn (show (x.id, p.2) ∈ kl by rw [← q]; exact h1)
    rw [hx] at this
    rw [← Option.some.inj this] at h2
    simp [dueL] at h2; omega
  · rename_i c
    exact getA_of (hn.sub List.filter_sublist) (List.mem_filter.2 ⟨getA_mem hx, by simp [dueL]; omega⟩)
theorem pass_nd {n : Int} (hn : KNd kl) : KNd (passLK now n kl) := by
  unfold passLK; split
  · exact hn.sub List.filter_sublist
  · exact hn
theorem pass_len {n : Int} : (passLK now n kl).length ≤ kl.length := by
  unfold passLK; split
  · exact List.length_filter_le _ _
  · exact Nat.le_refl _
theorem gone_len {n : Int} {gs : List Nat} (hg : gs.Perm (passGK now n kl)) : gs.length ≤ kl.length := by
  rw [hg.length_eq]; unfold passGK; split
  · rw [List.length_map]; exact List.length_filter_le _ _
  · simp
end
theorem found_step {gs : List Nat} {j i : Nat} (hj : j < gs.length) : i ∈ gs.take (j + 1) ↔ i ∈ gs.take j ∨ nth gs j = i := by
  rw [take_nth hj, List.mem_append, List.mem_singleton]
  exact or_congr Iff.rfl ⟨fun h => h.symm, fun h => h.symm⟩
theorem lendC_le (e : Int) (cnt : Nat) : lendC e cnt ≤ cnt + 1 ∧ cnt ≤ lendC e cnt := by unfold lendC; split <;> omega
theorem time_s (b bm lm : Nat) (now : Int) (cnt : Nat) (w : World) (hin : Own w (fps [Res.row b 64 [.map (some bm), .map (some lm), .int .i64 now, .int .u64 (cnt : Nat)]]) [Res.row b 64 [.map (some bm), .map (some lm), .int .i64 now, .int .u64 (cnt : Nat)]] w) : Rets Try.prog 18 #[.pointer (some ⟨b, 0, none⟩)] w fun u_ w' => u_ = .int .i64 now ∧ Own w (fps [Res.row b 64 [.map (some bm), .map (some lm), .int .i64 now, .int .u64 (cnt : Nat)]]) [Res.row b 64 [.map (some bm), .map (some lm), .int .i64 now, .int .u64 (cnt : Nat)]] w' := by
  refine fn_enter (args := [.pointer (some ⟨b, 0, none⟩)]) Try.func18 rfl Try.ntmps18 rfl (show Own w (fps [Res.row b 64 [.map (some bm), .map (some lm), .int .i64 now, .int .u64 (cnt : Nat)]]) [Res.row b 64 [.map (some bm), .map (some lm), .int .i64 now, .int .u64 (cnt : Nat)]] w from hin) ?_
  refine c_reg ?_
  refine l_as rfl ?_
  refine l_end ?_
  refine c_seq ?_
  refine c_reg ?_
  refine l_mv rfl ?_
  refine l_nilp (by kernel_rfl) rfl rfl rfl ?_
  refine l_end ?_
  refine c_no rfl ?_
  refine c_skipC ?_
  refine c_reg ?_
  refine l_mv rfl ?_
  refine l_nck rfl rfl ?_
  refine l_fld (o := 2) rfl (by kernel_rfl) rfl ?_
  refine l_ldo 0 (v := .int .i64 now) rfl rfl rfl (by kernel_rfl) rfl ?_
  refine l_as rfl ?_
  refine l_end ?_
  exact c_ret (ret1 (v := .int .i64 now) rfl rfl (fun w' hw => ⟨rfl, hw⟩))
theorem quotaBack_s (v : Value) (acts : List QActD) (s o : Nat) (key : ByteArray) (a sp : Int) (w : World) (hl : acts.length ≤ 100000000) (hwf : ∀ a ∈ acts, a.wf) (ha : isI a) (hv : Rd w [] (Res.sl v acts.length (acts.flatMap QActD.cells))) : Rets Try.prog 4 #[v, .int .u64 (s : Nat), .int .u64 (o : Nat), .string key, .int .i64 a, .int .i64 sp] w fun u_ w' => u_ = .bool true ∧ Own w [] [] w' := by
  refine fn_enter (args := [v, .int .u64 (s : Nat), .int .u64 (o : Nat), .string key, .int .i64 a, .int .i64 sp]) Try.func4 rfl Try.ntmps4 rfl (Own.start w) ?_
  refine c_reg ?_
  refine l_as rfl ?_
  refine l_end ?_
  refine c_reg ?_
  refine l_call (by kernel_rfl) rfl rfl (fun w' hw => ?_)
  refine (new_s w').mono ?_
  rintro _ w1 ⟨b1_, bm2_, lm3_, rfl, hO⟩
  refine (?_ : CL _ _ _ _ _ _ (Own w [] [Res.row b1_ 64 [.map (some bm2_), .map (some lm3_), .int .i64 0, .int .u64 (0 : Nat)], Res.mp Value.string ekI bm2_ ([] : List (ByteArray × Int)), Res.mp ekU leaV lm3_ ([] : List (Nat × LeaD))])) w1 (hw.frame0 hO)
  refine l_bld (cs := [.int .i64 0, .int .u64 (0 : Nat), .slice none 0 0, .slice none 0 0]) (z := [.int .i64 0, .int .u64 (0 : Nat), .slice none 0 0, .slice none 0 0]) (pl := [(0, 1), (1, 1), (2, 1), (3, 1)]) (by kernel_rfl) (by kernel_rfl) rfl ?_
  refine l_box rfl rfl (fun b34 => ?_)
  refine l_as rfl ?_
  refine l_as rfl ?_
  refine l_end ?_
  refine c_seq ?_
  refine c_reg ?_
  refine l_as rfl ?_
  refine l_end ?_
  refine c_block ?_
  refine c_loop9 (fun (i : Nat) (now : Int) (cnt : Nat) (kb : List (ByteArray × Int)) (kl : List (Nat × LeaD)) (bv lv : Value) (bs : List BudD) (ls : List LeaD) => [(0, v), (1, .int .u64 (s : Nat)), (2, .int .u64 (o : Nat)), (3, .string key), (4, .int .i64 a), (5, .int .i64 sp), (13, .pointer (some ⟨b1_, 0, none⟩)), (14, .pointer (some ⟨b34, 0, none⟩)), (15, .int .i64 (i : Nat))]) (fun (i : Nat) (now : Int) (cnt : Nat) (kb : List (ByteArray × Int)) (kl : List (Nat × LeaD)) (bv lv : Value) (bs : List BudD) (ls : List LeaD) => (i ≤ acts.length ∧ i ≤ 200) ∧ Grown i now cnt kb kl bs ls) (fun (i : Nat) (now : Int) (cnt : Nat) (kb : List (ByteArray × Int)) (kl : List (Nat × LeaD)) (bv lv : Value) (bs : List BudD) (ls : List LeaD) => [Res.row b1_ 64 [.map (some bm2_), .map (some lm3_), .int .i64 now, .int .u64 (cnt : Nat)], Res.mp Value.string ekI bm2_ kb, Res.mp ekU leaV lm3_ kl, Res.row b34 30 [.int .i64 now, .int .u64 (cnt : Nat), bv, lv], Res.vec 68 2 bv bs.length (bs.flatMap BudD.cells), Res.vec 37 5 lv ls.length (ls.flatMap LeaD.cells)]) (fun (i : Nat) (now : Int) (cnt : Nat) (kb : List (ByteArray × Int)) (kl : List (Nat × LeaD)) (bv lv : Value) (bs : List BudD) (ls : List LeaD) => acts.length - i) (fun w' hw => ⟨0, 0, 0, [], [], .slice none 0 0, .slice none 0 0, [], [], ⟨rfl, rfl, rfl, rfl, rfl, rfl, rfl, rfl, rfl, trivial⟩, ⟨by omega, ⟨QOk.start, QRel.start, by omega⟩⟩, (own_nil (own_nil hw 68 2) 37 5)⟩) (fun i now cnt kb kl bv lv bs ls g hΦ => ?_)
  have hi := hΦ.1
  have ho := hΦ.2.ok
  have hr := hΦ.2.rel
  have hcn := hΦ.2.cnt
  have ht := ho.time
  refine c_seq ?_
  refine c_reg ?_
  refine l_mv rfl ?_
  refine l_mv rfl ?_
  refine l_lenS (len := acts.length) (cs := (acts.flatMap QActD.cells)) (by kernel_rfl) rfl (fun w' hw' => Own.rd hv hw') rfl ?_
  refine l_lss rfl rfl rfl ?_
  refine l_mv rfl ?_
  refine l_band (q := ((i : Nat) : Int) < ((acts.length : Nat) : Int)) 2 4 [41, 40] (((i : Nat) : Int) < 200) rfl rfl rfl rfl rfl rfl trivial rfl (fun h3_4 => ?_) (fun g3_7 => ?_)
  ·
    refine l_on rfl (gT h3_4) ?_
    refine l_mv rfl ?_
    refine l_on rfl (gT h3_4) ?_
    refine l_lss rfl rfl rfl ?_
    exact l_nil (fun w' hw => ⟨(by repeat (first | exact Out.refl _ _ | refine Out.upd rfl ?_ | refine Out.msk rfl ?_)), rfl, hw⟩)
  refine l_mv rfl ?_
  refine l_band (q := (((i : Nat) : Int) < ((acts.length : Nat) : Int)) ∧ (((i : Nat) : Int) < 200)) 2 8 [45, 44] (true = true) rfl rfl rfl rfl rfl rfl trivial rfl (fun h3_8 => ?_) (fun g3_11 => ?_)
  ·
    refine l_on rfl (gT h3_8) ?_
    refine l_mv rfl ?_
    refine l_on rfl (gT h3_8) ?_
    refine l_nilnp (by kernel_rfl) rfl rfl rfl ?_
    exact l_nil (fun w' hw => ⟨(by repeat (first | exact Out.refl _ _ | refine Out.upd rfl ?_ | refine Out.msk rfl ?_)), (bool_dec _), hw⟩)
  refine l_end ?_
  refine c_dec rfl (fun c1 => ?_) (fun c1 => ?_)
  ·
    refine c_skipC ?_
    refine c_seq ?_
    refine c_block ?_
    refine c_last ?_
    refine l_mv rfl ?_
    refine l_mv rfl ?_
    refine l_mv rfl ?_
    refine l_mv rfl ?_
    refine l_idxS (j := i) (sz := 6) (len := acts.length) (cs := (acts.flatMap QActD.cells)) rfl rfl (by kernel_rfl) (fun w' hw' => Own.rd hv hw') rfl (by omega) rfl ?_
    refine l_ldSN (v := v) (off := offV v + i * 6) (i * 6 + 0) (cs := (acts.flatMap QActD.cells)) (QActD.cells (nth acts i)) rfl (by omega) (fun w' hw' => Own.rd hv hw') (flat_atN (sz := 6) (fun _ => rfl) (nth_some (by omega)) (o := 0) (us := (QActD.cells (nth acts i))) (fun k u h => by rw [Nat.zero_add]; exact h)) (by kernel_rfl) rfl ?_
    refine l_call (by kernel_rfl) rfl rfl (fun w' hw => ?_)
    refine (qact_s b1_ bm2_ lm3_ b34 now cnt kb kl bv lv bs ls (nth acts i) w' ho hr (hwf _ (nth_mem (by omega))) (by omega) (hw.give [0, 1, 2, 3, 4, 5] rfl (by decide))).mono ?_
    rintro _ w1 ⟨now'4_, cnt'5_, kb'6_, kl'7_, bv'8_, lv'9_, bs'10_, ls'11_, rfl, hf5_6, hf5_6_1, hf5_6_2, hf5_6_3, hO⟩
    refine (?_ : CL _ _ _ _ _ _ (Own w [] [Res.row b1_ 64 [.map (some bm2_), .map (some lm3_), .int .i64 now'4_, .int .u64 (cnt'5_ : Nat)], Res.mp Value.string ekI bm2_ kb'6_, Res.mp ekU leaV lm3_ kl'7_, Res.row b34 30 [.int .i64 now'4_, .int .u64 (cnt'5_ : Nat), bv'8_, lv'9_], Res.vec 68 2 bv'8_ bs'10_.length (bs'10_.flatMap BudD.cells), Res.vec 37 5 lv'9_ ls'11_.length (ls'11_.flatMap LeaD.cells)])) w1 (hw.frameL [0, 1, 2, 3, 4, 5] rfl hO)
    refine l_end ?_
    refine c_last ?_
    refine l_mv rfl ?_
    refine l_add rfl rfl (wi64 (by omega)) rfl ?_
    refine l_as rfl ?_
    exact l_nil (fun w' hw => ⟨i + 1, now'4_, cnt'5_, kb'6_, kl'7_, bv'8_, lv'9_, bs'10_, ls'11_, ⟨rfl, rfl, rfl, rfl, rfl, rfl, rfl, rfl, rfl, trivial⟩, ⟨by omega, ⟨hf5_6, hf5_6_1, by have := hf5_6_2; omega⟩⟩, hw, (by omega)⟩)
  ·
    refine c_exitC rfl ?_
    refine c_seq ?_
    refine c_reg ?_
    refine l_call (by kernel_rfl) rfl rfl (fun w' hw => ?_)
    refine (answers_s w').mono ?_
    rintro _ w1 ⟨rfl, hO⟩
    refine (?_ : CL _ _ _ _ _ _ (Own w [] [Res.row b1_ 64 [.map (some bm2_), .map (some lm3_), .int .i64 now, .int .u64 (cnt : Nat)], Res.mp Value.string ekI bm2_ kb, Res.mp ekU leaV lm3_ kl, Res.row b34 30 [.int .i64 now, .int .u64 (cnt : Nat), bv, lv], Res.vec 68 2 bv bs.length (bs.flatMap BudD.cells), Res.vec 37 5 lv ls.length (ls.flatMap LeaD.cells)])) w1 (hw.frame0 hO)
    refine l_not (b := true) rfl rfl ?_
    refine l_mv rfl ?_
    refine l_on rfl rfl ?_
    refine l_mv rfl ?_
    refine l_on rfl rfl ?_
    refine l_nilp (by kernel_rfl) rfl rfl rfl ?_
    refine l_pickF rfl rfl ?_
    refine l_mv rfl ?_
    refine l_on rfl rfl ?_
    refine l_mv rfl ?_
    refine l_on rfl rfl ?_
    refine l_mv rfl ?_
    refine l_on rfl rfl ?_
    refine l_eq rfl rfl rfl ?_
    refine l_pickF rfl rfl ?_
    refine l_mv rfl ?_
    refine l_bor (q := ((s : Nat) : Int) = ((o : Nat) : Int)) 2 11 [69, 68] (((o : Nat) : Int) = ((0 : Nat) : Int)) rfl rfl rfl rfl rfl rfl trivial rfl (fun h6_11 => ?_) (fun g6_14 => ?_)
    ·
      refine l_on rfl (gF h6_11) ?_
      refine l_mv rfl ?_
      refine l_on rfl (gF h6_11) ?_
      refine l_eq rfl rfl rfl ?_
      exact l_nil (fun w' hw => ⟨(by repeat (first | exact Out.refl _ _ | refine Out.upd rfl ?_ | refine Out.msk rfl ?_)), rfl, hw⟩)
    refine l_end ?_
    refine c_dec rfl (fun c2 => ?_) (fun c2 => ?_)
    ·
      refine c_reg ?_
      refine l_call (by kernel_rfl) rfl rfl (fun w' hw => ?_)
      refine (answers_s w').mono ?_
      rintro _ w1 ⟨rfl, hO⟩
      refine (?_ : CL _ _ _ _ _ _ (Own w [] [Res.row b1_ 64 [.map (some bm2_), .map (some lm3_), .int .i64 now, .int .u64 (cnt : Nat)], Res.mp Value.string ekI bm2_ kb, Res.mp ekU leaV lm3_ kl, Res.row b34 30 [.int .i64 now, .int .u64 (cnt : Nat), bv, lv], Res.vec 68 2 bv bs.length (bs.flatMap BudD.cells), Res.vec 37 5 lv ls.length (ls.flatMap LeaD.cells)])) w1 (hw.frame0 hO)
      refine l_mv rfl ?_
      refine l_on rfl rfl ?_
      refine l_mv rfl ?_
      refine l_on rfl rfl ?_
      refine l_nilnp (by kernel_rfl) rfl rfl rfl ?_
      refine l_pickT rfl rfl ?_
      refine l_as rfl ?_
      refine l_end ?_
      exact c_ret (ret1 (v := .bool true) rfl rfl (fun w' hw => ⟨rfl, hw.drop⟩))
    ·
      refine c_skipC ?_
      refine c_reg ?_
      refine l_mv rfl ?_
      refine l_mv rfl ?_
      refine l_mv rfl ?_
      refine l_mv rfl ?_
      refine l_mv rfl ?_
      refine l_call (by kernel_rfl) rfl rfl (fun w' hw => ?_)
      refine (lend_s b1_ bm2_ lm3_ now cnt kb kl s key a sp w' (by rw [hr.lent]; exact ho.lent0 _) ha ho.time (by omega) (hw.give [0, 1, 2] rfl (by decide))).mono ?_
      rintro _ w1 ⟨x12_, e13_, cnt'14_, kl'15_, rfl, hf8_5, hf8_5_1, hf8_5_2, hf8_5_3, hO⟩
      have hE1 := hf8_5
      have hx := hf8_5_1
      have hcc := hf8_5_2
      have hk1 := hf8_5_3
      refine (?_ : CL _ _ _ _ _ _ (Own w [] [Res.row b34 30 [.int .i64 now, .int .u64 (cnt : Nat), bv, lv], Res.vec 68 2 bv bs.length (bs.flatMap BudD.cells), Res.vec 37 5 lv ls.length (ls.flatMap LeaD.cells), Res.row b1_ 64 [.map (some bm2_), .map (some lm3_), .int .i64 now, .int .u64 (cnt'14_ : Nat)], Res.mp Value.string ekI bm2_ kb, Res.mp ekU leaV lm3_ kl'15_])) w1 (hw.frameL [0, 1, 2] rfl hO)
      refine l_mv rfl ?_
      refine l_ext (vs := [.agg (LeaD.cells x12_).toArray, .int .i64 e13_]) rfl rfl rfl ?_
      refine l_ext (vs := [.agg (LeaD.cells x12_).toArray, .int .i64 e13_]) rfl rfl rfl ?_
      refine l_new (v := .agg #[.int .u64 (0 : Nat), .int .u64 (0 : Nat), .string (⟨#[]⟩ : ByteArray), .int .i64 0, .int .i64 0]) (by kernel_rfl) rfl (fun b16 => ?_)
      refine l_stN (cs := [.int .u64 (0 : Nat), .int .u64 (0 : Nat), .string (⟨#[]⟩ : ByteArray), .int .i64 0, .int .i64 0]) (vs := [.int .u64 (x12_.id : Nat), .int .u64 (x12_.session : Nat), .string x12_.key, .int .i64 x12_.amount, .int .i64 x12_.until_]) 6 rfl rfl rfl (by kernel_rfl) (allc_cons rfl (allc_cons rfl (allc_cons rfl (allc_cons rfl (allc_cons rfl allc_nil))))) (Nat.le_of_ble_eq_true rfl) ?_
      refine l_as rfl ?_
      refine l_end ?_
      refine c_seq ?_
      refine c_reg ?_
      refine l_mv rfl ?_
      refine l_ne rfl rfl rfl ?_
      refine l_end ?_
      refine c_dec rfl (fun c3 => ?_) (fun c3 => ?_)
      ·
        refine c_reg ?_
        refine l_as rfl ?_
        refine l_end ?_
        exact c_ret (ret1 (v := .bool true) rfl rfl (fun w' hw => ⟨rfl, hw.drop⟩))
      ·
        have hL := lent1 ho hr hE1 hx hk1 c3
        have hsp := hL.sp
        have hb0 := hL.b0
        have hb1 := hL.b1
        have ha1 := hL.a1
        have hxi : x12_.id = cnt + 1 := by rw [hL.eq]
        have hne : ¬ x12_.session = o := by rw [hL.eq]; show ¬ s = o; omega
        have hse : x12_.session = s := by rw [hL.eq]
        have h0 := Decidable.not_not.1 c3
        have hc1 := lendC_le e13_ cnt
        refine c_skipC ?_
        refine c_reg ?_
        refine l_mv rfl ?_
        refine l_mv rfl ?_
        refine l_call (by kernel_rfl) rfl rfl (fun w' hw => ?_)
        refine (tlent_s b1_ bm2_ lm3_ now cnt'14_ kb kl'15_ key w' (hw.give [3, 4, 5] rfl (by decide))).mono ?_
        rintro _ w1 ⟨n16_, rfl, hf11_2, hO⟩
        have hn1 := hf11_2.trans hL.lent
        refine (?_ : CL _ _ _ _ _ _ (Own w [] [Res.row b34 30 [.int .i64 now, .int .u64 (cnt : Nat), bv, lv], Res.vec 68 2 bv bs.length (bs.flatMap BudD.cells), Res.vec 37 5 lv ls.length (ls.flatMap LeaD.cells), Res.row b16 37 (LeaD.cells x12_), Res.row b1_ 64 [.map (some bm2_), .map (some lm3_), .int .i64 now, .int .u64 (cnt'14_ : Nat)], Res.mp Value.string ekI bm2_ kb, Res.mp ekU leaV lm3_ kl'15_])) w1 (hw.frameL [3, 4, 5] rfl hO)
        refine l_mv rfl ?_
        refine l_ext (vs := [.int .i64 ((getA key kb).getD 0), .int .i64 n16_]) rfl rfl rfl ?_
        refine l_ext (vs := [.int .i64 ((getA key kb).getD 0), .int .i64 n16_]) rfl rfl rfl ?_
        refine l_as rfl ?_
        refine l_as rfl ?_
        refine l_end ?_
        refine c_reg ?_
        refine l_mv rfl ?_
        refine l_mv rfl ?_
        refine l_fld (o := 0) rfl (by kernel_rfl) rfl ?_
        refine l_ldo 3 (v := .int .u64 (x12_.id : Nat)) rfl rfl rfl (by kernel_rfl) rfl ?_
        refine l_call (by kernel_rfl) rfl rfl (fun w' hw => ?_)
        refine (renew_s b1_ bm2_ lm3_ now cnt'14_ kb kl'15_ o x12_.id 5 w' ho.time (hw.give [4, 5, 6] rfl (by decide))).mono ?_
        rintro _ w1 ⟨x17_, e18_, kl'19_, rfl, hf12_4, hO⟩
        have hR := renew_other hf12_4 (by decide) hL.get hne
        refine (?_ : CL _ _ _ _ _ _ (Own w [] [Res.row b34 30 [.int .i64 now, .int .u64 (cnt : Nat), bv, lv], Res.vec 68 2 bv bs.length (bs.flatMap BudD.cells), Res.vec 37 5 lv ls.length (ls.flatMap LeaD.cells), Res.row b16 37 (LeaD.cells x12_), Res.row b1_ 64 [.map (some bm2_), .map (some lm3_), .int .i64 now, .int .u64 (cnt'14_ : Nat)], Res.mp Value.string ekI bm2_ kb, Res.mp ekU leaV lm3_ kl'19_])) w1 (hw.frameL [4, 5, 6] rfl hO)
        refine l_mv rfl ?_
        refine l_ext (vs := [.agg (LeaD.cells x17_).toArray, .int .i64 e18_]) rfl rfl rfl ?_
        refine l_ext (vs := [.agg (LeaD.cells x17_).toArray, .int .i64 e18_]) rfl rfl rfl ?_
        refine l_new (v := .agg #[.int .u64 (0 : Nat), .int .u64 (0 : Nat), .string (⟨#[]⟩ : ByteArray), .int .i64 0, .int .i64 0]) (by kernel_rfl) rfl (fun b20 => ?_)
        refine l_stN (cs := [.int .u64 (0 : Nat), .int .u64 (0 : Nat), .string (⟨#[]⟩ : ByteArray), .int .i64 0, .int .i64 0]) (vs := [.int .u64 (x17_.id : Nat), .int .u64 (x17_.session : Nat), .string x17_.key, .int .i64 x17_.amount, .int .i64 x17_.until_]) 7 rfl rfl rfl (by kernel_rfl) (allc_cons rfl (allc_cons rfl (allc_cons rfl (allc_cons rfl (allc_cons rfl allc_nil))))) (Nat.le_of_ble_eq_true rfl) ?_
        refine l_as rfl ?_
        refine l_end ?_
        refine c_reg ?_
        refine l_mv rfl ?_
        refine l_mv rfl ?_
        refine l_fld (o := 0) rfl (by kernel_rfl) rfl ?_
        refine l_ldo 3 (v := .int .u64 (x12_.id : Nat)) rfl rfl rfl (by kernel_rfl) rfl ?_
        refine l_call (by kernel_rfl) rfl rfl (fun w' hw => ?_)
        refine (back_s b1_ bm2_ lm3_ now cnt'14_ kl'19_ o x12_.id w' (hw.give [4, 6] rfl (by decide))).mono ?_
        rintro _ w1 ⟨x20_, e21_, kl'22_, rfl, hf13_4, hO⟩
        have hB1 := hf13_4
        rw [hR.2] at hB1
        have hB := back_other hB1 hL.get hne
        refine (?_ : CL _ _ _ _ _ _ (Own w [] [Res.row b34 30 [.int .i64 now, .int .u64 (cnt : Nat), bv, lv], Res.vec 68 2 bv bs.length (bs.flatMap BudD.cells), Res.vec 37 5 lv ls.length (ls.flatMap LeaD.cells), Res.row b16 37 (LeaD.cells x12_), Res.mp Value.string ekI bm2_ kb, Res.row b20 37 (LeaD.cells x17_), Res.row b1_ 64 [.map (some bm2_), .map (some lm3_), .int .i64 now, .int .u64 (cnt'14_ : Nat)], Res.mp ekU leaV lm3_ kl'22_])) w1 (hw.frameL [4, 6] rfl hO)
        refine l_mv rfl ?_
        refine l_ext (vs := [.agg (LeaD.cells x20_).toArray, .int .i64 e21_]) rfl rfl rfl ?_
        refine l_ext (vs := [.agg (LeaD.cells x20_).toArray, .int .i64 e21_]) rfl rfl rfl ?_
        refine l_new (v := .agg #[.int .u64 (0 : Nat), .int .u64 (0 : Nat), .string (⟨#[]⟩ : ByteArray), .int .i64 0, .int .i64 0]) (by kernel_rfl) rfl (fun b22 => ?_)
        refine l_stN (cs := [.int .u64 (0 : Nat), .int .u64 (0 : Nat), .string (⟨#[]⟩ : ByteArray), .int .i64 0, .int .i64 0]) (vs := [.int .u64 (x20_.id : Nat), .int .u64 (x20_.session : Nat), .string x20_.key, .int .i64 x20_.amount, .int .i64 x20_.until_]) 8 rfl rfl rfl (by kernel_rfl) (allc_cons rfl (allc_cons rfl (allc_cons rfl (allc_cons rfl (allc_cons rfl allc_nil))))) (Nat.le_of_ble_eq_true rfl) ?_
        refine l_as rfl ?_
        refine l_end ?_
        refine c_reg ?_
        refine l_mv rfl ?_
        refine l_mv rfl ?_
        refine l_fld (o := 0) rfl (by kernel_rfl) rfl ?_
        refine l_ldo 3 (v := .int .u64 (x12_.id : Nat)) rfl rfl rfl (by kernel_rfl) rfl ?_
        refine l_call (by kernel_rfl) rfl rfl (fun w' hw => ?_)
        refine (back_s b1_ bm2_ lm3_ now cnt'14_ kl'22_ s x12_.id w' (hw.give [6, 7] rfl (by decide))).mono ?_
        rintro _ w1 ⟨x23_, e24_, kl'25_, rfl, hf14_4, hO⟩
        have hB2 := hf14_4
        rw [hB.2] at hB2
        have hC := back_own hB2 hL.get hse
        have hk4 := hC.2.2.trans hL.del
        refine (?_ : CL _ _ _ _ _ _ (Own w [] [Res.row b34 30 [.int .i64 now, .int .u64 (cnt : Nat), bv, lv], Res.vec 68 2 bv bs.length (bs.flatMap BudD.cells), Res.vec 37 5 lv ls.length (ls.flatMap LeaD.cells), Res.row b16 37 (LeaD.cells x12_), Res.mp Value.string ekI bm2_ kb, Res.row b20 37 (LeaD.cells x17_), Res.row b22 37 (LeaD.cells x20_), Res.row b1_ 64 [.map (some bm2_), .map (some lm3_), .int .i64 now, .int .u64 (cnt'14_ : Nat)], Res.mp ekU leaV lm3_ kl'25_])) w1 (hw.frameL [6, 7] rfl hO)
        refine l_mv rfl ?_
        refine l_ext (vs := [.agg (LeaD.cells x23_).toArray, .int .i64 e24_]) rfl rfl rfl ?_
        refine l_ext (vs := [.agg (LeaD.cells x23_).toArray, .int .i64 e24_]) rfl rfl rfl ?_
        refine l_new (v := .agg #[.int .u64 (0 : Nat), .int .u64 (0 : Nat), .string (⟨#[]⟩ : ByteArray), .int .i64 0, .int .i64 0]) (by kernel_rfl) rfl (fun b24 => ?_)
        refine l_stN (cs := [.int .u64 (0 : Nat), .int .u64 (0 : Nat), .string (⟨#[]⟩ : ByteArray), .int .i64 0, .int .i64 0]) (vs := [.int .u64 (x23_.id : Nat), .int .u64 (x23_.session : Nat), .string x23_.key, .int .i64 x23_.amount, .int .i64 x23_.until_]) 9 rfl rfl rfl (by kernel_rfl) (allc_cons rfl (allc_cons rfl (allc_cons rfl (allc_cons rfl (allc_cons rfl allc_nil))))) (Nat.le_of_ble_eq_true rfl) ?_
        refine l_as rfl ?_
        refine l_end ?_
        refine c_reg ?_
        refine l_mv rfl ?_
        refine l_mv rfl ?_
        refine l_call (by kernel_rfl) rfl rfl (fun w' hw => ?_)
        refine (tlent_s b1_ bm2_ lm3_ now cnt'14_ kb kl'25_ key w' (hw.give [7, 4, 8] rfl (by decide))).mono ?_
        rintro _ w1 ⟨n26_, rfl, hf15_2, hO⟩
        have hn2 := hf15_2
        rw [hk4, hL.lent0] at hn2
        refine (?_ : CL _ _ _ _ _ _ (Own w [] [Res.row b34 30 [.int .i64 now, .int .u64 (cnt : Nat), bv, lv], Res.vec 68 2 bv bs.length (bs.flatMap BudD.cells), Res.vec 37 5 lv ls.length (ls.flatMap LeaD.cells), Res.row b16 37 (LeaD.cells x12_), Res.row b20 37 (LeaD.cells x17_), Res.row b22 37 (LeaD.cells x20_), Res.row b24 37 (LeaD.cells x23_), Res.row b1_ 64 [.map (some bm2_), .map (some lm3_), .int .i64 now, .int .u64 (cnt'14_ : Nat)], Res.mp Value.string ekI bm2_ kb, Res.mp ekU leaV lm3_ kl'25_])) w1 (hw.frameL [7, 4, 8] rfl hO)
        refine l_mv rfl ?_
        refine l_ext (vs := [.int .i64 ((getA key kb).getD 0), .int .i64 n26_]) rfl rfl rfl ?_
        refine l_ext (vs := [.int .i64 ((getA key kb).getD 0), .int .i64 n26_]) rfl rfl rfl ?_
        refine l_as rfl ?_
        refine l_as rfl ?_
        refine l_end ?_
        refine c_reg ?_
        refine l_mv rfl ?_
        refine l_mv rfl ?_
        refine l_mv rfl ?_
        refine l_mv rfl ?_
        refine l_mv rfl ?_
        refine l_call (by kernel_rfl) rfl rfl (fun w' hw => ?_)
        refine (lend_s b1_ bm2_ lm3_ now cnt'14_ kb kl'25_ o key a sp w' (by rw [hk4, hL.lent0]; omega) ha ho.time (by rw [hcc]; omega) (hw.give [7, 8, 9] rfl (by decide))).mono ?_
        rintro _ w1 ⟨x27_, e28_, cnt'29_, kl'30_, rfl, hf16_5, hf16_5_1, hf16_5_2, hf16_5_3, hO⟩
        have hF1 := hf16_5
        have hF2 := hf16_5_1
        have hF4 := hf16_5_3
        rw [hk4] at hF1 hF4
        have hF0 : e28_ = 0 := by rw [hF1]; exact lend_again (hE1.symm.trans h0) (by omega)
        have hM := lent1 (ho.more (by rw [hcc]; omega)) hr hF1 hF2 hF4 (fun q => q hF0)
        have hyi : x27_.id = cnt + 2 := by rw [hM.eq, hcc, h0]; rfl
        refine (?_ : CL _ _ _ _ _ _ (Own w [] [Res.row b34 30 [.int .i64 now, .int .u64 (cnt : Nat), bv, lv], Res.vec 68 2 bv bs.length (bs.flatMap BudD.cells), Res.vec 37 5 lv ls.length (ls.flatMap LeaD.cells), Res.row b16 37 (LeaD.cells x12_), Res.row b20 37 (LeaD.cells x17_), Res.row b22 37 (LeaD.cells x20_), Res.row b24 37 (LeaD.cells x23_), Res.row b1_ 64 [.map (some bm2_), .map (some lm3_), .int .i64 now, .int .u64 (cnt'29_ : Nat)], Res.mp Value.string ekI bm2_ kb, Res.mp ekU leaV lm3_ kl'30_])) w1 (hw.frameL [7, 8, 9] rfl hO)
        refine l_mv rfl ?_
        refine l_ext (vs := [.agg (LeaD.cells x27_).toArray, .int .i64 e28_]) rfl rfl rfl ?_
        refine l_ext (vs := [.agg (LeaD.cells x27_).toArray, .int .i64 e28_]) rfl rfl rfl ?_
        refine l_new (v := .agg #[.int .u64 (0 : Nat), .int .u64 (0 : Nat), .string (⟨#[]⟩ : ByteArray), .int .i64 0, .int .i64 0]) (by kernel_rfl) rfl (fun b28 => ?_)
        refine l_stN (cs := [.int .u64 (0 : Nat), .int .u64 (0 : Nat), .string (⟨#[]⟩ : ByteArray), .int .i64 0, .int .i64 0]) (vs := [.int .u64 (x27_.id : Nat), .int .u64 (x27_.session : Nat), .string x27_.key, .int .i64 x27_.amount, .int .i64 x27_.until_]) 10 rfl rfl rfl (by kernel_rfl) (allc_cons rfl (allc_cons rfl (allc_cons rfl (allc_cons rfl (allc_cons rfl allc_nil))))) (Nat.le_of_ble_eq_true rfl) ?_
        refine l_as rfl ?_
        refine l_end ?_
        refine c_reg ?_
        refine l_mv rfl ?_
        refine l_mv rfl ?_
        refine l_call (by kernel_rfl) rfl rfl (fun w' hw => ?_)
        refine (tlent_s b1_ bm2_ lm3_ now cnt'29_ kb kl'30_ key w' (hw.give [7, 8, 9] rfl (by decide))).mono ?_
        rintro _ w1 ⟨n31_, rfl, hf17_2, hO⟩
        have hn3 := hf17_2.trans hM.lent
        refine (?_ : CL _ _ _ _ _ _ (Own w [] [Res.row b34 30 [.int .i64 now, .int .u64 (cnt : Nat), bv, lv], Res.vec 68 2 bv bs.length (bs.flatMap BudD.cells), Res.vec 37 5 lv ls.length (ls.flatMap LeaD.cells), Res.row b16 37 (LeaD.cells x12_), Res.row b20 37 (LeaD.cells x17_), Res.row b22 37 (LeaD.cells x20_), Res.row b24 37 (LeaD.cells x23_), Res.row b28 37 (LeaD.cells x27_), Res.row b1_ 64 [.map (some bm2_), .map (some lm3_), .int .i64 now, .int .u64 (cnt'29_ : Nat)], Res.mp Value.string ekI bm2_ kb, Res.mp ekU leaV lm3_ kl'30_])) w1 (hw.frameL [7, 8, 9] rfl hO)
        refine l_mv rfl ?_
        refine l_ext (vs := [.int .i64 ((getA key kb).getD 0), .int .i64 n31_]) rfl rfl rfl ?_
        refine l_ext (vs := [.int .i64 ((getA key kb).getD 0), .int .i64 n31_]) rfl rfl rfl ?_
        refine l_as rfl ?_
        refine l_as rfl ?_
        refine l_end ?_
        refine c_reg ?_
        refine l_mv rfl ?_
        refine l_eq rfl rfl rfl ?_
        refine l_mv rfl ?_
        refine l_band (q := e18_ = 17) 2 2 [142, 141] (e21_ = 17) rfl rfl rfl rfl rfl rfl trivial rfl (fun h18_2 => ?_) (fun g18_5 => ?_)
        ·
          refine l_on rfl (gT h18_2) ?_
          refine l_mv rfl ?_
          refine l_on rfl (gT h18_2) ?_
          refine l_eq rfl rfl rfl ?_
          exact l_nil (fun w' hw => ⟨(by repeat (first | exact Out.refl _ _ | refine Out.upd rfl ?_ | refine Out.msk rfl ?_)), rfl, hw⟩)
        refine l_mv rfl ?_
        refine l_band (q := (e18_ = 17) ∧ (e21_ = 17)) 2 6 [146, 145] (e24_ = 0) rfl rfl rfl rfl rfl rfl trivial rfl (fun h18_6 => ?_) (fun g18_9 => ?_)
        ·
          refine l_on rfl (gT h18_6) ?_
          refine l_mv rfl ?_
          refine l_on rfl (gT h18_6) ?_
          refine l_eq rfl rfl rfl ?_
          exact l_nil (fun w' hw => ⟨(by repeat (first | exact Out.refl _ _ | refine Out.upd rfl ?_ | refine Out.msk rfl ?_)), rfl, hw⟩)
        refine l_mv rfl ?_
        refine l_band (q := ((e18_ = 17) ∧ (e21_ = 17)) ∧ (e24_ = 0)) 3 10 [151, 150, 149] (x23_ = x12_) rfl rfl rfl rfl rfl rfl trivial rfl (fun h18_10 => ?_) (fun g18_14 => ?_)
        ·
          refine l_on rfl (gT h18_10) ?_
          refine l_ldr (cs := (LeaD.cells x23_)) 6 rfl rfl (by kernel_rfl) rfl ?_
          refine l_on rfl (gT h18_10) ?_
          refine l_ldr (cs := (LeaD.cells x12_)) 3 rfl rfl (by kernel_rfl) rfl ?_
          refine l_on rfl (gT h18_10) ?_
          refine l_val rfl (v_stp (LeaDEq x23_ x12_) (by kernel_rfl) (by kernel_rfl) rfl rfl rfl rfl) ?_
          exact l_nil (fun w' hw => ⟨(by repeat (first | exact Out.refl _ _ | refine Out.upd rfl ?_ | refine Out.msk rfl ?_)), rfl, hw⟩)
        refine l_mv rfl ?_
        refine l_band (q := (((e18_ = 17) ∧ (e21_ = 17)) ∧ (e24_ = 0)) ∧ (x23_ = x12_)) 5 15 [158, 157, 156, 155, 154] (n26_ = (n16_ - a)) rfl rfl rfl rfl rfl rfl trivial rfl (fun h18_15 => ?_) (fun g18_21 => ?_)
        ·
          refine l_on rfl (gT h18_15) ?_
          refine l_mv rfl ?_
          refine l_on rfl (gT h18_15) ?_
          refine l_mv rfl ?_
          refine l_on rfl (gT h18_15) ?_
          refine l_mv rfl ?_
          refine l_on rfl (gT h18_15) ?_
          refine l_sub rfl rfl (wi64 (by omega)) rfl ?_
          refine l_on rfl (gT h18_15) ?_
          refine l_eq rfl rfl rfl ?_
          exact l_nil (fun w' hw => ⟨(by repeat (first | exact Out.refl _ _ | refine Out.upd rfl ?_ | refine Out.msk rfl ?_)), rfl, hw⟩)
        refine l_mv rfl ?_
        refine l_band (q := ((((e18_ = 17) ∧ (e21_ = 17)) ∧ (e24_ = 0)) ∧ (x23_ = x12_)) ∧ (n26_ = (n16_ - a))) 2 22 [162, 161] (e28_ = 0) rfl rfl rfl rfl rfl rfl trivial rfl (fun h18_22 => ?_) (fun g18_25 => ?_)
        ·
          refine l_on rfl (gT h18_22) ?_
          refine l_mv rfl ?_
          refine l_on rfl (gT h18_22) ?_
          refine l_eq rfl rfl rfl ?_
          exact l_nil (fun w' hw => ⟨(by repeat (first | exact Out.refl _ _ | refine Out.upd rfl ?_ | refine Out.msk rfl ?_)), rfl, hw⟩)
        refine l_mv rfl ?_
        refine l_band (q := (((((e18_ = 17) ∧ (e21_ = 17)) ∧ (e24_ = 0)) ∧ (x23_ = x12_)) ∧ (n26_ = (n16_ - a))) ∧ (e28_ = 0)) 6 26 [170, 169, 168, 167, 166, 165] (((x27_.id : Nat) : Int) = ((x12_.id + 1 : Nat) : Int)) rfl rfl rfl rfl rfl rfl trivial rfl (fun h18_26 => ?_) (fun g18_33 => ?_)
        ·
          refine l_on rfl (gT h18_26) ?_
          refine l_fld (o := 0) rfl (by kernel_rfl) rfl ?_
          refine l_on rfl (gT h18_26) ?_
          refine l_ldo 7 (v := .int .u64 (x27_.id : Nat)) rfl rfl rfl (by kernel_rfl) rfl ?_
          refine l_on rfl (gT h18_26) ?_
          refine l_fld (o := 0) rfl (by kernel_rfl) rfl ?_
          refine l_on rfl (gT h18_26) ?_
          refine l_ldo 3 (v := .int .u64 (x12_.id : Nat)) rfl rfl rfl (by kernel_rfl) rfl ?_
          refine l_on rfl (gT h18_26) ?_
          refine l_add rfl rfl (wu64 (by omega)) rfl ?_
          refine l_on rfl (gT h18_26) ?_
          refine l_eq rfl rfl rfl ?_
          exact l_nil (fun w' hw => ⟨(by repeat (first | exact Out.refl _ _ | refine Out.upd rfl ?_ | refine Out.msk rfl ?_)), rfl, hw⟩)
        refine l_mv rfl ?_
        refine l_band (q := ((((((e18_ = 17) ∧ (e21_ = 17)) ∧ (e24_ = 0)) ∧ (x23_ = x12_)) ∧ (n26_ = (n16_ - a))) ∧ (e28_ = 0)) ∧ (((x27_.id : Nat) : Int) = ((x12_.id + 1 : Nat) : Int))) 3 34 [175, 174, 173] (n31_ = n16_) rfl rfl rfl rfl rfl rfl trivial rfl (fun h18_34 => ?_) (fun g18_38 => ?_)
        ·
          refine l_on rfl (gT h18_34) ?_
          refine l_mv rfl ?_
          refine l_on rfl (gT h18_34) ?_
          refine l_mv rfl ?_
          refine l_on rfl (gT h18_34) ?_
          refine l_eq rfl rfl rfl ?_
          exact l_nil (fun w' hw => ⟨(by repeat (first | exact Out.refl _ _ | refine Out.upd rfl ?_ | refine Out.msk rfl ?_)), rfl, hw⟩)
        refine l_mv rfl ?_
        refine l_band (q := (((((((e18_ = 17) ∧ (e21_ = 17)) ∧ (e24_ = 0)) ∧ (x23_ = x12_)) ∧ (n26_ = (n16_ - a))) ∧ (e28_ = 0)) ∧ (((x27_.id : Nat) : Int) = ((x12_.id + 1 : Nat) : Int))) ∧ (n31_ = n16_)) 3 39 [180, 179, 178] (((getA key kb).getD 0) = ((getA key kb).getD 0)) rfl rfl rfl rfl rfl rfl trivial rfl (fun h18_39 => ?_) (fun g18_43 => ?_)
        ·
          refine l_on rfl (gT h18_39) ?_
          refine l_mv rfl ?_
          refine l_on rfl (gT h18_39) ?_
          refine l_mv rfl ?_
          refine l_on rfl (gT h18_39) ?_
          refine l_eq rfl rfl rfl ?_
          exact l_nil (fun w' hw => ⟨(by repeat (first | exact Out.refl _ _ | refine Out.upd rfl ?_ | refine Out.msk rfl ?_)), rfl, hw⟩)
        refine l_as rfl ?_
        refine l_end ?_
        exact c_ret (ret1 (v := .bool (decide (((((((((e18_ = 17) ∧ (e21_ = 17)) ∧ (e24_ = 0)) ∧ (x23_ = x12_)) ∧ (n26_ = (n16_ - a))) ∧ (e28_ = 0)) ∧ (((x27_.id : Nat) : Int) = ((x12_.id + 1 : Nat) : Int))) ∧ (n31_ = n16_)) ∧ (((getA key kb).getD 0) = ((getA key kb).getD 0))))) rfl rfl (fun w' hw => ⟨(by congr 1; exact decide_eq_true ⟨⟨⟨⟨⟨⟨⟨⟨hR.1, hB.1⟩, hC.1⟩, hC.2.1⟩, by omega⟩, hF0⟩, by omega⟩, by omega⟩, rfl⟩), hw.drop⟩))
theorem quotaEnds_s (v : Value) (acts : List QActD) (s : Nat) (key : ByteArray) (a sp : Int) (w : World) (hl : acts.length ≤ 100000000) (hwf : ∀ a ∈ acts, a.wf) (ha : isI a) (hv : Rd w [] (Res.sl v acts.length (acts.flatMap QActD.cells))) : Rets Try.prog 5 #[v, .int .u64 (s : Nat), .string key, .int .i64 a, .int .i64 sp] w fun u_ w' => u_ = .bool true ∧ Own w [] [] w' := by
  refine fn_enter (args := [v, .int .u64 (s : Nat), .string key, .int .i64 a, .int .i64 sp]) Try.func5 rfl Try.ntmps5 rfl (Own.start w) ?_
  refine c_reg ?_
  refine l_as rfl ?_
  refine l_end ?_
  refine c_reg ?_
  refine l_call (by kernel_rfl) rfl rfl (fun w' hw => ?_)
  refine (new_s w').mono ?_
  rintro _ w1 ⟨b1_, bm2_, lm3_, rfl, hO⟩
  refine (?_ : CL _ _ _ _ _ _ (Own w [] [Res.row b1_ 64 [.map (some bm2_), .map (some lm3_), .int .i64 0, .int .u64 (0 : Nat)], Res.mp Value.string ekI bm2_ ([] : List (ByteArray × Int)), Res.mp ekU leaV lm3_ ([] : List (Nat × LeaD))])) w1 (hw.frame0 hO)
  refine l_bld (cs := [.int .i64 0, .int .u64 (0 : Nat), .slice none 0 0, .slice none 0 0]) (z := [.int .i64 0, .int .u64 (0 : Nat), .slice none 0 0, .slice none 0 0]) (pl := [(0, 1), (1, 1), (2, 1), (3, 1)]) (by kernel_rfl) (by kernel_rfl) rfl ?_
  refine l_box rfl rfl (fun b29 => ?_)
  refine l_as rfl ?_
  refine l_as rfl ?_
  refine l_end ?_
  refine c_seq ?_
  refine c_reg ?_
  refine l_as rfl ?_
  refine l_end ?_
  refine c_block ?_
  refine c_loop9 (fun (i : Nat) (now : Int) (cnt : Nat) (kb : List (ByteArray × Int)) (kl : List (Nat × LeaD)) (bv lv : Value) (bs : List BudD) (ls : List LeaD) => [(0, v), (1, .int .u64 (s : Nat)), (2, .string key), (3, .int .i64 a), (4, .int .i64 sp), (11, .pointer (some ⟨b1_, 0, none⟩)), (12, .pointer (some ⟨b29, 0, none⟩)), (13, .int .i64 (i : Nat))]) (fun (i : Nat) (now : Int) (cnt : Nat) (kb : List (ByteArray × Int)) (kl : List (Nat × LeaD)) (bv lv : Value) (bs : List BudD) (ls : List LeaD) => (i ≤ acts.length ∧ i ≤ 200) ∧ Grown i now cnt kb kl bs ls) (fun (i : Nat) (now : Int) (cnt : Nat) (kb : List (ByteArray × Int)) (kl : List (Nat × LeaD)) (bv lv : Value) (bs : List BudD) (ls : List LeaD) => [Res.row b1_ 64 [.map (some bm2_), .map (some lm3_), .int .i64 now, .int .u64 (cnt : Nat)], Res.mp Value.string ekI bm2_ kb, Res.mp ekU leaV lm3_ kl, Res.row b29 30 [.int .i64 now, .int .u64 (cnt : Nat), bv, lv], Res.vec 68 2 bv bs.length (bs.flatMap BudD.cells), Res.vec 37 5 lv ls.length (ls.flatMap LeaD.cells)]) (fun (i : Nat) (now : Int) (cnt : Nat) (kb : List (ByteArray × Int)) (kl : List (Nat × LeaD)) (bv lv : Value) (bs : List BudD) (ls : List LeaD) => acts.length - i) (fun w' hw => ⟨0, 0, 0, [], [], .slice none 0 0, .slice none 0 0, [], [], ⟨rfl, rfl, rfl, rfl, rfl, rfl, rfl, rfl, trivial⟩, ⟨by omega, ⟨QOk.start, QRel.start, by omega⟩⟩, (own_nil (own_nil hw 68 2) 37 5)⟩) (fun i now cnt kb kl bv lv bs ls g hΦ => ?_)
  have hi := hΦ.1
  have ho := hΦ.2.ok
  have hr := hΦ.2.rel
  have hcn := hΦ.2.cnt
  have ht := ho.time
  refine c_seq ?_
  refine c_reg ?_
  refine l_mv rfl ?_
  refine l_mv rfl ?_
  refine l_lenS (len := acts.length) (cs := (acts.flatMap QActD.cells)) (by kernel_rfl) rfl (fun w' hw' => Own.rd hv hw') rfl ?_
  refine l_lss rfl rfl rfl ?_
  refine l_mv rfl ?_
  refine l_band (q := ((i : Nat) : Int) < ((acts.length : Nat) : Int)) 2 4 [36, 35] (((i : Nat) : Int) < 200) rfl rfl rfl rfl rfl rfl trivial rfl (fun h3_4 => ?_) (fun g3_7 => ?_)
  ·
    refine l_on rfl (gT h3_4) ?_
    refine l_mv rfl ?_
    refine l_on rfl (gT h3_4) ?_
    refine l_lss rfl rfl rfl ?_
    exact l_nil (fun w' hw => ⟨(by repeat (first | exact Out.refl _ _ | refine Out.upd rfl ?_ | refine Out.msk rfl ?_)), rfl, hw⟩)
  refine l_mv rfl ?_
  refine l_band (q := (((i : Nat) : Int) < ((acts.length : Nat) : Int)) ∧ (((i : Nat) : Int) < 200)) 2 8 [40, 39] (true = true) rfl rfl rfl rfl rfl rfl trivial rfl (fun h3_8 => ?_) (fun g3_11 => ?_)
  ·
    refine l_on rfl (gT h3_8) ?_
    refine l_mv rfl ?_
    refine l_on rfl (gT h3_8) ?_
    refine l_nilnp (by kernel_rfl) rfl rfl rfl ?_
    exact l_nil (fun w' hw => ⟨(by repeat (first | exact Out.refl _ _ | refine Out.upd rfl ?_ | refine Out.msk rfl ?_)), (bool_dec _), hw⟩)
  refine l_end ?_
  refine c_dec rfl (fun c1 => ?_) (fun c1 => ?_)
  ·
    refine c_skipC ?_
    refine c_seq ?_
    refine c_block ?_
    refine c_last ?_
    refine l_mv rfl ?_
    refine l_mv rfl ?_
    refine l_mv rfl ?_
    refine l_mv rfl ?_
    refine l_idxS (j := i) (sz := 6) (len := acts.length) (cs := (acts.flatMap QActD.cells)) rfl rfl (by kernel_rfl) (fun w' hw' => Own.rd hv hw') rfl (by omega) rfl ?_
    refine l_ldSN (v := v) (off := offV v + i * 6) (i * 6 + 0) (cs := (acts.flatMap QActD.cells)) (QActD.cells (nth acts i)) rfl (by omega) (fun w' hw' => Own.rd hv hw') (flat_atN (sz := 6) (fun _ => rfl) (nth_some (by omega)) (o := 0) (us := (QActD.cells (nth acts i))) (fun k u h => by rw [Nat.zero_add]; exact h)) (by kernel_rfl) rfl ?_
    refine l_call (by kernel_rfl) rfl rfl (fun w' hw => ?_)
    refine (qact_s b1_ bm2_ lm3_ b29 now cnt kb kl bv lv bs ls (nth acts i) w' ho hr (hwf _ (nth_mem (by omega))) (by omega) (hw.give [0, 1, 2, 3, 4, 5] rfl (by decide))).mono ?_
    rintro _ w1 ⟨now'4_, cnt'5_, kb'6_, kl'7_, bv'8_, lv'9_, bs'10_, ls'11_, rfl, hf5_6, hf5_6_1, hf5_6_2, hf5_6_3, hO⟩
    refine (?_ : CL _ _ _ _ _ _ (Own w [] [Res.row b1_ 64 [.map (some bm2_), .map (some lm3_), .int .i64 now'4_, .int .u64 (cnt'5_ : Nat)], Res.mp Value.string ekI bm2_ kb'6_, Res.mp ekU leaV lm3_ kl'7_, Res.row b29 30 [.int .i64 now'4_, .int .u64 (cnt'5_ : Nat), bv'8_, lv'9_], Res.vec 68 2 bv'8_ bs'10_.length (bs'10_.flatMap BudD.cells), Res.vec 37 5 lv'9_ ls'11_.length (ls'11_.flatMap LeaD.cells)])) w1 (hw.frameL [0, 1, 2, 3, 4, 5] rfl hO)
    refine l_end ?_
    refine c_last ?_
    refine l_mv rfl ?_
    refine l_add rfl rfl (wi64 (by omega)) rfl ?_
    refine l_as rfl ?_
    exact l_nil (fun w' hw => ⟨i + 1, now'4_, cnt'5_, kb'6_, kl'7_, bv'8_, lv'9_, bs'10_, ls'11_, ⟨rfl, rfl, rfl, rfl, rfl, rfl, rfl, rfl, trivial⟩, ⟨by omega, ⟨hf5_6, hf5_6_1, by have := hf5_6_2; omega⟩⟩, hw, (by omega)⟩)
  ·
    refine c_exitC rfl ?_
    refine c_seq ?_
    refine c_reg ?_
    refine l_call (by kernel_rfl) rfl rfl (fun w' hw => ?_)
    refine (answers_s w').mono ?_
    rintro _ w1 ⟨rfl, hO⟩
    refine (?_ : CL _ _ _ _ _ _ (Own w [] [Res.row b1_ 64 [.map (some bm2_), .map (some lm3_), .int .i64 now, .int .u64 (cnt : Nat)], Res.mp Value.string ekI bm2_ kb, Res.mp ekU leaV lm3_ kl, Res.row b29 30 [.int .i64 now, .int .u64 (cnt : Nat), bv, lv], Res.vec 68 2 bv bs.length (bs.flatMap BudD.cells), Res.vec 37 5 lv ls.length (ls.flatMap LeaD.cells)])) w1 (hw.frame0 hO)
    refine l_not (b := true) rfl rfl ?_
    refine l_mv rfl ?_
    refine l_on rfl rfl ?_
    refine l_mv rfl ?_
    refine l_on rfl rfl ?_
    refine l_nilp (by kernel_rfl) rfl rfl rfl ?_
    refine l_pickF rfl rfl ?_
    refine l_mv rfl ?_
    refine l_on rfl rfl ?_
    refine l_mv rfl ?_
    refine l_on rfl rfl ?_
    refine l_call (by kernel_rfl) rfl rfl (fun w' hw => ?_)
    refine (time_s b1_ bm2_ lm3_ now cnt w' (hw.give [0] rfl (by decide))).mono ?_
    rintro _ w1 ⟨rfl, hO⟩
    refine (?_ : CL _ _ _ _ _ _ (Own w [] [Res.mp Value.string ekI bm2_ kb, Res.mp ekU leaV lm3_ kl, Res.row b29 30 [.int .i64 now, .int .u64 (cnt : Nat), bv, lv], Res.vec 68 2 bv bs.length (bs.flatMap BudD.cells), Res.vec 37 5 lv ls.length (ls.flatMap LeaD.cells), Res.row b1_ 64 [.map (some bm2_), .map (some lm3_), .int .i64 now, .int .u64 (cnt : Nat)]])) w1 (hw.frameL [0] rfl hO)
    refine l_on rfl rfl ?_
    refine l_gtr rfl rfl rfl ?_
    refine l_pickF rfl rfl ?_
    refine l_end ?_
    refine c_dec rfl (fun c2 => ?_) (fun c2 => ?_)
    ·
      refine c_reg ?_
      refine l_call (by kernel_rfl) rfl rfl (fun w' hw => ?_)
      refine (answers_s w').mono ?_
      rintro _ w1 ⟨rfl, hO⟩
      refine (?_ : CL _ _ _ _ _ _ (Own w [] [Res.mp Value.string ekI bm2_ kb, Res.mp ekU leaV lm3_ kl, Res.row b29 30 [.int .i64 now, .int .u64 (cnt : Nat), bv, lv], Res.vec 68 2 bv bs.length (bs.flatMap BudD.cells), Res.vec 37 5 lv ls.length (ls.flatMap LeaD.cells), Res.row b1_ 64 [.map (some bm2_), .map (some lm3_), .int .i64 now, .int .u64 (cnt : Nat)]])) w1 (hw.frame0 hO)
      refine l_mv rfl ?_
      refine l_on rfl rfl ?_
      refine l_mv rfl ?_
      refine l_on rfl rfl ?_
      refine l_nilnp (by kernel_rfl) rfl rfl rfl ?_
      refine l_pickT rfl rfl ?_
      refine l_as rfl ?_
      refine l_end ?_
      exact c_ret (ret1 (v := .bool true) rfl rfl (fun w' hw => ⟨rfl, hw.drop⟩))
    ·
      refine c_skipC ?_
      refine c_reg ?_
      refine l_mv rfl ?_
      refine l_mv rfl ?_
      refine l_mv rfl ?_
      refine l_mv rfl ?_
      refine l_mv rfl ?_
      refine l_call (by kernel_rfl) rfl rfl (fun w' hw => ?_)
      refine (lend_s b1_ bm2_ lm3_ now cnt kb kl s key a sp w' (by rw [hr.lent]; exact ho.lent0 _) ha ho.time (by omega) (hw.give [5, 0, 1] rfl (by decide))).mono ?_
      rintro _ w1 ⟨x12_, e13_, cnt'14_, kl'15_, rfl, hf8_5, hf8_5_1, hf8_5_2, hf8_5_3, hO⟩
      have hE1 := hf8_5
      have hx := hf8_5_1
      have hcc := hf8_5_2
      have hk1 := hf8_5_3
      refine (?_ : CL _ _ _ _ _ _ (Own w [] [Res.row b29 30 [.int .i64 now, .int .u64 (cnt : Nat), bv, lv], Res.vec 68 2 bv bs.length (bs.flatMap BudD.cells), Res.vec 37 5 lv ls.length (ls.flatMap LeaD.cells), Res.row b1_ 64 [.map (some bm2_), .map (some lm3_), .int .i64 now, .int .u64 (cnt'14_ : Nat)], Res.mp Value.string ekI bm2_ kb, Res.mp ekU leaV lm3_ kl'15_])) w1 (hw.frameL [5, 0, 1] rfl hO)
      refine l_mv rfl ?_
      refine l_ext (vs := [.agg (LeaD.cells x12_).toArray, .int .i64 e13_]) rfl rfl rfl ?_
      refine l_ext (vs := [.agg (LeaD.cells x12_).toArray, .int .i64 e13_]) rfl rfl rfl ?_
      refine l_new (v := .agg #[.int .u64 (0 : Nat), .int .u64 (0 : Nat), .string (⟨#[]⟩ : ByteArray), .int .i64 0, .int .i64 0]) (by kernel_rfl) rfl (fun b14 => ?_)
      refine l_stN (cs := [.int .u64 (0 : Nat), .int .u64 (0 : Nat), .string (⟨#[]⟩ : ByteArray), .int .i64 0, .int .i64 0]) (vs := [.int .u64 (x12_.id : Nat), .int .u64 (x12_.session : Nat), .string x12_.key, .int .i64 x12_.amount, .int .i64 x12_.until_]) 6 rfl rfl rfl (by kernel_rfl) (allc_cons rfl (allc_cons rfl (allc_cons rfl (allc_cons rfl (allc_cons rfl allc_nil))))) (Nat.le_of_ble_eq_true rfl) ?_
      refine l_as rfl ?_
      refine l_end ?_
      refine c_seq ?_
      refine c_reg ?_
      refine l_mv rfl ?_
      refine l_ne rfl rfl rfl ?_
      refine l_end ?_
      refine c_dec rfl (fun c3 => ?_) (fun c3 => ?_)
      ·
        refine c_reg ?_
        refine l_ldr (cs := (LeaD.cells x12_)) 6 rfl rfl (by kernel_rfl) rfl ?_
        refine l_bld (cs := [.int .u64 (0 : Nat), .int .u64 (0 : Nat), .string (⟨#[]⟩ : ByteArray), .int .i64 0, .int .i64 0]) (z := [.int .u64 (0 : Nat), .int .u64 (0 : Nat), .string (⟨#[]⟩ : ByteArray), .int .i64 0, .int .i64 0]) (pl := [(0, 1), (1, 1), (2, 1), (3, 1), (4, 1)]) (by kernel_rfl) (by kernel_rfl) rfl ?_
        refine l_val rfl (v_stp (LeaDEq x12_ ({ id := 0, session := 0, key := (⟨#[]⟩ : ByteArray), amount := 0, until_ := 0 } : LeaD)) (by kernel_rfl) (by kernel_rfl) rfl rfl rfl rfl) ?_
        refine l_as rfl ?_
        refine l_end ?_
        exact c_ret (ret1 (v := .bool (decide (x12_ = ({ id := 0, session := 0, key := (⟨#[]⟩ : ByteArray), amount := 0, until_ := 0 } : LeaD)))) rfl rfl (fun w' hw => ⟨(by congr 1; exact decide_eq_true (by rw [hx]; unfold lendX; rw [if_neg c3]; rfl)), hw.drop⟩))
      ·
        have hL := lent1 ho hr hE1 hx hk1 c3
        have hsp := hL.sp
        have hb0 := hL.b0
        have hb1 := hL.b1
        have ha1 := hL.a1
        have hxi : x12_.id = cnt + 1 := by rw [hL.eq]
        have hux : x12_.until_ = now + sp := by rw [hL.eq]
        refine c_skipC ?_
        refine c_reg ?_
        refine l_mv rfl ?_
        refine l_mv rfl ?_
        refine l_sub rfl rfl (wi64 (by omega)) rfl ?_
        refine l_call (by kernel_rfl) rfl rfl (fun w' hw => ?_)
        refine (pass_s b1_ bm2_ lm3_ now cnt'14_ kl'15_ (sp - 1) w' ho.time ⟨by omega, by omega⟩ hL.nd hL.len (hw.give [3, 5] rfl (by decide))).mono ?_
        rintro _ w1 ⟨gv16_, gs17_, e18_, now'19_, kl'20_, rfl, hf11_3, hf11_3_1, hf11_3_2, hf11_3_3, hf11_3_4, hO⟩
        have hG1 := hf11_3_3
        have he1 : passE now (sp - 1) = 0 := passE_ok ⟨by omega, by omega⟩ (by omega)
        have hnow : now'19_ = now + (sp - 1) := by rw [hf11_3_1]; unfold passN; rw [if_pos he1]
        have hnot : x12_.id ∉ gs17_ := fun q => by have := (mem_gone hL.nd he1 hG1 hL.get).1 q; omega
        have hg2 : getA x12_.id kl'20_ = some x12_ := by rw [hf11_3_2, get_pass hL.nd he1 hL.get, if_neg (by omega)]
        have hnd2 : KNd kl'20_ := by rw [hf11_3_2]; exact pass_nd hL.nd
        have hlen2 : kl'20_.length ≤ 128 := by rw [hf11_3_2]; exact Nat.le_trans pass_len hL.len
        have hgl : gs17_.length ≤ 128 := Nat.le_trans (gone_len hG1) hL.len
        refine (?_ : CL _ _ _ _ _ _ (Own w [] [Res.row b29 30 [.int .i64 now, .int .u64 (cnt : Nat), bv, lv], Res.vec 68 2 bv bs.length (bs.flatMap BudD.cells), Res.vec 37 5 lv ls.length (ls.flatMap LeaD.cells), Res.mp Value.string ekI bm2_ kb, Res.row b14 37 (LeaD.cells x12_), Res.row b1_ 64 [.map (some bm2_), .map (some lm3_), .int .i64 now'19_, .int .u64 (cnt'14_ : Nat)], Res.mp ekU leaV lm3_ kl'20_, Res.vec 26 1 gv16_ gs17_.length (gs17_.flatMap U1)])) w1 (hw.frameL [3, 5] rfl hO)
        refine l_mv rfl ?_
        refine l_ext (vs := [gv16_, .int .i64 e18_]) rfl rfl rfl ?_
        refine l_ext (vs := [gv16_, .int .i64 e18_]) rfl rfl rfl ?_
        refine l_as rfl ?_
        refine l_as rfl ?_
        refine l_end ?_
        refine c_seq ?_
        refine c_reg ?_
        refine l_as rfl ?_
        refine l_end ?_
        refine c_block ?_
        refine c_loop1 (fun (j : Nat) => [(1, .int .u64 (s : Nat)), (11, .pointer (some ⟨b1_, 0, none⟩)), (14, .pointer (some ⟨b14, 0, none⟩)), (16, gv16_), (17, .int .i64 e18_), (18, .int .i64 (j : Nat))]) (fun (j : Nat) => j ≤ gs17_.length) (fun (j : Nat) => [Res.row b29 30 [.int .i64 now, .int .u64 (cnt : Nat), bv, lv], Res.vec 68 2 bv bs.length (bs.flatMap BudD.cells), Res.vec 37 5 lv ls.length (ls.flatMap LeaD.cells), Res.mp Value.string ekI bm2_ kb, Res.row b14 37 (LeaD.cells x12_), Res.row b1_ 64 [.map (some bm2_), .map (some lm3_), .int .i64 now'19_, .int .u64 (cnt'14_ : Nat)], Res.mp ekU leaV lm3_ kl'20_, Res.vec 26 1 gv16_ gs17_.length (gs17_.flatMap U1)]) (fun (j : Nat) => gs17_.length - j) (fun w' hw => ⟨0, ⟨rfl, rfl, rfl, rfl, rfl, rfl, trivial⟩, Nat.zero_le _, hw⟩) (fun j g hΦ => ?_)
        have hj := hΦ
        refine c_seq ?_
        refine c_reg ?_
        refine l_mv rfl ?_
        refine l_mv rfl ?_
        refine l_lenS (len := gs17_.length) (cs := (gs17_.flatMap U1)) (by kernel_rfl) rfl (fun w' hw' => Vec.sl (Own.holds hw' 7 _ rfl)) rfl ?_
        refine l_lss rfl rfl rfl ?_
        refine l_end ?_
        refine c_dec rfl (fun c4 => ?_) (fun c4 => ?_)
        ·
          refine c_skipC ?_
          refine c_seq ?_
          refine c_block ?_
          refine c_quiets (by kernel_rfl) (by kernel_rfl) ?_
          refine q_val rfl (v_mv) ?_
          refine q_val rfl (v_mv) ?_
          refine q_val rfl (v_idxS (j := j) (sz := 1) (len := gs17_.length) (cs := (gs17_.flatMap U1)) rfl rfl (by kernel_rfl) (fun w' hw' => Vec.sl (Own.holds hw' 7 _ rfl)) rfl (by omega)) ?_
          refine q_val rfl (v_ldS (v := gv16_) (off := offV gv16_ + j * 1) (j * 1 + 0) (cs := (gs17_.flatMap U1)) rfl (by omega) (fun w' hw' => Vec.sl (Own.holds hw' 7 _ rfl)) (flat_at (sz := 1) (fun _ => rfl) (nth_some (by omega)) (i := 0) rfl) (by kernel_rfl)) ?_
          refine q_val rfl (v_fld (o := 0) rfl (by kernel_rfl)) ?_
          refine q_val rfl (v_ldo 4 (v := .int .u64 (x12_.id : Nat)) rfl rfl rfl (by kernel_rfl)) ?_
          refine q_val rfl (v_eq rfl rfl) ?_
          refine q_end ?_
          refine c_dec rfl (fun c5 => ?_) (fun c5 => ?_)
          ·
            refine c_reg ?_
            refine l_as rfl ?_
            refine l_end ?_
            exact c_ret (ret1 (v := .bool false) rfl rfl (fun w' hw => ⟨(by exfalso; have hm := nth_mem (l := gs17_) (j := j) (by omega); rw [show nth gs17_ j = x12_.id by omega] at hm; exact hnot hm), hw.drop⟩))
          ·
            refine c_skipC ?_
            refine c_last ?_
            refine l_mv rfl ?_
            refine l_add rfl rfl (wi64 (by omega)) rfl ?_
            refine l_as rfl ?_
            exact l_nil (fun w' hw => ⟨j + 1, ⟨rfl, rfl, rfl, rfl, rfl, rfl, trivial⟩, (by omega), hw, (by omega)⟩)
        ·
          refine c_exitC rfl ?_
          refine c_reg ?_
          refine l_mv rfl ?_
          refine l_call (by kernel_rfl) rfl rfl (fun w' hw => ?_)
          refine (pass_s b1_ bm2_ lm3_ now'19_ cnt'14_ kl'20_ 1 w' (by omega) ⟨by omega, by omega⟩ hnd2 hlen2 (hw.give [5, 6] rfl (by decide))).mono ?_
          rintro _ w1 ⟨gv21_, gs22_, e23_, now'24_, kl'25_, rfl, hf17_1, hf17_1_1, hf17_1_2, hf17_1_3, hf17_1_4, hO⟩
          have hG2 := hf17_1_3
          have he2 : passE now'19_ 1 = 0 := passE_ok ⟨by omega, by omega⟩ (by omega)
          have hnow2 : now'24_ = now'19_ + 1 := by rw [hf17_1_1]; unfold passN; rw [if_pos he2]
          have hin : x12_.id ∈ gs22_ := (mem_gone hnd2 he2 hG2 hg2).2 (by omega)
          have hg3 : getA x12_.id kl'25_ = none := by rw [hf17_1_2, get_pass hnd2 he2 hg2, if_pos (by omega)]
          have hgl2 : gs22_.length ≤ 128 := Nat.le_trans (gone_len hG2) hlen2
          refine (?_ : CL _ _ _ _ _ _ (Own w [] [Res.row b29 30 [.int .i64 now, .int .u64 (cnt : Nat), bv, lv], Res.vec 68 2 bv bs.length (bs.flatMap BudD.cells), Res.vec 37 5 lv ls.length (ls.flatMap LeaD.cells), Res.mp Value.string ekI bm2_ kb, Res.row b14 37 (LeaD.cells x12_), Res.vec 26 1 gv16_ gs17_.length (gs17_.flatMap U1), Res.row b1_ 64 [.map (some bm2_), .map (some lm3_), .int .i64 now'24_, .int .u64 (cnt'14_ : Nat)], Res.mp ekU leaV lm3_ kl'25_, Res.vec 26 1 gv21_ gs22_.length (gs22_.flatMap U1)])) w1 (hw.frameL [5, 6] rfl hO)
          refine l_mv rfl ?_
          refine l_ext (vs := [gv21_, .int .i64 e23_]) rfl rfl rfl ?_
          refine l_ext (vs := [gv21_, .int .i64 e23_]) rfl rfl rfl ?_
          refine l_as rfl ?_
          refine l_as rfl ?_
          refine l_end ?_
          refine c_reg ?_
          refine l_as rfl ?_
          refine l_end ?_
          refine c_seq ?_
          refine c_reg ?_
          refine l_as rfl ?_
          refine l_end ?_
          refine c_block ?_
          refine c_loop1 (fun (j : Nat) => [(1, .int .u64 (s : Nat)), (11, .pointer (some ⟨b1_, 0, none⟩)), (14, .pointer (some ⟨b14, 0, none⟩)), (17, .int .i64 e18_), (19, gv21_), (20, .int .i64 e23_), (21, .bool (decide (x12_.id ∈ gs22_.take j))), (22, .int .i64 (j : Nat))]) (fun (j : Nat) => j ≤ gs22_.length) (fun (j : Nat) => [Res.row b29 30 [.int .i64 now, .int .u64 (cnt : Nat), bv, lv], Res.vec 68 2 bv bs.length (bs.flatMap BudD.cells), Res.vec 37 5 lv ls.length (ls.flatMap LeaD.cells), Res.mp Value.string ekI bm2_ kb, Res.row b14 37 (LeaD.cells x12_), Res.vec 26 1 gv16_ gs17_.length (gs17_.flatMap U1), Res.row b1_ 64 [.map (some bm2_), .map (some lm3_), .int .i64 now'24_, .int .u64 (cnt'14_ : Nat)], Res.mp ekU leaV lm3_ kl'25_, Res.vec 26 1 gv21_ gs22_.length (gs22_.flatMap U1)]) (fun (j : Nat) => gs22_.length - j) (fun w' hw => ⟨0, ⟨rfl, rfl, rfl, rfl, rfl, rfl, (show Value.bool _ = Value.bool _ by congr 1), rfl, trivial⟩, Nat.zero_le _, hw⟩) (fun j g hΦ => ?_)
          have hj3 := hΦ
          refine c_seq ?_
          refine c_reg ?_
          refine l_mv rfl ?_
          refine l_mv rfl ?_
          refine l_lenS (len := gs22_.length) (cs := (gs22_.flatMap U1)) (by kernel_rfl) rfl (fun w' hw' => Vec.sl (Own.holds hw' 8 _ rfl)) rfl ?_
          refine l_lss rfl rfl rfl ?_
          refine l_end ?_
          refine c_dec rfl (fun c6 => ?_) (fun c6 => ?_)
          ·
            refine c_skipC ?_
            refine c_seq ?_
            refine c_block ?_
            refine c_quiet (by kernel_rfl) (by kernel_rfl) ?_
            refine q_val rfl (v_mv) ?_
            refine q_val rfl (v_mv) ?_
            refine q_bor (q := x12_.id ∈ gs22_.take j) 7 1 [120, 119, 118, 117, 116, 115, 114] ((((nth gs22_ j) : Nat) : Int) = ((x12_.id : Nat) : Int)) rfl rfl rfl rfl rfl rfl trivial rfl (fun h22_1 => ?_) (fun g22_9 => ?_)
            ·
              refine q_on rfl (gF h22_1) ?_
              refine q_val rfl (v_mv) ?_
              refine q_on rfl (gF h22_1) ?_
              refine q_val rfl (v_mv) ?_
              refine q_on rfl (gF h22_1) ?_
              refine q_val rfl (v_idxS (j := j) (sz := 1) (len := gs22_.length) (cs := (gs22_.flatMap U1)) rfl rfl (by kernel_rfl) (fun w' hw' => Vec.sl (Own.holds hw' 8 _ rfl)) rfl (by omega)) ?_
              refine q_on rfl (gF h22_1) ?_
              refine q_val rfl (v_ldS (v := gv21_) (off := offV gv21_ + j * 1) (j * 1 + 0) (cs := (gs22_.flatMap U1)) rfl (by omega) (fun w' hw' => Vec.sl (Own.holds hw' 8 _ rfl)) (flat_at (sz := 1) (fun _ => rfl) (nth_some (by omega)) (i := 0) rfl) (by kernel_rfl)) ?_
              refine q_on rfl (gF h22_1) ?_
              refine q_val rfl (v_fld (o := 0) rfl (by kernel_rfl)) ?_
              refine q_on rfl (gF h22_1) ?_
              refine q_val rfl (v_ldo 4 (v := .int .u64 (x12_.id : Nat)) rfl rfl rfl (by kernel_rfl)) ?_
              refine q_on rfl (gF h22_1) ?_
              refine q_val rfl (v_eq rfl rfl) ?_
              exact q_nil (fun w' hw => ⟨(by repeat (first | exact Out.refl _ _ | refine Out.upd rfl ?_ | refine Out.msk rfl ?_)), rfl, hw⟩)
            refine q_val rfl (v_as) ?_
            refine q_end ?_
            refine c_last ?_
            refine l_mv rfl ?_
            refine l_add rfl rfl (wi64 (by omega)) rfl ?_
            refine l_as rfl ?_
            exact l_nil (fun w' hw => ⟨j + 1, ⟨rfl, rfl, rfl, rfl, rfl, rfl, (show Value.bool (decide _) = Value.bool (decide _) by congr 1; rw [decide_eq_decide, found_step (by omega)]; exact or_congr Iff.rfl (by omega)), rfl, trivial⟩, (by omega), hw, (by omega)⟩)
          ·
            refine c_exitC rfl ?_
            refine c_reg ?_
            refine l_mv rfl ?_
            refine l_mv rfl ?_
            refine l_fld (o := 0) rfl (by kernel_rfl) rfl ?_
            refine l_ldo 4 (v := .int .u64 (x12_.id : Nat)) rfl rfl rfl (by kernel_rfl) rfl ?_
            refine l_call (by kernel_rfl) rfl rfl (fun w' hw => ?_)
            refine (renew_s b1_ bm2_ lm3_ now'24_ cnt'14_ kb kl'25_ s x12_.id 1 w' (by omega) (hw.give [6, 3, 7] rfl (by decide))).mono ?_
            rintro _ w1 ⟨x26_, e27_, kl'28_, rfl, hf23_4, hO⟩
            have hR := renew_gone hf23_4 (by decide) hg3
            refine (?_ : CL _ _ _ _ _ _ (Own w [] [Res.row b29 30 [.int .i64 now, .int .u64 (cnt : Nat), bv, lv], Res.vec 68 2 bv bs.length (bs.flatMap BudD.cells), Res.vec 37 5 lv ls.length (ls.flatMap LeaD.cells), Res.row b14 37 (LeaD.cells x12_), Res.vec 26 1 gv16_ gs17_.length (gs17_.flatMap U1), Res.vec 26 1 gv21_ gs22_.length (gs22_.flatMap U1), Res.row b1_ 64 [.map (some bm2_), .map (some lm3_), .int .i64 now'24_, .int .u64 (cnt'14_ : Nat)], Res.mp Value.string ekI bm2_ kb, Res.mp ekU leaV lm3_ kl'28_])) w1 (hw.frameL [6, 3, 7] rfl hO)
            refine l_mv rfl ?_
            refine l_ext (vs := [.agg (LeaD.cells x26_).toArray, .int .i64 e27_]) rfl rfl rfl ?_
            refine l_ext (vs := [.agg (LeaD.cells x26_).toArray, .int .i64 e27_]) rfl rfl rfl ?_
            refine l_new (v := .agg #[.int .u64 (0 : Nat), .int .u64 (0 : Nat), .string (⟨#[]⟩ : ByteArray), .int .i64 0, .int .i64 0]) (by kernel_rfl) rfl (fun b23 => ?_)
            refine l_stN (cs := [.int .u64 (0 : Nat), .int .u64 (0 : Nat), .string (⟨#[]⟩ : ByteArray), .int .i64 0, .int .i64 0]) (vs := [.int .u64 (x26_.id : Nat), .int .u64 (x26_.session : Nat), .string x26_.key, .int .i64 x26_.amount, .int .i64 x26_.until_]) 9 rfl rfl rfl (by kernel_rfl) (allc_cons rfl (allc_cons rfl (allc_cons rfl (allc_cons rfl (allc_cons rfl allc_nil))))) (Nat.le_of_ble_eq_true rfl) ?_
            refine l_as rfl ?_
            refine l_end ?_
            refine c_reg ?_
            refine l_mv rfl ?_
            refine l_mv rfl ?_
            refine l_fld (o := 0) rfl (by kernel_rfl) rfl ?_
            refine l_ldo 3 (v := .int .u64 (x12_.id : Nat)) rfl rfl rfl (by kernel_rfl) rfl ?_
            refine l_call (by kernel_rfl) rfl rfl (fun w' hw => ?_)
            refine (back_s b1_ bm2_ lm3_ now'24_ cnt'14_ kl'28_ s x12_.id w' (hw.give [6, 8] rfl (by decide))).mono ?_
            rintro _ w1 ⟨x29_, e30_, kl'31_, rfl, hf24_4, hO⟩
            have hB1 := hf24_4
            rw [hR.2] at hB1
            have hB := back_gone hB1 hg3
            refine (?_ : CL _ _ _ _ _ _ (Own w [] [Res.row b29 30 [.int .i64 now, .int .u64 (cnt : Nat), bv, lv], Res.vec 68 2 bv bs.length (bs.flatMap BudD.cells), Res.vec 37 5 lv ls.length (ls.flatMap LeaD.cells), Res.row b14 37 (LeaD.cells x12_), Res.vec 26 1 gv16_ gs17_.length (gs17_.flatMap U1), Res.vec 26 1 gv21_ gs22_.length (gs22_.flatMap U1), Res.mp Value.string ekI bm2_ kb, Res.row b23 37 (LeaD.cells x26_), Res.row b1_ 64 [.map (some bm2_), .map (some lm3_), .int .i64 now'24_, .int .u64 (cnt'14_ : Nat)], Res.mp ekU leaV lm3_ kl'31_])) w1 (hw.frameL [6, 8] rfl hO)
            refine l_mv rfl ?_
            refine l_ext (vs := [.agg (LeaD.cells x29_).toArray, .int .i64 e30_]) rfl rfl rfl ?_
            refine l_ext (vs := [.agg (LeaD.cells x29_).toArray, .int .i64 e30_]) rfl rfl rfl ?_
            refine l_new (v := .agg #[.int .u64 (0 : Nat), .int .u64 (0 : Nat), .string (⟨#[]⟩ : ByteArray), .int .i64 0, .int .i64 0]) (by kernel_rfl) rfl (fun b25 => ?_)
            refine l_stN (cs := [.int .u64 (0 : Nat), .int .u64 (0 : Nat), .string (⟨#[]⟩ : ByteArray), .int .i64 0, .int .i64 0]) (vs := [.int .u64 (x29_.id : Nat), .int .u64 (x29_.session : Nat), .string x29_.key, .int .i64 x29_.amount, .int .i64 x29_.until_]) 10 rfl rfl rfl (by kernel_rfl) (allc_cons rfl (allc_cons rfl (allc_cons rfl (allc_cons rfl (allc_cons rfl allc_nil))))) (Nat.le_of_ble_eq_true rfl) ?_
            refine l_as rfl ?_
            refine l_end ?_
            refine c_reg ?_
            refine l_mv rfl ?_
            refine l_eq rfl rfl rfl ?_
            refine l_mv rfl ?_
            refine l_band (q := e18_ = 0) 2 2 [142, 141] (e23_ = 0) rfl rfl rfl rfl rfl rfl trivial rfl (fun h25_2 => ?_) (fun g25_5 => ?_)
            ·
              refine l_on rfl (gT h25_2) ?_
              refine l_mv rfl ?_
              refine l_on rfl (gT h25_2) ?_
              refine l_eq rfl rfl rfl ?_
              exact l_nil (fun w' hw => ⟨(by repeat (first | exact Out.refl _ _ | refine Out.upd rfl ?_ | refine Out.msk rfl ?_)), rfl, hw⟩)
            refine l_mv rfl ?_
            refine l_band (q := (e18_ = 0) ∧ (e23_ = 0)) 1 6 [145] (x12_.id ∈ gs22_.take j) rfl rfl rfl rfl rfl rfl trivial rfl (fun h25_6 => ?_) (fun g25_8 => ?_)
            ·
              refine l_on rfl (gT h25_6) ?_
              refine l_mv rfl ?_
              exact l_nil (fun w' hw => ⟨(by repeat (first | exact Out.refl _ _ | refine Out.upd rfl ?_ | refine Out.msk rfl ?_)), rfl, hw⟩)
            refine l_mv rfl ?_
            refine l_band (q := ((e18_ = 0) ∧ (e23_ = 0)) ∧ (x12_.id ∈ gs22_.take j)) 2 9 [149, 148] (e27_ = 17) rfl rfl rfl rfl rfl rfl trivial rfl (fun h25_9 => ?_) (fun g25_12 => ?_)
            ·
              refine l_on rfl (gT h25_9) ?_
              refine l_mv rfl ?_
              refine l_on rfl (gT h25_9) ?_
              refine l_eq rfl rfl rfl ?_
              exact l_nil (fun w' hw => ⟨(by repeat (first | exact Out.refl _ _ | refine Out.upd rfl ?_ | refine Out.msk rfl ?_)), rfl, hw⟩)
            refine l_mv rfl ?_
            refine l_band (q := (((e18_ = 0) ∧ (e23_ = 0)) ∧ (x12_.id ∈ gs22_.take j)) ∧ (e27_ = 17)) 2 13 [153, 152] (e30_ = 17) rfl rfl rfl rfl rfl rfl trivial rfl (fun h25_13 => ?_) (fun g25_16 => ?_)
            ·
              refine l_on rfl (gT h25_13) ?_
              refine l_mv rfl ?_
              refine l_on rfl (gT h25_13) ?_
              refine l_eq rfl rfl rfl ?_
              exact l_nil (fun w' hw => ⟨(by repeat (first | exact Out.refl _ _ | refine Out.upd rfl ?_ | refine Out.msk rfl ?_)), rfl, hw⟩)
            refine l_as rfl ?_
            refine l_end ?_
            exact c_ret (ret1 (v := .bool (decide (((((e18_ = 0) ∧ (e23_ = 0)) ∧ (x12_.id ∈ gs22_.take j)) ∧ (e27_ = 17)) ∧ (e30_ = 17)))) rfl rfl (fun w' hw => ⟨(by congr 1; exact decide_eq_true ⟨⟨⟨⟨by omega, by omega⟩, by rw [List.take_of_length_le (by omega)]; exact hin⟩, hR.1⟩, hB⟩), hw.drop⟩))
end Go.Proofs.Ytgkeoenbcjfeaaa
