import Derived.Test.YthincafbmpialaaGreatRead
import Derived.Test.YthincafbmpialaaGreatLedL
/-
  HOW entries and commands are read.
-/
set_option linter.unusedVariables false
set_option maxRecDepth 10000
namespace Go.Proofs.YthincafbmpialaaGreat
open Go Go.Sc Go.Proofs Go.RowKit Go.ChangeShapes Go.WideShapes

theorem sum_one {α : Type} (l : List α) : (l.map fun _ => 1).sum = l.length := by induction l <;> simp_all; omega
def BytesWf (W : World) (p : Value × List UInt8) : Prop := Rd W [] (Res.sl p.1 p.2.length (p.2.map vb))
theorem rdBytes (W : World) : RdA Tryz.prog W 52 (fun p : Value × List UInt8 => [p.1]) (BytesWf W) (fun p => p.2.length + 1) :=
  (RdA.slice (sz := 1) Tryz.underlying52 (by kernel_rfl) (by decide) (fun _ => rfl) (RdA.byte (W := W) Tryz.underlying5)).map id (fun _ => rfl) (fun p h => Rd.of (by have := h.1; rw [← map_flat] at this; exact this)) (fun p _ => by rw [sum_one]; exact Nat.le_refl _)
structure EntIn (W : World) (x : EntD) : Prop where
  index : x.index < 18446744073709551616
  term : x.term < 18446744073709551616
  delta : isI x.delta
  rd : x.rd W []
theorem EntIn.ok {W : World} {x : EntD} (h : EntIn W x) (hd : x.data.length ≤ 1048576) : EntOk x := ⟨⟨h.index, h.term, by omega⟩, h.delta⟩
theorem rdEnt (W : World) : RdA Tryz.prog W 57 EntD.cells (EntIn W) (fun x => x.data.length + 1) := by
  have h := RdA.struct (W := W) (tot := 5) Tryz.underlying57 (by kernel_rfl)
    (RdF.cons (sz := 1) rfl (by kernel_rfl) (RdA.u64 Tryz.underlying28) (RdF.cons (sz := 1) rfl (by kernel_rfl) (RdA.u64 Tryz.underlying28)
      (RdF.cons (sz := 1) rfl (by kernel_rfl) (RdA.i64 Tryz.underlying3) (RdF.cons (sz := 1) rfl (by kernel_rfl) (RdA.i64 Tryz.underlying2)
        (RdF.cons (sz := 1) rfl (by kernel_rfl) (rdBytes W) (RdF.nil rfl))))))
  exact h.map (fun p => ⟨⟨p.1, p.2.1, p.2.2.1, p.2.2.2.1, p.2.2.2.2.1.2⟩, p.2.2.2.2.1.1⟩) (fun _ => rfl) (fun _ h => ⟨h.1, h.2.1, h.2.2.2.1, ⟨h.2.2.2.2.1⟩⟩) (fun _ _ => by dsimp only; omega)
theorem rdEnts (W : World) : RdA Tryz.prog W 22 (fun p : Value × List EntD => [p.1]) (fun p => Rd W [] (Res.sl p.1 p.2.length (p.2.flatMap EntD.cells)) ∧ ∀ a ∈ p.2, EntIn W a) (fun p => (p.2.map fun x => x.data.length + 1).sum + 1) :=
  (RdA.slice (sz := 5) Tryz.underlying22 (by kernel_rfl) (by decide) (fun _ => rfl) (rdEnt W)).map id (fun _ => rfl) (fun p h => ⟨Rd.of h.1, h.2⟩) (fun p _ => Nat.le_refl _)
theorem ents_in {W : World} {l : List EntD} (h : ∀ a ∈ l, EntIn W a) (hd : (l.map fun x => x.data.length + 1).sum ≤ 1048576) : l.length ≤ 10000000 ∧ (∀ x ∈ l, EntOk x) ∧ ∀ p ∈ l, EntD.rd p W [] := by
  have key : ∀ l : List EntD, l.length ≤ (l.map fun x => x.data.length + 1).sum ∧ ∀ x ∈ l, x.data.length ≤ (l.map fun x => x.data.length + 1).sum := fun l => by
    induction l with
    | nil => simp
    | cons a l ih =>
      simp only [List.map_cons, List.sum_cons, List.length_cons]
      refine ⟨by omega, fun x hx => ?_⟩
      rcases List.mem_cons.1 hx with rfl | hx
      · omega
      · have := ih.2 x hx; omega
  exact ⟨by have := (key l).1; omega, fun x hx => (h x hx).ok (by have := (key l).2 x hx; omega), fun p hp => (h p hp).rd⟩
structure CmdIn (x : CmdD) : Prop where
  session : x.session < 18446744073709551616
  seq : x.seq < 18446744073709551616
  amount : isI x.amount
  span : isI x.span
  lease : x.lease < 18446744073709551616
theorem CmdIn.wf {x : CmdD} (h : CmdIn x) (hd : x.key.size ≤ 1048576) : x.wf := ⟨h.session, h.seq, hd, h.amount, h.span, h.lease⟩
theorem rdCmd (W : World) : RdA Tryz.prog W 47 CmdD.cells CmdIn (fun x => x.key.size + 1) := by
  have h := RdA.struct (W := W) (tot := 7) Tryz.underlying47 (by kernel_rfl)
    (RdF.cons (sz := 1) rfl (by kernel_rfl) (RdA.u64 Tryz.underlying28) (RdF.cons (sz := 1) rfl (by kernel_rfl) (RdA.u64 Tryz.underlying28)
      (RdF.cons (sz := 1) rfl (by kernel_rfl) (RdA.i64 Tryz.underlying3) (RdF.cons (sz := 1) rfl (by kernel_rfl) (RdA.str Tryz.underlying9)
        (RdF.cons (sz := 1) rfl (by kernel_rfl) (RdA.i64 Tryz.underlying2) (RdF.cons (sz := 1) rfl (by kernel_rfl) (RdA.i64 Tryz.underlying2)
          (RdF.cons (sz := 1) rfl (by kernel_rfl) (RdA.u64 Tryz.underlying28) (RdF.nil rfl))))))))
  exact h.map (fun p => ⟨p.1, p.2.1, p.2.2.1, p.2.2.2.1, p.2.2.2.2.1, p.2.2.2.2.2.1, p.2.2.2.2.2.2.1⟩) (fun _ => rfl) (fun _ h => ⟨h.1, h.2.1, h.2.2.2.2.1, h.2.2.2.2.2.1, h.2.2.2.2.2.2.1⟩) (fun _ _ => by first | omega | (dsimp only; omega))
theorem rdCmds (W : World) : RdA Tryz.prog W 40 (fun p : Value × List CmdD => [p.1]) (fun p => Rd W [] (Res.sl p.1 p.2.length (p.2.flatMap CmdD.cells)) ∧ ∀ a ∈ p.2, CmdIn a) (fun p => (p.2.map fun x => x.key.size + 1).sum + 1) :=
  (RdA.slice (sz := 7) Tryz.underlying40 (by kernel_rfl) (by decide) (fun _ => rfl) (rdCmd W)).map id (fun _ => rfl) (fun p h => ⟨Rd.of h.1, h.2⟩) (fun p _ => Nat.le_refl _)
theorem cmds_in {l : List CmdD} (h : ∀ a ∈ l, CmdIn a) (hd : (l.map fun x => x.key.size + 1).sum ≤ 1048576) : l.length ≤ 10000000 ∧ ∀ x ∈ l, x.wf := by
  have key : ∀ l : List CmdD, l.length ≤ (l.map fun x => x.key.size + 1).sum ∧ ∀ x ∈ l, x.key.size ≤ (l.map fun x => x.key.size + 1).sum := fun l => by
    induction l with
    | nil => simp
    | cons a l ih =>
      simp only [List.map_cons, List.sum_cons, List.length_cons]
      refine ⟨by omega, fun x hx => ?_⟩
      rcases List.mem_cons.1 hx with rfl | hx
      · omega
      · have := ih.2 x hx; omega
  exact ⟨by have := (key l).1; omega, fun x hx => (h x hx).wf (by have := (key l).2 x hx; omega)⟩
end Go.Proofs.YthincafbmpialaaGreat

/-
  LedgerDoes and LedgerOnce, walked.
-/
set_option linter.unusedVariables false
set_option maxRecDepth 10000
namespace Go.Proofs.YthincafbmpialaaGreat
open Go Go.Sc Go.Proofs

instance : Inhabited CmdD := ⟨cmd1⟩
section
variable {now : Int} {cnt cnt' : Nat} {kb kb' : List (ByteArray × Int)} {kl kl' : List (Nat × LeaD)} {kr kr' : List (Nat × RepD)} {c : CmdD} {r s : RepD} {did : Bool}
theorem LSt.eqs {idx : Nat} {idx2 : Nat} {now2 : Int} {cnt2 : Nat} {bs : List BudD} {ls : List LeaD} {rs : List RepD} (h : LSt idx now cnt kb kl kr idx2 now2 cnt2 bs ls rs) (e : cnt' = cnt ∧ kb' = kb ∧ kl' = kl ∧ kr' = kr) : LSt idx now cnt' kb' kl' kr' idx2 now2 cnt2 bs ls rs := by
  obtain ⟨rfl, rfl, rfl, rfl⟩ := e; exact h
end
theorem ledgerDoes_s (v : Value) (l : List EntD) (u : Value) (c : List CmdD) (w : World) (hel : ∀ x ∈ l, EntOk x) (hl : l.length ≤ 10000000) (hc : ∀ x ∈ c, x.wf) (hlc : c.length ≤ 10000000) (hv : Rd w [] (Res.sl v l.length (l.flatMap EntD.cells))) (all_hv : ∀ p ∈ l, EntD.rd p w []) (hu : Rd w [] (Res.sl u c.length (c.flatMap CmdD.cells))) : Rets Tryz.prog 4 #[v, u] w fun u_ w' => u_ = .bool true ∧ Own w [] [] w' := by
  refine fn_own Tryz.func4 rfl Tryz.ntmps4 (Own.start w) ?_
  refine c_reg (l_as rfl (l_end (c_reg (a_call rfl rfl (fun w' hw => (lnew_s w').mono ?_)))))
  rintro _ w1 ⟨b1_, tb2_, cb3_, bm4_, lm5_, rm6_, rfl, hO⟩
  refine (?_ : CL _ _ _ _ _ _ (Own w [] [Res.row b1_ 66 [.pointer (some ⟨tb2_, 0, none⟩), .pointer (some ⟨cb3_, 0, none⟩), Vn 0], Res.row tb2_ 111 [.map (some bm4_), .map (some lm5_), Vi 0, Vn 0], Res.mp Value.string ekI bm4_ ([] : List (ByteArray × Int)), Res.mp ekU leaV lm5_ ([] : List (Nat × LeaD)), Res.row cb3_ 114 [.map (some rm6_)], Res.mp ekR repA rm6_ ([] : List (Nat × RepD))])) w1 (hw.frame0 hO)
  refine l_bld (cs := [Vi 0, Vn 0, .slice none 0 0, .slice none 0 0, .slice none 0 0, Vn 0]) (z := [Vi 0, Vn 0, .slice none 0 0, .slice none 0 0, .slice none 0 0, Vn 0]) (pl := [(0, 4), (4, 1), (5, 1)]) (by kernel_rfl) (by kernel_rfl) rfl (l_box rfl rfl (fun b14 => l_as rfl (l_as rfl (l_end (c_seq (c_reg (a_call rfl rfl (fun w' hw => (answers_s w').mono ?_))))))))
  rintro _ w1 ⟨rfl, hO⟩
  refine (?_ : CL _ _ _ _ _ _ (Own w [] [Res.row b1_ 66 [.pointer (some ⟨tb2_, 0, none⟩), .pointer (some ⟨cb3_, 0, none⟩), Vn 0], Res.row tb2_ 111 [.map (some bm4_), .map (some lm5_), Vi 0, Vn 0], Res.mp Value.string ekI bm4_ ([] : List (ByteArray × Int)), Res.mp ekU leaV lm5_ ([] : List (Nat × LeaD)), Res.row cb3_ 114 [.map (some rm6_)], Res.mp ekR repA rm6_ ([] : List (Nat × RepD)), Res.row b14 37 [Vi 0, Vn 0, .slice none 0 0, .slice none 0 0, .slice none 0 0, Vn 0]])) w1 (hw.frame0 hO)
  refine l_not (b := true) rfl rfl (l_mv rfl (l_on rfl rfl (l_mv rfl (l_on rfl rfl (l_nilp (by kernel_rfl) rfl rfl rfl (l_pickF rfl rfl (l_mv rfl (l_on rfl rfl (l_mv rfl (l_on rfl rfl (l_mv rfl (l_on rfl rfl ?_))))))))))))
  refine l_mv rfl (l_on rfl rfl (a_call rfl rfl (fun w' hw => (follow_s v l w' ‹_› (by first | omega | (simp <;> omega)) (hw.rd0 hv) (fun p hp => EntD.rd.at0 (all_hv p hp) hw)).mono ?_)))
  rintro r7_ w1 ⟨_, es8_, rfl, hf2_10, hf2_10_1, hO⟩
  refine (?_ : CL _ _ _ _ _ _ (Own w [] [Res.row b1_ 66 [.pointer (some ⟨tb2_, 0, none⟩), .pointer (some ⟨cb3_, 0, none⟩), Vn 0], Res.row tb2_ 111 [.map (some bm4_), .map (some lm5_), Vi 0, Vn 0], Res.mp Value.string ekI bm4_ ([] : List (ByteArray × Int)), Res.mp ekU leaV lm5_ ([] : List (Nat × LeaD)), Res.row cb3_ 114 [.map (some rm6_)], Res.mp ekR repA rm6_ ([] : List (Nat × RepD)), Res.row b14 37 [Vi 0, Vn 0, .slice none 0 0, .slice none 0 0, .slice none 0 0, Vn 0], Res.vec 57 5 r7_ es8_.length (es8_.flatMap EntD.cells), Res.star (es8_.map EntD.dres)])) w1 (hw.frame0 hO)
  refine l_on rfl rfl ?_
  refine l_addnil 93 2 ?_
  refine l_addnil 76 5 ?_
  refine l_addnil 43 6 ?_
  refine a_call rfl rfl (fun w' hw => (apply_s r7_ es8_ b1_ tb2_ cb3_ bm4_ lm5_ rm6_ 0 0 0 [] [] [] b14 0 0 0 (.slice none 0 0) (.slice none 0 0) (.slice none 0 0) [] [] [] w' LSt.start hf2_10_1 (by have := hf2_10; omega) (by have := hf2_10; omega) (hw.give [0, 1, 2, 3, 4, 5, 6, 9, 10, 11] rfl (by decide)) (hw.rdVec 7 rfl [0, 1, 2, 3, 4, 5, 6, 9, 10, 11] rfl rfl) (EntD.rd.star 8 rfl [0, 1, 2, 3, 4, 5, 6, 9, 10, 11] rfl rfl hw)).mono ?_)
  rintro _ w1 ⟨idx'9_, now'10_, cnt'11_, kb'12_, kl'13_, kr'14_, idx315_, now316_, cnt317_, bv'18_, lv'19_, rv'20_, bs'21_, ls'22_, rs'23_, rfl, hf2_11, hf2_11_1, hf2_11_2, hO⟩
  refine (?_ : CL _ _ _ _ _ _ (Own w [] [Res.vec 57 5 r7_ es8_.length (es8_.flatMap EntD.cells), Res.star (es8_.map EntD.dres), Res.row b1_ 66 [.pointer (some ⟨tb2_, 0, none⟩), .pointer (some ⟨cb3_, 0, none⟩), Vn idx'9_], Res.row tb2_ 111 [.map (some bm4_), .map (some lm5_), Vi now'10_, Vn cnt'11_], Res.mp Value.string ekI bm4_ kb'12_, Res.mp ekU leaV lm5_ kl'13_, Res.row cb3_ 114 [.map (some rm6_)], Res.mp ekR repA rm6_ kr'14_, Res.row b14 37 [Vi now316_, Vn cnt317_, bv'18_, lv'19_, rv'20_, Vn idx315_], Res.vec 93 2 bv'18_ bs'21_.length (bs'21_.flatMap BudD.cells), Res.vec 76 5 lv'19_ ls'22_.length (ls'22_.flatMap LeaD.cells), Res.vec 43 6 rv'20_ rs'23_.length (rs'23_.flatMap RepD.cells)])) w1 (hw.frameL [0, 1, 2, 3, 4, 5, 6, 9, 10, 11] rfl hO)
  refine l_on rfl rfl (l_not (b := true) rfl rfl (l_pickF rfl rfl (l_end (c_no rfl (c_skipC (c_seq (c_reg (l_as rfl (l_end (c_block ?_))))))))))
  refine c_loop16 (fun (i : Nat) (idx' : Nat) (now' : Int) (cnt' : Nat) (kb' : List (ByteArray × Int)) (kl' : List (Nat × LeaD)) (kr' : List (Nat × RepD)) (idx3 : Nat) (now3 : Int) (cnt3 : Nat) (bv' lv' rv' : Value) (bs' : List BudD) (ls' : List LeaD) (rs' : List RepD) => [(1, u), (5, .pointer (some ⟨b1_, 0, none⟩)), (6, .pointer (some ⟨b14, 0, none⟩)), (7, Vj i)]) (fun (i : Nat) (idx' : Nat) (now' : Int) (cnt' : Nat) (kb' : List (ByteArray × Int)) (kl' : List (Nat × LeaD)) (kr' : List (Nat × RepD)) (idx3 : Nat) (now3 : Int) (cnt3 : Nat) (bv' lv' rv' : Value) (bs' : List BudD) (ls' : List LeaD) (rs' : List RepD) => (i ≤ c.length ∧ i ≤ 100 ∧ cnt3 ≤ 200 + i) ∧ LSt idx' now' cnt' kb' kl' kr' idx3 now3 cnt3 bs' ls' rs') (fun (i : Nat) (idx' : Nat) (now' : Int) (cnt' : Nat) (kb' : List (ByteArray × Int)) (kl' : List (Nat × LeaD)) (kr' : List (Nat × RepD)) (idx3 : Nat) (now3 : Int) (cnt3 : Nat) (bv' lv' rv' : Value) (bs' : List BudD) (ls' : List LeaD) (rs' : List RepD) => [Res.row b1_ 66 [.pointer (some ⟨tb2_, 0, none⟩), .pointer (some ⟨cb3_, 0, none⟩), Vn idx'], Res.row tb2_ 111 [.map (some bm4_), .map (some lm5_), Vi now', Vn cnt'], Res.mp Value.string ekI bm4_ kb', Res.mp ekU leaV lm5_ kl', Res.row cb3_ 114 [.map (some rm6_)], Res.mp ekR repA rm6_ kr', Res.row b14 37 [Vi now3, Vn cnt3, bv', lv', rv', Vn idx3], Res.vec 93 2 bv' bs'.length (bs'.flatMap BudD.cells), Res.vec 76 5 lv' ls'.length (ls'.flatMap LeaD.cells), Res.vec 43 6 rv' rs'.length (rs'.flatMap RepD.cells)]) (fun (i : Nat) (idx' : Nat) (now' : Int) (cnt' : Nat) (kb' : List (ByteArray × Int)) (kl' : List (Nat × LeaD)) (kr' : List (Nat × RepD)) (idx3 : Nat) (now3 : Int) (cnt3 : Nat) (bv' lv' rv' : Value) (bs' : List BudD) (ls' : List LeaD) (rs' : List RepD) => c.length - i) (fun w' hw => ⟨0, idx'9_, now'10_, cnt'11_, kb'12_, kl'13_, kr'14_, idx315_, now316_, cnt317_, bv'18_, lv'19_, rv'20_, bs'21_, ls'22_, rs'23_, ⟨rfl, rfl, rfl, rfl, trivial⟩, ⟨⟨by omega, by omega, by have := hf2_11_1; have := hf2_10; omega⟩, hf2_11⟩, hw.sel [2, 3, 4, 5, 6, 7, 8, 9, 10, 11] rfl (by decide)⟩) (fun i idx' now' cnt' kb' kl' kr' idx3 now3 cnt3 bv' lv' rv' bs' ls' rs' g hΦ => ?_)
  have hi1 := hΦ.1
  have hs2 := hΦ.2
  refine c_seq (c_reg (l_mv rfl (l_mv rfl (a_lenP (pR hu) rfl rfl (l_lss rfl rfl rfl (l_mv rfl (l_band (q := ((i : Nat) : Int) < ((c.length : Nat) : Int)) 2 4 [35, 34] (((i : Nat) : Int) < 100) rfl rfl rfl rfl rfl rfl trivial rfl (fun h5_4 => ?_) (fun g5_7 => ?_))))))))
  ·
   refine l_on rfl (gT h5_4) (l_mv rfl (l_on rfl (gT h5_4) (l_lss rfl rfl rfl ?_)))
   exact l_gp rfl (fun _ hw => hw)
  refine l_end (c_dec rfl (fun c2 => ?_) (fun c2 => ?_))
  ·
   refine c_skipC (c_seq (c_block (c_reg (l_mv rfl (l_mv rfl (l_mv rfl (a_idxP (pR hu) 7 i rfl rfl rfl (by omega) rfl (a_ldAP (pR hu) 7 i (off := offV u + i * 7) (fun _ => rfl) rfl rfl (by omega) rfl (a_call rfl rfl (fun w' hw => (ldo_s b1_ tb2_ cb3_ bm4_ lm5_ rm6_ idx' now' cnt' kb' kl' kr' (nth c i) w' (hc _ (nth_mem (by omega))) hs2.ht (by rw [hs2.c]; omega) (hs2.lent1 _) (hs2.kl0 (by omega)) (hw.give [0, 1, 2, 3, 4, 5] rfl (by decide))).mono ?_))))))))))
   rintro _ w1 ⟨r24_, did25_, cnt'26_, kb'27_, kl'28_, kr'29_, rfl, hf7_5, hO⟩
   refine (?_ : CL _ _ _ _ _ _ (Own w [] [Res.row b14 37 [Vi now3, Vn cnt3, bv', lv', rv', Vn idx3], Res.vec 93 2 bv' bs'.length (bs'.flatMap BudD.cells), Res.vec 76 5 lv' ls'.length (ls'.flatMap LeaD.cells), Res.vec 43 6 rv' rs'.length (rs'.flatMap RepD.cells), Res.row b1_ 66 [.pointer (some ⟨tb2_, 0, none⟩), .pointer (some ⟨cb3_, 0, none⟩), Vn idx'], Res.row tb2_ 111 [.map (some bm4_), .map (some lm5_), Vi now', Vn cnt'26_], Res.mp Value.string ekI bm4_ kb'27_, Res.mp ekU leaV lm5_ kl'28_, Res.row cb3_ 114 [.map (some rm6_)], Res.mp ekR repA rm6_ kr'29_])) w1 (hw.frameL [0, 1, 2, 3, 4, 5] rfl hO)
   refine l_mv rfl (l_ext (vs := [.agg (RepD.cells r24_).toArray, .bool did25_]) rfl rfl rfl (l_ext (vs := [.agg (RepD.cells r24_).toArray, .bool did25_]) rfl rfl rfl (l_new (v := .agg #[Vn 0, Vn 0, Vi 0, Vn 0, Vi 0, Vi 0]) (by kernel_rfl) rfl (fun b8 => a_stN 10 rfl rfl rfl (allc rfl) rfl (l_as rfl (l_end (c_reg (l_mv rfl (l_mv rfl (l_mv rfl (a_idxP (pR hu) 7 i rfl rfl rfl (by omega) rfl (a_ldAP (pR hu) 7 i (off := offV u + i * 7) (fun _ => rfl) rfl rfl (by omega) rfl ?_))))))))))))
   refine a_call rfl rfl (fun w' hw => (rdo_s b14 (37) ([]) now3 cnt3 bv' lv' rv' bs' ls' rs' idx3 (nth c i) w' hs2.h (hc _ (nth_mem (by omega))) (hw.give [0, 1, 2, 3] rfl (by decide))).mono ?_)
   rintro _ w1 ⟨r30_, did31_, cnt'32_, bv'33_, lv'34_, rv'35_, bs'36_, ls'37_, rs'38_, rfl, hf8_5, hO⟩
   have hdo := hs2.do (hc _ (nth_mem (by omega))) (by omega) hf7_5 hf8_5
   refine (?_ : CL _ _ _ _ _ _ (Own w [] [Res.row b1_ 66 [.pointer (some ⟨tb2_, 0, none⟩), .pointer (some ⟨cb3_, 0, none⟩), Vn idx'], Res.row tb2_ 111 [.map (some bm4_), .map (some lm5_), Vi now', Vn cnt'26_], Res.mp Value.string ekI bm4_ kb'27_, Res.mp ekU leaV lm5_ kl'28_, Res.row cb3_ 114 [.map (some rm6_)], Res.mp ekR repA rm6_ kr'29_, Res.row b8 43 (RepD.cells r24_), Res.row b14 (37) [Vi now3, Vn cnt'32_, bv'33_, lv'34_, rv'35_, Vn idx3], Res.vec 93 2 bv'33_ bs'36_.length (bs'36_.flatMap BudD.cells), Res.vec 76 5 lv'34_ ls'37_.length (ls'37_.flatMap LeaD.cells), Res.vec 43 6 rv'35_ rs'38_.length (rs'38_.flatMap RepD.cells)])) w1 (hw.frameL [0, 1, 2, 3] rfl hO)
   refine l_mv rfl (l_ext (vs := [.agg (RepD.cells r30_).toArray, .bool did31_]) rfl rfl rfl (l_ext (vs := [.agg (RepD.cells r30_).toArray, .bool did31_]) rfl rfl rfl (l_new (v := .agg #[Vn 0, Vn 0, Vi 0, Vn 0, Vi 0, Vi 0]) (by kernel_rfl) rfl (fun b10 => a_stN 11 rfl rfl rfl (allc rfl) rfl (l_as rfl (l_end (c_reg (a_ldr (cs := (RepD.cells r24_)) 6 rfl rfl rfl (a_ldr (cs := (RepD.cells r30_)) 11 rfl rfl rfl (l_val rfl (v_stq (RepDEq r24_ r30_) (by kernel_rfl) (by kernel_rfl) rfl rfl rfl rfl) (l_mv rfl (l_bor (q := ¬ (r24_ = r30_)) 3 3 [63, 62, 61] (¬ ((did25_ = true) ↔ (did31_ = true))) rfl rfl rfl rfl rfl rfl trivial rfl (fun h9_3 => ?_) (fun g9_7 => ?_)))))))))))))
   ·
    refine l_on rfl (gF h9_3) (l_mv rfl (l_on rfl (gF h9_3) (l_mv rfl (l_on rfl (gF h9_3) (l_bnep (by kernel_rfl) (bool_dec _) (bool_dec _) rfl ?_)))))
    exact l_gp rfl (fun _ hw => hw)
   refine l_mv rfl (l_bor (q := (¬ (r24_ = r30_)) ∨ (¬ ((did25_ = true) ↔ (did31_ = true)))) 4 8 [69, 68, 67, 66] (false = true) rfl rfl rfl rfl rfl rfl trivial rfl (fun h9_8 => ?_) (fun g9_13 => ?_))
   ·
    refine l_on rfl (gF h9_8) (l_mv rfl (l_on rfl (gF h9_8) (l_mv rfl (l_on rfl (gF h9_8) (a_call rfl rfl (fun w' hw => (lalike_s b1_ tb2_ cb3_ bm4_ lm5_ idx' now' cnt'26_ kb'27_ kl'28_ _ b14 idx3 now3 cnt'32_ bv'33_ lv'34_ rv'35_ bs'36_ ls'37_ rs'38_ w' hdo.2.1 (hw.give [0, 1, 2, 3, 7, 8, 9, 10] rfl (by decide))).mono ?_))))))
    rintro _ w1 ⟨rfl, hO⟩
    refine (?_ : CL _ _ _ _ _ _ (Own w [] [Res.row cb3_ 114 [.map (some rm6_)], Res.mp ekR repA rm6_ kr'29_, Res.row b8 43 (RepD.cells r24_), Res.row b10 43 (RepD.cells r30_), Res.row b1_ 66 [.pointer (some ⟨tb2_, 0, none⟩), .pointer (some ⟨cb3_, 0, none⟩), Vn idx'], Res.row tb2_ 111 [.map (some bm4_), .map (some lm5_), Vi now', Vn cnt'26_], Res.mp Value.string ekI bm4_ kb'27_, Res.mp ekU leaV lm5_ kl'28_, Res.row b14 37 [Vi now3, Vn cnt'32_, bv'33_, lv'34_, rv'35_, Vn idx3], Res.vec 93 2 bv'33_ bs'36_.length (bs'36_.flatMap BudD.cells), Res.vec 76 5 lv'34_ ls'37_.length (ls'37_.flatMap LeaD.cells), Res.vec 43 6 rv'35_ rs'38_.length (rs'38_.flatMap RepD.cells)])) w1 (hw.frameL [0, 1, 2, 3, 7, 8, 9, 10] rfl hO)
    refine l_on rfl (gF h9_8) (l_not (b := true) rfl rfl ?_)
    exact l_gp (bool_dec _) (fun _ hw => hw.sel [4, 5, 6, 7, 0, 1, 2, 8, 9, 10, 11, 3] rfl (by decide))
   refine l_end (c_decF rfl (fun q => by rcases q with (q | q) | q; exact q hdo.1.1; exact q (by rw [hdo.1.2]); exact absurd q Bool.false_ne_true) (c_skipC (c_last (l_mv rfl (l_add rfl rfl (wi64 (by omega)) rfl (l_as rfl ?_))))))
   exact l_nil (fun w' hw => ⟨i + 1, idx', now', cnt'26_, kb'27_, kl'28_, kr'29_, idx3, now3, cnt'32_, bv'33_, lv'34_, rv'35_, bs'36_, ls'37_, rs'38_, ⟨rfl, rfl, rfl, rfl, trivial⟩, ⟨by have := hdo.2.2.1; omega, hdo.2.1⟩, hw.sel [0, 1, 2, 3, 4, 5, 7, 8, 9, 10] rfl (by decide), (by omega)⟩)
  ·
   refine c_exitC rfl (c_reg (l_as rfl (l_end ?_)))
   exact c_ret (ret1 (v := .bool true) rfl rfl (fun w' hw => ⟨rfl, hw.drop⟩))
end Go.Proofs.YthincafbmpialaaGreat
