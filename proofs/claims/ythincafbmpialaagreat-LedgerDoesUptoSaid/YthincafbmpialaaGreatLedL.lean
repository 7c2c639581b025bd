/-
  THE WALKS OF what the ledger's laws do.
-/
import Derived.Test.YthincafbmpialaaGreatLedA
import Derived.Test.YthincafbmpialaaGreatLqT
set_option linter.unusedVariables false
set_option maxRecDepth 10000
namespace Go.Proofs.YthincafbmpialaaGreat
open Go Go.Sc Go.Proofs

theorem lindex_s {S : List Nat} (b tb cb idx : Nat) (w : World) (hin : Own w S [Res.row b 66 [.pointer (some ⟨tb, 0, none⟩), .pointer (some ⟨cb, 0, none⟩), Vn idx]] w) : Rets Tryz.prog 19 #[.pointer (some ⟨b, 0, none⟩)] w fun u_ w' => u_ = Vn idx ∧ Own w S [Res.row b 66 [.pointer (some ⟨tb, 0, none⟩), .pointer (some ⟨cb, 0, none⟩), Vn idx]] w' := by
  refine fn_enter (args := [.pointer (some ⟨b, 0, none⟩)]) Tryz.func19 rfl Tryz.ntmps19 rfl (show Own w S [Res.row b 66 [.pointer (some ⟨tb, 0, none⟩), .pointer (some ⟨cb, 0, none⟩), Vn idx]] w from hin) ?_
  refine c_reg (l_as rfl (l_end (c_seq (c_reg (l_mv rfl (l_nilp (by kernel_rfl) rfl rfl rfl (l_end (c_no rfl (c_skipC (c_reg (l_mv rfl (l_nck rfl rfl ?_))))))))))))
  refine a_fld (o := 2) rfl rfl (a_ldo 0 (v := Vn idx) rfl rfl rfl rfl (l_as rfl (l_end ?_)))
  exact c_ret (ret1 (v := Vn idx) rfl rfl (fun w' hw => ⟨rfl, hw⟩))
theorem time_s {S : List Nat} (b bm lm : Nat) (now : Int) (cnt : Nat) (w : World) (hin : Own w S [Res.row b 111 [.map (some bm), .map (some lm), Vi now, Vn cnt]] w) : Rets Tryz.prog 47 #[.pointer (some ⟨b, 0, none⟩)] w fun u_ w' => u_ = Vi now ∧ Own w S [Res.row b 111 [.map (some bm), .map (some lm), Vi now, Vn cnt]] w' := by
  refine fn_enter (args := [.pointer (some ⟨b, 0, none⟩)]) Tryz.func47 rfl Tryz.ntmps47 rfl (show Own w S [Res.row b 111 [.map (some bm), .map (some lm), Vi now, Vn cnt]] w from hin) ?_
  refine c_reg (l_as rfl (l_end (c_seq (c_reg (l_mv rfl (l_nilp (by kernel_rfl) rfl rfl rfl (l_end (c_no rfl (c_skipC (c_reg (l_mv rfl (l_nck rfl rfl ?_))))))))))))
  refine a_fld (o := 2) rfl rfl (a_ldo 0 (v := Vi now) rfl rfl rfl rfl (l_as rfl (l_end ?_)))
  exact c_ret (ret1 (v := Vi now) rfl rfl (fun w' hw => ⟨rfl, hw⟩))
theorem ltime_s {S : List Nat} (b tb cb bm lm idx : Nat) (now : Int) (cnt : Nat) (w : World) (hin : Own w S [Res.row b 66 [.pointer (some ⟨tb, 0, none⟩), .pointer (some ⟨cb, 0, none⟩), Vn idx], Res.row tb 111 [.map (some bm), .map (some lm), Vi now, Vn cnt]] w) : Rets Tryz.prog 38 #[.pointer (some ⟨b, 0, none⟩)] w fun u_ w' => u_ = Vi now ∧ Own w S [Res.row b 66 [.pointer (some ⟨tb, 0, none⟩), .pointer (some ⟨cb, 0, none⟩), Vn idx], Res.row tb 111 [.map (some bm), .map (some lm), Vi now, Vn cnt]] w' := by
  refine fn_enter (args := [.pointer (some ⟨b, 0, none⟩)]) Tryz.func38 rfl Tryz.ntmps38 rfl (show Own w S [Res.row b 66 [.pointer (some ⟨tb, 0, none⟩), .pointer (some ⟨cb, 0, none⟩), Vn idx], Res.row tb 111 [.map (some bm), .map (some lm), Vi now, Vn cnt]] w from hin) ?_
  refine c_reg (l_as rfl (l_end (c_seq (c_reg (l_mv rfl (l_nilp (by kernel_rfl) rfl rfl rfl (l_end (c_no rfl (c_skipC (c_reg (l_mv rfl (l_nck rfl rfl ?_))))))))))))
  refine a_fld (o := 0) rfl rfl (a_ldo 0 (v := .pointer (some ⟨tb, 0, none⟩)) rfl rfl rfl rfl (a_call rfl rfl (fun w' hw => (time_s tb bm lm now cnt w' (hw.give [1] rfl (by decide))).mono ?_)))
  rintro _ w1 ⟨rfl, hO⟩
  refine (?_ : CL _ _ _ _ _ _ (Own w S [Res.row b 66 [.pointer (some ⟨tb, 0, none⟩), .pointer (some ⟨cb, 0, none⟩), Vn idx], Res.row tb 111 [.map (some bm), .map (some lm), Vi now, Vn cnt]])) w1 (hw.frameL [1] rfl hO)
  refine l_as rfl (l_end ?_)
  exact c_ret (ret1 (v := Vi now) rfl rfl (fun w' hw => ⟨rfl, hw⟩))
theorem llent_s {S : List Nat} (b tb cb bm lm idx : Nat) (now : Int) (cnt : Nat) (kb : List (ByteArray × Int)) (kl : List (Nat × LeaD)) (k : ByteArray) (w : World) (hin : Own w S [Res.row b 66 [.pointer (some ⟨tb, 0, none⟩), .pointer (some ⟨cb, 0, none⟩), Vn idx], Res.row tb 111 [.map (some bm), .map (some lm), Vi now, Vn cnt], Res.mp Value.string ekI bm kb, Res.mp ekU leaV lm kl] w) : Rets Tryz.prog 36 #[.pointer (some ⟨b, 0, none⟩), .string k] w fun u_ w' => ∃ (n : Int), u_ = .tuple #[Vi ((getA k kb).getD 0), Vi n] ∧ n = lentK k kl ∧ Own w S [Res.row b 66 [.pointer (some ⟨tb, 0, none⟩), .pointer (some ⟨cb, 0, none⟩), Vn idx], Res.row tb 111 [.map (some bm), .map (some lm), Vi now, Vn cnt], Res.mp Value.string ekI bm kb, Res.mp ekU leaV lm kl] w' := by
  refine fn_enter (args := [.pointer (some ⟨b, 0, none⟩), .string k]) Tryz.func36 rfl Tryz.ntmps36 rfl (show Own w S [Res.row b 66 [.pointer (some ⟨tb, 0, none⟩), .pointer (some ⟨cb, 0, none⟩), Vn idx], Res.row tb 111 [.map (some bm), .map (some lm), Vi now, Vn cnt], Res.mp Value.string ekI bm kb, Res.mp ekU leaV lm kl] w from hin) ?_
  refine c_reg (l_as rfl (l_as rfl (l_end (c_seq (c_reg (l_mv rfl (l_nilp (by kernel_rfl) rfl rfl rfl (l_end (c_no rfl (c_skipC (c_reg (l_mv rfl ?_))))))))))))
  refine l_nck rfl rfl (a_fld (o := 0) rfl rfl (a_ldo 0 (v := .pointer (some ⟨tb, 0, none⟩)) rfl rfl rfl rfl (l_mv rfl (a_call rfl rfl (fun w' hw => (tlent_s tb bm lm now cnt kb kl k w' (hw.give [1, 2, 3] rfl (by decide))).mono ?_)))))
  rintro _ w1 ⟨n1_, rfl, hf3_5, hO⟩
  refine (?_ : CL _ _ _ _ _ _ (Own w S [Res.row b 66 [.pointer (some ⟨tb, 0, none⟩), .pointer (some ⟨cb, 0, none⟩), Vn idx], Res.row tb 111 [.map (some bm), .map (some lm), Vi now, Vn cnt], Res.mp Value.string ekI bm kb, Res.mp ekU leaV lm kl])) w1 (hw.frameL [1, 2, 3] rfl hO)
  refine l_ext (vs := [Vi ((getA k kb).getD 0), Vi n1_]) rfl rfl rfl (l_ext (vs := [Vi ((getA k kb).getD 0), Vi n1_]) rfl rfl rfl (l_as rfl (l_as rfl (l_end ?_))))
  exact c_ret (ret2 (v := Vi ((getA k kb).getD 0)) (v' := Vi n1_) rfl rfl rfl (fun w' hw => ⟨n1_, rfl, hf3_5, hw⟩))
theorem lleases_s {S : List Nat} (b tb cb bm lm idx : Nat) (now : Int) (cnt : Nat) (kl : List (Nat × LeaD)) (w : World) (hl : kl.length ≤ 1000000) (hin : Own w S [Res.row b 66 [.pointer (some ⟨tb, 0, none⟩), .pointer (some ⟨cb, 0, none⟩), Vn idx], Res.row tb 111 [.map (some bm), .map (some lm), Vi now, Vn cnt], Res.mp ekU leaV lm kl] w) : Rets Tryz.prog 40 #[.pointer (some ⟨b, 0, none⟩)] w fun u_ w' => ∃ (v : Value) (l : List LeaD), u_ = v ∧ l.Perm (kl.map (·.2)) ∧ l.Pairwise (fun x y => ole x y) ∧ Own w S [Res.row b 66 [.pointer (some ⟨tb, 0, none⟩), .pointer (some ⟨cb, 0, none⟩), Vn idx], Res.row tb 111 [.map (some bm), .map (some lm), Vi now, Vn cnt], Res.mp ekU leaV lm kl, Res.vec 76 5 v l.length (l.flatMap LeaD.cells)] w' := by
  refine fn_enter (args := [.pointer (some ⟨b, 0, none⟩)]) Tryz.func40 rfl Tryz.ntmps40 rfl (show Own w S [Res.row b 66 [.pointer (some ⟨tb, 0, none⟩), .pointer (some ⟨cb, 0, none⟩), Vn idx], Res.row tb 111 [.map (some bm), .map (some lm), Vi now, Vn cnt], Res.mp ekU leaV lm kl] w from hin) ?_
  refine c_reg (l_as rfl (l_end (c_seq (c_reg (l_mv rfl (l_nilp (by kernel_rfl) rfl rfl rfl (l_end (c_no rfl (c_skipC (c_reg (l_mv rfl (l_nck rfl rfl ?_))))))))))))
  refine a_fld (o := 0) rfl rfl (a_ldo 0 (v := .pointer (some ⟨tb, 0, none⟩)) rfl rfl rfl rfl (a_call rfl rfl (fun w' hw => (leases_s tb bm lm now cnt kl w' (by first | omega | (simp <;> omega)) (hw.give [1, 2] rfl (by decide))).mono ?_)))
  rintro v1_ w1 ⟨_, l2_, rfl, hf3_4, hf3_4_1, hO⟩
  refine (?_ : CL _ _ _ _ _ _ (Own w S [Res.row b 66 [.pointer (some ⟨tb, 0, none⟩), .pointer (some ⟨cb, 0, none⟩), Vn idx], Res.row tb 111 [.map (some bm), .map (some lm), Vi now, Vn cnt], Res.mp ekU leaV lm kl, Res.vec 76 5 v1_ l2_.length (l2_.flatMap LeaD.cells)])) w1 (hw.frameL [1, 2] rfl hO)
  refine l_as rfl (l_end ?_)
  exact c_ret (ret1 (v := v1_) rfl rfl (fun w' hw => ⟨v1_, l2_, rfl, hf3_4, hf3_4_1, hw⟩))
structure LSt (idx : Nat) (now : Int) (cnt : Nat) (kb : List (ByteArray × Int)) (kl : List (Nat × LeaD)) (kr : List (Nat × RepD)) (idx2 : Nat) (now2 : Int) (cnt2 : Nat) (bs : List BudD) (ls : List LeaD) (rs : List RepD) : Prop where
  i : idx = idx2
  n : now = now2
  c : cnt = cnt2
  h : LOkR now2 cnt2 bs ls rs
  r : LRel kb kl kr bs ls rs
theorem lalike_s {S : List Nat} (b tb cb bm lm idx : Nat) (now : Int) (cnt : Nat) (kb : List (ByteArray × Int)) (kl : List (Nat × LeaD)) (kr : List (Nat × RepD)) (wb idx2 : Nat) (now2 : Int) (cnt2 : Nat) (bv lv rv : Value) (bs : List BudD) (ls : List LeaD) (rs : List RepD) (w : World) (hs : LSt idx now cnt kb kl kr idx2 now2 cnt2 bs ls rs) (hin : Own w S [Res.row b 66 [.pointer (some ⟨tb, 0, none⟩), .pointer (some ⟨cb, 0, none⟩), Vn idx], Res.row tb 111 [.map (some bm), .map (some lm), Vi now, Vn cnt], Res.mp Value.string ekI bm kb, Res.mp ekU leaV lm kl, Res.row wb 37 [Vi now2, Vn cnt2, bv, lv, rv, Vn idx2], Res.vec 93 2 bv bs.length (bs.flatMap BudD.cells), Res.vec 76 5 lv ls.length (ls.flatMap LeaD.cells), Res.vec 43 6 rv rs.length (rs.flatMap RepD.cells)] w) : Rets Tryz.prog 15 #[.pointer (some ⟨b, 0, none⟩), .pointer (some ⟨wb, 0, none⟩)] w fun u_ w' => u_ = .bool true ∧ Own w S [Res.row b 66 [.pointer (some ⟨tb, 0, none⟩), .pointer (some ⟨cb, 0, none⟩), Vn idx], Res.row tb 111 [.map (some bm), .map (some lm), Vi now, Vn cnt], Res.mp Value.string ekI bm kb, Res.mp ekU leaV lm kl, Res.row wb 37 [Vi now2, Vn cnt2, bv, lv, rv, Vn idx2], Res.vec 93 2 bv bs.length (bs.flatMap BudD.cells), Res.vec 76 5 lv ls.length (ls.flatMap LeaD.cells), Res.vec 43 6 rv rs.length (rs.flatMap RepD.cells)] w' := by
  have ho := hs.h.q
  have hrq := hs.r.q
  have hnow := hs.n
  have hidx := hs.i
  have hkl : kl.length ≤ 128 := by rw [hrq.llen]; exact ho.llen
  have hlsl := ho.llen
  refine fn_enter (args := [.pointer (some ⟨b, 0, none⟩), .pointer (some ⟨wb, 0, none⟩)]) Tryz.func15 rfl Tryz.ntmps15 rfl (show Own w S [Res.row b 66 [.pointer (some ⟨tb, 0, none⟩), .pointer (some ⟨cb, 0, none⟩), Vn idx], Res.row tb 111 [.map (some bm), .map (some lm), Vi now, Vn cnt], Res.mp Value.string ekI bm kb, Res.mp ekU leaV lm kl, Res.row wb 37 [Vi now2, Vn cnt2, bv, lv, rv, Vn idx2], Res.vec 93 2 bv bs.length (bs.flatMap BudD.cells), Res.vec 76 5 lv ls.length (ls.flatMap LeaD.cells), Res.vec 43 6 rv rs.length (rs.flatMap RepD.cells)] w from hin) ?_
  refine c_reg (l_as rfl (l_end (c_reg (l_bsl (e := 9) (sz := 1) (vs := [.string (⟨#[107]⟩ : ByteArray), .string (⟨#[97]⟩ : ByteArray), .string (⟨#[98]⟩ : ByteArray), .string (⟨#[]⟩ : ByteArray)]) (by kernel_rfl) rfl rfl (by simp [Value.cells]) (by decide) rfl (fun b11 => l_as rfl (l_end (c_seq (c_reg (l_as rfl (l_end (c_block ?_)))))))))))
  refine c_loop1 (fun (i : Nat) => [(0, .pointer (some ⟨b, 0, none⟩)), (1, .pointer (some ⟨wb, 0, none⟩)), (5, (.slice (some ⟨b11, 0, none⟩) 4 4)), (6, Vj i)]) (fun (i : Nat) => i ≤ 4) (fun (i : Nat) => [Res.row b 66 [.pointer (some ⟨tb, 0, none⟩), .pointer (some ⟨cb, 0, none⟩), Vn idx], Res.row tb 111 [.map (some bm), .map (some lm), Vi now, Vn cnt], Res.mp Value.string ekI bm kb, Res.mp ekU leaV lm kl, Res.row wb 37 [Vi now2, Vn cnt2, bv, lv, rv, Vn idx2], Res.vec 93 2 bv bs.length (bs.flatMap BudD.cells), Res.vec 76 5 lv ls.length (ls.flatMap LeaD.cells), Res.vec 43 6 rv rs.length (rs.flatMap RepD.cells), Res.vec 9 1 (.slice (some ⟨b11, 0, none⟩) 4 4) [(⟨#[107]⟩ : ByteArray), (⟨#[97]⟩ : ByteArray), (⟨#[98]⟩ : ByteArray), (⟨#[]⟩ : ByteArray)].length ([(⟨#[107]⟩ : ByteArray), (⟨#[97]⟩ : ByteArray), (⟨#[98]⟩ : ByteArray), (⟨#[]⟩ : ByteArray)].flatMap S1)]) (fun (i : Nat) => 5 - i) (fun w' hw => ⟨0, ⟨rfl, rfl, rfl, rfl, trivial⟩, by omega, hw⟩) (fun i g hΦ => ?_)
  have hk4 : ([(⟨#[107]⟩ : ByteArray), (⟨#[97]⟩ : ByteArray), (⟨#[98]⟩ : ByteArray), (⟨#[]⟩ : ByteArray)] : List ByteArray).length = 4 := rfl
  refine c_seq (c_reg (l_mv rfl (l_mv rfl (a_lenP (pV 8 rfl) rfl rfl (l_lss rfl rfl rfl (l_end (c_dec rfl (fun c1 => ?_) (fun c1 => ?_))))))))
  ·
   refine c_skipC (c_seq (c_block (c_reg (l_mv rfl (l_mv rfl (l_mv rfl (a_idxP (pV 8 rfl) 1 i rfl rfl rfl (by omega) rfl (a_ldP (pV 8 rfl) 1 i 0 (fun _ => rfl) rfl rfl (by omega) rfl rfl (a_call rfl rfl (fun w' hw => (llent_s b tb cb bm lm idx now cnt kb kl (nth [(⟨#[107]⟩ : ByteArray), (⟨#[97]⟩ : ByteArray), (⟨#[98]⟩ : ByteArray), (⟨#[]⟩ : ByteArray)] i) w' (hw.give [0, 1, 2, 3] rfl (by decide))).mono ?_))))))))))
   rintro _ w1 ⟨n1_, rfl, hf5_5, hO⟩
   refine (?_ : CL _ _ _ _ _ _ (Own w S [Res.row wb 37 [Vi now2, Vn cnt2, bv, lv, rv, Vn idx2], Res.vec 93 2 bv bs.length (bs.flatMap BudD.cells), Res.vec 76 5 lv ls.length (ls.flatMap LeaD.cells), Res.vec 43 6 rv rs.length (rs.flatMap RepD.cells), Res.vec 9 1 (.slice (some ⟨b11, 0, none⟩) 4 4) [(⟨#[107]⟩ : ByteArray), (⟨#[97]⟩ : ByteArray), (⟨#[98]⟩ : ByteArray), (⟨#[]⟩ : ByteArray)].length ([(⟨#[107]⟩ : ByteArray), (⟨#[97]⟩ : ByteArray), (⟨#[98]⟩ : ByteArray), (⟨#[]⟩ : ByteArray)].flatMap S1), Res.row b 66 [.pointer (some ⟨tb, 0, none⟩), .pointer (some ⟨cb, 0, none⟩), Vn idx], Res.row tb 111 [.map (some bm), .map (some lm), Vi now, Vn cnt], Res.mp Value.string ekI bm kb, Res.mp ekU leaV lm kl])) w1 (hw.frameL [0, 1, 2, 3] rfl hO)
   refine l_mv rfl (l_ext (vs := [Vi ((getA (nth [(⟨#[107]⟩ : ByteArray), (⟨#[97]⟩ : ByteArray), (⟨#[98]⟩ : ByteArray), (⟨#[]⟩ : ByteArray)] i) kb).getD 0), Vi n1_]) rfl rfl rfl (l_ext (vs := [Vi ((getA (nth [(⟨#[107]⟩ : ByteArray), (⟨#[97]⟩ : ByteArray), (⟨#[98]⟩ : ByteArray), (⟨#[]⟩ : ByteArray)] i) kb).getD 0), Vi n1_]) rfl rfl rfl (l_as rfl (l_as rfl (l_end (c_seq (c_heldo [3, 4, 5, 6, 7, 8] rfl (by decide) (by kernel_rfl) (fun w' hw hS => g_tk 0 rfl (v_mv) hS (g_tk 1 rfl (v_nck rfl) hS (g_tk 2 rfl (w_fld (o := 0) rfl) hS (g_tk 3 rfl (v_mv) hS (g_tk 4 rfl (v_mv) hS ?_))))))))))))
   refine g_tk 5 rfl (w_idxP (pV 1 rfl) 1 i rfl rfl rfl (by omega)) hS (g_tk 6 rfl (w_ldP (pV 1 rfl) 1 i 0 (fun _ => rfl) rfl rfl (by omega) rfl) hS (g_one 7 rfl hw (a_call rfl rfl (fun w' hw => (rlent_s wb (37) (rv :: Vn idx2 :: []) now2 cnt2 bv lv bs ls (nth [(⟨#[107]⟩ : ByteArray), (⟨#[97]⟩ : ByteArray), (⟨#[98]⟩ : ByteArray), (⟨#[]⟩ : ByteArray)] i) w' ‹_› (hw.give [0, 1, 2] rfl (by decide))).mono ?_))))
   rintro _ w1 ⟨rfl, hO⟩
   refine (?_ : CL _ _ _ _ _ _ (Own w S [Res.vec 43 6 rv rs.length (rs.flatMap RepD.cells), Res.vec 9 1 (.slice (some ⟨b11, 0, none⟩) 4 4) [(⟨#[107]⟩ : ByteArray), (⟨#[97]⟩ : ByteArray), (⟨#[98]⟩ : ByteArray), (⟨#[]⟩ : ByteArray)].length ([(⟨#[107]⟩ : ByteArray), (⟨#[97]⟩ : ByteArray), (⟨#[98]⟩ : ByteArray), (⟨#[]⟩ : ByteArray)].flatMap S1), Res.row b 66 [.pointer (some ⟨tb, 0, none⟩), .pointer (some ⟨cb, 0, none⟩), Vn idx], Res.row tb 111 [.map (some bm), .map (some lm), Vi now, Vn cnt], Res.mp Value.string ekI bm kb, Res.mp ekU leaV lm kl, Res.row wb (37) [Vi now2, Vn cnt2, bv, lv, rv, Vn idx2], Res.vec 93 2 bv bs.length (bs.flatMap BudD.cells), Res.vec 76 5 lv ls.length (ls.flatMap LeaD.cells)])) w1 (hw.frameL [0, 1, 2] rfl hO)
   refine l_nilH [0, 1, 2, 3, 4, 5] rfl (by decide) (fun w' hw hS => g_tk 8 rfl (v_mv) hS (g_tk 9 rfl (v_ext (vs := [Vi (budOf (nth [(⟨#[107]⟩ : ByteArray), (⟨#[97]⟩ : ByteArray), (⟨#[98]⟩ : ByteArray), (⟨#[]⟩ : ByteArray)] i) bs), Vi (lentW (nth [(⟨#[107]⟩ : ByteArray), (⟨#[97]⟩ : ByteArray), (⟨#[98]⟩ : ByteArray), (⟨#[]⟩ : ByteArray)] i) ls)]) rfl rfl) hS (g_tk 10 rfl (v_ext (vs := [Vi (budOf (nth [(⟨#[107]⟩ : ByteArray), (⟨#[97]⟩ : ByteArray), (⟨#[98]⟩ : ByteArray), (⟨#[]⟩ : ByteArray)] i) bs), Vi (lentW (nth [(⟨#[107]⟩ : ByteArray), (⟨#[97]⟩ : ByteArray), (⟨#[98]⟩ : ByteArray), (⟨#[]⟩ : ByteArray)] i) ls)]) rfl rfl) hS (g_tk 11 rfl (v_as) hS (g_tk 12 rfl (v_as) hS (g_done ?_))))))
   refine (?_ : C _ _ _ _ _ _ _ (Own w S [Res.vec 43 6 rv rs.length (rs.flatMap RepD.cells), Res.vec 9 1 (.slice (some ⟨b11, 0, none⟩) 4 4) [(⟨#[107]⟩ : ByteArray), (⟨#[97]⟩ : ByteArray), (⟨#[98]⟩ : ByteArray), (⟨#[]⟩ : ByteArray)].length ([(⟨#[107]⟩ : ByteArray), (⟨#[97]⟩ : ByteArray), (⟨#[98]⟩ : ByteArray), (⟨#[]⟩ : ByteArray)].flatMap S1), Res.row b 66 [.pointer (some ⟨tb, 0, none⟩), .pointer (some ⟨cb, 0, none⟩), Vn idx], Res.row tb 111 [.map (some bm), .map (some lm), Vi now, Vn cnt], Res.mp Value.string ekI bm kb, Res.mp ekU leaV lm kl, Res.row wb (37) [Vi now2, Vn cnt2, bv, lv, rv, Vn idx2], Res.vec 93 2 bv bs.length (bs.flatMap BudD.cells), Res.vec 76 5 lv ls.length (ls.flatMap LeaD.cells)])) _ hw
   refine c_reg (l_mv rfl (l_mv rfl (l_ne rfl rfl rfl (l_mv rfl (l_bor (q := ((getA (nth [(⟨#[107]⟩ : ByteArray), (⟨#[97]⟩ : ByteArray), (⟨#[98]⟩ : ByteArray), (⟨#[]⟩ : ByteArray)] i) kb).getD 0) ≠ (budOf (nth [(⟨#[107]⟩ : ByteArray), (⟨#[97]⟩ : ByteArray), (⟨#[98]⟩ : ByteArray), (⟨#[]⟩ : ByteArray)] i) bs)) 3 3 [44, 43, 42] (n1_ ≠ (lentW (nth [(⟨#[107]⟩ : ByteArray), (⟨#[97]⟩ : ByteArray), (⟨#[98]⟩ : ByteArray), (⟨#[]⟩ : ByteArray)] i) ls)) rfl rfl rfl rfl rfl rfl trivial rfl (fun h7_3 => ?_) (fun g7_7 => ?_))))))
   ·
    refine l_on rfl (gF h7_3) (l_mv rfl (l_on rfl (gF h7_3) (l_mv rfl (l_on rfl (gF h7_3) (l_ne rfl rfl rfl ?_)))))
    exact l_nil (fun w' hw => ⟨(by repeat (first | exact .refl _ _ | refine .upd rfl ?_ | refine .msk rfl ?_)), rfl, hw⟩)
   refine l_end (c_decF rfl (fun q => q.elim (fun q => q (ho.bud hrq _)) (fun q => q (hf5_5.trans (hrq.lent _)))) (c_skipC (c_last (l_mv rfl (l_add rfl rfl (wi64 (by omega)) rfl (l_as rfl ?_))))))
   exact l_nil (fun w' hw => ⟨i + 1, ⟨rfl, rfl, rfl, rfl, trivial⟩, (by omega), hw.sel [2, 3, 4, 5, 6, 7, 8, 0, 1] rfl (by decide), (by omega)⟩)
  ·
   refine c_exitC rfl (c_seq (c_heldo [2, 4, 5, 6, 7, 8] rfl (by decide) (by kernel_rfl) (fun w' hw hS => g_tk 0 rfl (v_mv) hS (g_tk 2 rfl (v_mv) hS (g_tk 3 rfl (v_nck rfl) hS (g_tk 4 rfl (w_fld (o := 5) rfl) hS (g_tk 5 rfl (w_ldo 1 (v := Vn idx2) rfl rfl rfl) hS (g_one 1 rfl hw (a_call rfl rfl (fun w' hw => (lindex_s b tb cb idx w' (hw.give [0] rfl (by decide))).mono ?_))))))))))
   rintro _ w1 ⟨rfl, hO⟩
   refine (?_ : CL _ _ _ _ _ _ (Own w S [Res.row tb 111 [.map (some bm), .map (some lm), Vi now, Vn cnt], Res.mp Value.string ekI bm kb, Res.mp ekU leaV lm kl, Res.row wb 37 [Vi now2, Vn cnt2, bv, lv, rv, Vn idx2], Res.vec 93 2 bv bs.length (bs.flatMap BudD.cells), Res.vec 76 5 lv ls.length (ls.flatMap LeaD.cells), Res.vec 43 6 rv rs.length (rs.flatMap RepD.cells), Res.vec 9 1 (.slice (some ⟨b11, 0, none⟩) 4 4) [(⟨#[107]⟩ : ByteArray), (⟨#[97]⟩ : ByteArray), (⟨#[98]⟩ : ByteArray), (⟨#[]⟩ : ByteArray)].length ([(⟨#[107]⟩ : ByteArray), (⟨#[97]⟩ : ByteArray), (⟨#[98]⟩ : ByteArray), (⟨#[]⟩ : ByteArray)].flatMap S1), Res.row b 66 [.pointer (some ⟨tb, 0, none⟩), .pointer (some ⟨cb, 0, none⟩), Vn idx]])) w1 (hw.frameL [0] rfl hO)
   refine l_nilH [1, 3, 4, 5, 6, 7] rfl (by decide) (fun w' hw hS => g_tk 6 rfl (v_eq rfl rfl) hS (g_tk 7 rfl (v_mv) hS ?_))
   by_cases g9_7 : ((idx : Nat) : Int) = ((idx2 : Nat) : Int)
   ·
    refine g_tkg 8 rfl rfl (gT g9_7) (v_mv) hS (g_tkg 10 rfl rfl (gT g9_7) (v_mv) hS (g_tkg 11 rfl rfl (gT g9_7) (v_nck rfl) hS (g_tkg 12 rfl rfl (gT g9_7) (w_fld (o := 0) rfl) hS (g_tkg 13 rfl rfl (gT g9_7) (w_fld (o := 0) rfl) hS (g_tkg 14 rfl rfl (gT g9_7) (w_ldo 1 (v := Vi now2) rfl rfl rfl) hS (g_one 9 rfl hw (l_on rfl (gT g9_7) (a_call rfl rfl (fun w' hw => (ltime_s b tb cb bm lm idx now cnt w' (hw.give [8, 0] rfl (by decide))).mono ?_)))))))))
    rintro _ w1 ⟨rfl, hO⟩
    refine (?_ : CL _ _ _ _ _ _ (Own w S [Res.mp Value.string ekI bm kb, Res.mp ekU leaV lm kl, Res.row wb 37 [Vi now2, Vn cnt2, bv, lv, rv, Vn idx2], Res.vec 93 2 bv bs.length (bs.flatMap BudD.cells), Res.vec 76 5 lv ls.length (ls.flatMap LeaD.cells), Res.vec 43 6 rv rs.length (rs.flatMap RepD.cells), Res.vec 9 1 (.slice (some ⟨b11, 0, none⟩) 4 4) [(⟨#[107]⟩ : ByteArray), (⟨#[97]⟩ : ByteArray), (⟨#[98]⟩ : ByteArray), (⟨#[]⟩ : ByteArray)].length ([(⟨#[107]⟩ : ByteArray), (⟨#[97]⟩ : ByteArray), (⟨#[98]⟩ : ByteArray), (⟨#[]⟩ : ByteArray)].flatMap S1), Res.row b 66 [.pointer (some ⟨tb, 0, none⟩), .pointer (some ⟨cb, 0, none⟩), Vn idx], Res.row tb 111 [.map (some bm), .map (some lm), Vi now, Vn cnt]])) w1 (hw.frameL [8, 0] rfl hO)
    refine l_nilH [0, 2, 3, 4, 5, 6] rfl (by decide) (fun w' hw hS => g_tkg 15 rfl rfl (gT g9_7) (v_eq rfl rfl) hS (g_tk 16 rfl (v_pickT (gT g9_7)) hS (g_tk 17 rfl (v_mv) hS ?_)))
    by_cases g9_17 : now = now2
    ·
     refine g_tkg 18 rfl rfl (gT g9_17) (v_mv) hS (g_tkg 20 rfl rfl (gT g9_17) (v_mv) hS (g_tkg 21 rfl rfl (gT g9_17) (v_nck rfl) hS (g_tkg 22 rfl rfl (gT g9_17) (w_fld (o := 0) rfl) hS (g_tkg 23 rfl rfl (gT g9_17) (w_fld (o := 3) rfl) hS (g_tkg 24 rfl rfl (gT g9_17) (w_ldo 1 (v := lv) rfl rfl rfl) hS (g_one 19 rfl hw (l_on rfl (gT g9_17) (a_call rfl rfl (fun w' hw => (lleases_s b tb cb bm lm idx now cnt kl w' (by first | omega | (simp <;> omega)) (hw.give [7, 8, 1] rfl (by decide))).mono ?_)))))))))
     rintro v2_ w1 ⟨_, l3_, rfl, hf9_19, hf9_19_1, hO⟩
     have hl3 : l3_.length ≤ 128 := by rw [hf9_19.length_eq, List.length_map]; exact hkl
     refine (?_ : CL _ _ _ _ _ _ (Own w S [Res.mp Value.string ekI bm kb, Res.row wb 37 [Vi now2, Vn cnt2, bv, lv, rv, Vn idx2], Res.vec 93 2 bv bs.length (bs.flatMap BudD.cells), Res.vec 76 5 lv ls.length (ls.flatMap LeaD.cells), Res.vec 43 6 rv rs.length (rs.flatMap RepD.cells), Res.vec 9 1 (.slice (some ⟨b11, 0, none⟩) 4 4) [(⟨#[107]⟩ : ByteArray), (⟨#[97]⟩ : ByteArray), (⟨#[98]⟩ : ByteArray), (⟨#[]⟩ : ByteArray)].length ([(⟨#[107]⟩ : ByteArray), (⟨#[97]⟩ : ByteArray), (⟨#[98]⟩ : ByteArray), (⟨#[]⟩ : ByteArray)].flatMap S1), Res.row b 66 [.pointer (some ⟨tb, 0, none⟩), .pointer (some ⟨cb, 0, none⟩), Vn idx], Res.row tb 111 [.map (some bm), .map (some lm), Vi now, Vn cnt], Res.mp ekU leaV lm kl, Res.vec 76 5 v2_ l3_.length (l3_.flatMap LeaD.cells)])) w1 (hw.frameL [7, 8, 1] rfl hO)
     refine l_nilH [0, 1, 2, 3, 4, 5] rfl (by decide) (fun w' hw hS => g_one 25 rfl hw (l_on rfl (gT g9_17) (a_call rfl rfl (fun w' hw => (sameLeases_s v2_ l3_ lv ls w' (by first | omega | (simp <;> omega)) (by first | omega | (simp <;> omega)) (hw.rdVec0 9 rfl) (hw.rdVec0 3 rfl)).mono ?_))))
     rintro _ w1 ⟨rfl, hO⟩
     refine (?_ : CL _ _ _ _ _ _ (Own w S [Res.mp Value.string ekI bm kb, Res.row wb 37 [Vi now2, Vn cnt2, bv, lv, rv, Vn idx2], Res.vec 93 2 bv bs.length (bs.flatMap BudD.cells), Res.vec 76 5 lv ls.length (ls.flatMap LeaD.cells), Res.vec 43 6 rv rs.length (rs.flatMap RepD.cells), Res.vec 9 1 (.slice (some ⟨b11, 0, none⟩) 4 4) [(⟨#[107]⟩ : ByteArray), (⟨#[97]⟩ : ByteArray), (⟨#[98]⟩ : ByteArray), (⟨#[]⟩ : ByteArray)].length ([(⟨#[107]⟩ : ByteArray), (⟨#[97]⟩ : ByteArray), (⟨#[98]⟩ : ByteArray), (⟨#[]⟩ : ByteArray)].flatMap S1), Res.row b 66 [.pointer (some ⟨tb, 0, none⟩), .pointer (some ⟨cb, 0, none⟩), Vn idx], Res.row tb 111 [.map (some bm), .map (some lm), Vi now, Vn cnt], Res.mp ekU leaV lm kl, Res.vec 76 5 v2_ l3_.length (l3_.flatMap LeaD.cells)])) w1 (hw.frame0 hO)
     refine l_nilH [0, 1, 2, 3, 4, 5] rfl (by decide) (fun w' hw hS => g_tk 26 rfl (v_pickT (gT g9_17)) hS (g_tk 27 rfl (v_as) hS (g_done ?_)))
     refine (?_ : C _ _ _ _ _ _ _ (Own w S [Res.mp Value.string ekI bm kb, Res.row wb 37 [Vi now2, Vn cnt2, bv, lv, rv, Vn idx2], Res.vec 93 2 bv bs.length (bs.flatMap BudD.cells), Res.vec 76 5 lv ls.length (ls.flatMap LeaD.cells), Res.vec 43 6 rv rs.length (rs.flatMap RepD.cells), Res.vec 9 1 (.slice (some ⟨b11, 0, none⟩) 4 4) [(⟨#[107]⟩ : ByteArray), (⟨#[97]⟩ : ByteArray), (⟨#[98]⟩ : ByteArray), (⟨#[]⟩ : ByteArray)].length ([(⟨#[107]⟩ : ByteArray), (⟨#[97]⟩ : ByteArray), (⟨#[98]⟩ : ByteArray), (⟨#[]⟩ : ByteArray)].flatMap S1), Res.row b 66 [.pointer (some ⟨tb, 0, none⟩), .pointer (some ⟨cb, 0, none⟩), Vn idx], Res.row tb 111 [.map (some bm), .map (some lm), Vi now, Vn cnt], Res.mp ekU leaV lm kl, Res.vec 76 5 v2_ l3_.length (l3_.flatMap LeaD.cells)])) _ hw
     exact c_ret (ret1 (v := .bool (decide (l3_ = ls))) rfl rfl (fun w' hw => ⟨(by congr 1; exact decide_eq_true (leas_eq ho hrq hf9_19 hf9_19_1)), hw.sel [6, 7, 0, 8, 1, 2, 3, 4] rfl (by decide)⟩))
    ·
     refine g_ofg 18 rfl rfl (gF g9_17) rfl hS (g_ofg 19 rfl rfl (gF g9_17) rfl hS (g_ofg 20 rfl rfl (gF g9_17) rfl hS (g_ofg 21 rfl rfl (gF g9_17) rfl hS (g_ofg 22 rfl rfl (gF g9_17) rfl hS (g_ofg 23 rfl rfl (gF g9_17) rfl hS (g_ofg 24 rfl rfl (gF g9_17) rfl hS (g_ofg 25 rfl rfl (gF g9_17) rfl hS (g_tk 26 rfl (v_pickF (gF g9_17)) hS (g_tk 27 rfl (v_as) hS (g_done ?_))))))))))
     refine (?_ : C _ _ _ _ _ _ _ (Own w S [Res.mp Value.string ekI bm kb, Res.mp ekU leaV lm kl, Res.row wb 37 [Vi now2, Vn cnt2, bv, lv, rv, Vn idx2], Res.vec 93 2 bv bs.length (bs.flatMap BudD.cells), Res.vec 76 5 lv ls.length (ls.flatMap LeaD.cells), Res.vec 43 6 rv rs.length (rs.flatMap RepD.cells), Res.vec 9 1 (.slice (some ⟨b11, 0, none⟩) 4 4) [(⟨#[107]⟩ : ByteArray), (⟨#[97]⟩ : ByteArray), (⟨#[98]⟩ : ByteArray), (⟨#[]⟩ : ByteArray)].length ([(⟨#[107]⟩ : ByteArray), (⟨#[97]⟩ : ByteArray), (⟨#[98]⟩ : ByteArray), (⟨#[]⟩ : ByteArray)].flatMap S1), Res.row b 66 [.pointer (some ⟨tb, 0, none⟩), .pointer (some ⟨cb, 0, none⟩), Vn idx], Res.row tb 111 [.map (some bm), .map (some lm), Vi now, Vn cnt]])) _ hw
     exact c_ret (ret1 (v := .bool false) rfl rfl (fun w' hw => ⟨(by exfalso; exact g9_17 hnow), hw.sel [7, 8, 0, 1, 2, 3, 4, 5] rfl (by decide)⟩))
   ·
    refine g_ofg 8 rfl rfl (gF g9_7) rfl hS (g_ofg 9 rfl rfl (gF g9_7) rfl hS (g_ofg 10 rfl rfl (gF g9_7) rfl hS (g_ofg 11 rfl rfl (gF g9_7) rfl hS (g_ofg 12 rfl rfl (gF g9_7) rfl hS (g_ofg 13 rfl rfl (gF g9_7) rfl hS (g_ofg 14 rfl rfl (gF g9_7) rfl hS (g_ofg 15 rfl rfl (gF g9_7) rfl hS (g_tk 16 rfl (v_pickF (gF g9_7)) hS (g_tk 17 rfl (v_mv) hS (g_ofg 18 rfl rfl rfl rfl hS (g_ofg 19 rfl rfl rfl rfl hS (g_ofg 20 rfl rfl rfl rfl hS ?_))))))))))))
    refine g_ofg 21 rfl rfl rfl rfl hS (g_ofg 22 rfl rfl rfl rfl hS (g_ofg 23 rfl rfl rfl rfl hS (g_ofg 24 rfl rfl rfl rfl hS (g_ofg 25 rfl rfl rfl rfl hS (g_tk 26 rfl (v_pickF rfl) hS (g_tk 27 rfl (v_as) hS (g_done ?_)))))))
    refine (?_ : C _ _ _ _ _ _ _ (Own w S [Res.row tb 111 [.map (some bm), .map (some lm), Vi now, Vn cnt], Res.mp Value.string ekI bm kb, Res.mp ekU leaV lm kl, Res.row wb 37 [Vi now2, Vn cnt2, bv, lv, rv, Vn idx2], Res.vec 93 2 bv bs.length (bs.flatMap BudD.cells), Res.vec 76 5 lv ls.length (ls.flatMap LeaD.cells), Res.vec 43 6 rv rs.length (rs.flatMap RepD.cells), Res.vec 9 1 (.slice (some ⟨b11, 0, none⟩) 4 4) [(⟨#[107]⟩ : ByteArray), (⟨#[97]⟩ : ByteArray), (⟨#[98]⟩ : ByteArray), (⟨#[]⟩ : ByteArray)].length ([(⟨#[107]⟩ : ByteArray), (⟨#[97]⟩ : ByteArray), (⟨#[98]⟩ : ByteArray), (⟨#[]⟩ : ByteArray)].flatMap S1), Res.row b 66 [.pointer (some ⟨tb, 0, none⟩), .pointer (some ⟨cb, 0, none⟩), Vn idx]])) _ hw
    exact c_ret (ret1 (v := .bool false) rfl rfl (fun w' hw => ⟨(by exfalso; exact g9_7 (by rw [hidx])), hw.sel [8, 0, 1, 2, 3, 4, 5, 6] rfl (by decide)⟩))
structure EntOk (x : EntD) : Prop where
  wf : x.wf
  delta : isI x.delta
theorem kl_wf {now : Int} {cnt : Nat} {bs : List BudD} {ls : List LeaD} {kb : List (ByteArray × Int)} {kl : List (Nat × LeaD)} (ho : QOk now cnt bs ls) (hc : cnt ≤ 1000000) (hr : QRel kb kl bs ls) : ∀ i l, getA i kl = some l → l.id < 18446744073709551616 ∧ isI l.amount ∧ isI l.until_ := fun i l h => leas_wf ho hc l ((ho.look hr).1 h).1
theorem LSt.app {idx : Nat} {now : Int} {cnt : Nat} {kb : List (ByteArray × Int)} {kl : List (Nat × LeaD)} {kr : List (Nat × RepD)} {idx2 : Nat} {now2 : Int} {cnt2 : Nat} {bs : List BudD} {ls : List LeaD} {rs : List RepD} {x y : EntA} {r s : RepD} {has had : Bool} {e f : Int} {idx' : Nat} {now' : Int} {cnt' : Nat} {kb' : List (ByteArray × Int)} {kl' : List (Nat × LeaD)} {kr' : List (Nat × RepD)} {idx3 : Nat} {now3 : Int} {cnt3 : Nat} {bs' : List BudD} {ls' : List LeaD} {rs' : List RepD}
    (h : LSt idx now cnt kb kl kr idx2 now2 cnt2 bs ls rs) (hxy : x = y) (hd : isI x.delta) (hn : cnt2 < 1000000) (h1 : AppK idx now cnt kb kl kr x r has e idx' now' cnt' kb' kl' kr') (h2 : AppR idx2 now2 cnt2 bs ls rs y s had f idx3 now3 cnt3 bs' ls' rs') :
    (r = s ∧ has = had ∧ e = f) ∧ LSt idx' now' cnt' kb' kl' kr' idx3 now3 cnt3 bs' ls' rs' ∧ cnt3 ≤ cnt2 + 1 ∧ idx3 ≤ idx2 + 1 := by
  obtain ⟨rfl, rfl, rfl, ho, hr⟩ := h
  subst hxy
  have hi : idx3 ≤ idx + 1 := by
    rcases h2 with h2 | h2
    · have := h2.2.2.2.1; omega
    · have := h2.1.2; have := h2.2.2.1; omega
  obtain ⟨q1, q2, q3, q4, q5, q6, q7, q8, q9⟩ := app_rel ho hr hd hn h1 h2
  exact ⟨⟨q1, q2, q3⟩, ⟨q4, q5, q6, q8, q7⟩, q9, hi⟩
theorem len1 {es : List EntD} (h : es.length = 1) : es = [nth es 0] := by
  obtain ⟨x, rfl⟩ := List.length_eq_one_iff.1 h
  rfl
theorem ownE1 {l es : List EntD} {i : Nat} (hi : i < l.length) (h : es.map EntD.toEntA = ((l.take (i + 1)).drop i).map EntD.toEntA) : es.length = 1 ∧ (nth es 0).toEntA = (nth l i).toEntA := by
  have e : (l.take (i + 1)).drop i = [nth l i] := by
    rw [take_nth hi, List.drop_append_of_le_length (by rw [List.length_take]; omega), List.drop_of_length_le (by rw [List.length_take]; omega)]; rfl
  rw [e] at h
  obtain ⟨x, rfl, hx⟩ := List.map_eq_singleton_iff.1 (h.trans rfl)
  exact ⟨rfl, hx⟩
section
variable {idx : Nat} {now : Int} {cnt : Nat} {kb : List (ByteArray × Int)} {kl : List (Nat × LeaD)} {kr : List (Nat × RepD)} {idx2 : Nat} {now2 : Int} {cnt2 : Nat} {bs : List BudD} {ls : List LeaD} {rs : List RepD}
theorem LSt.ht (h : LSt idx now cnt kb kl kr idx2 now2 cnt2 bs ls rs) : 0 ≤ now ∧ now ≤ 2305843009213693952 := by rw [h.n]; exact h.h.q.time
theorem LSt.nd (h : LSt idx now cnt kb kl kr idx2 now2 cnt2 bs ls rs) : KNd kl := h.h.q.knl h.r.q
theorem LSt.len (h : LSt idx now cnt kb kl kr idx2 now2 cnt2 bs ls rs) : kl.length ≤ 128 := by rw [h.r.q.llen]; exact h.h.q.llen
theorem LSt.pt (h : LSt idx now cnt kb kl kr idx2 now2 cnt2 bs ls rs) {d : Int} (hd : isI d) : 0 ≤ passN now d ∧ passN now d ≤ 2305843009213693952 := by rw [h.n]; exact (h.h.q.pass d hd).time
theorem LSt.lent (h : LSt idx now cnt kb kl kr idx2 now2 cnt2 bs ls rs) {d : Int} (hd : isI d) (k : ByteArray) : 0 ≤ lentK k (passLK now d kl) ∧ lentK k (passLK now d kl) ≤ 9223372036854775807 := by
  rw [h.n, (h.r.q.pass d).lent]; exact (h.h.q.pass d hd).lent0 k
theorem LSt.klw (h : LSt idx now cnt kb kl kr idx2 now2 cnt2 bs ls rs) {d : Int} (hd : isI d) (hc : cnt2 ≤ 1000000) : ∀ i l, getA i (passLK now d kl) = some l → l.id < 18446744073709551616 ∧ isI l.amount ∧ isI l.until_ := by
  rw [h.n]; exact kl_wf (h.h.q.pass d hd) hc (h.r.q.pass d)
theorem LSt.lent1 (h : LSt idx now cnt kb kl kr idx2 now2 cnt2 bs ls rs) (k : ByteArray) : 0 ≤ lentK k kl ∧ lentK k kl ≤ 9223372036854775807 := by
  rw [h.r.q.lent]; exact h.h.q.lent0 k
theorem LSt.start : LSt 0 0 0 [] [] [] 0 0 0 [] [] [] := ⟨rfl, rfl, rfl, LOkR.start, LRel.start⟩
theorem LSt.do (h : LSt idx now cnt kb kl kr idx2 now2 cnt2 bs ls rs) {c : CmdD} {r s : RepD} {did did2 : Bool} {cnt' cnt3 : Nat} {kb' : List (ByteArray × Int)} {kl' : List (Nat × LeaD)} {kr' : List (Nat × RepD)} {bs' : List BudD} {ls' : List LeaD} {rs' : List RepD} (hc : c.wf) (hn : cnt2 < 1000000) (h1 : DoK now cnt kb kl kr c r did cnt' kb' kl' kr') (h2 : DoR now2 cnt2 bs ls rs c s did2 cnt3 bs' ls' rs') :
    (r = s ∧ did = did2) ∧ LSt idx now cnt' kb' kl' kr' idx2 now2 cnt3 bs' ls' rs' ∧ cnt3 ≤ cnt2 + 1 ∧ r.wf := by
  obtain ⟨rfl, rfl, rfl, ho, hr⟩ := h
  obtain ⟨q1, q2, q3, q4, q5, q6, q7⟩ := do_rel ho hr hc hn h1 h2
  exact ⟨⟨q1, q2⟩, ⟨rfl, rfl, q3, q5, q4⟩, q7, q6⟩
end
theorem apply_s {S : List Nat} (v : Value) (l : List EntD) (b tb cb bm lm rm idx : Nat) (now : Int) (cnt : Nat) (kb : List (ByteArray × Int)) (kl : List (Nat × LeaD)) (kr : List (Nat × RepD)) (wb idx2 : Nat) (now2 : Int) (cnt2 : Nat) (bv lv rv : Value) (bs : List BudD) (ls : List LeaD) (rs : List RepD) (w : World) (hs : LSt idx now cnt kb kl kr idx2 now2 cnt2 bs ls rs) (hel : ∀ x ∈ l, EntOk x) (hn : cnt2 + l.length ≤ 999999) (hi : idx2 + l.length ≤ 1000000) (hin : Own w S [Res.row b 66 [.pointer (some ⟨tb, 0, none⟩), .pointer (some ⟨cb, 0, none⟩), Vn idx], Res.row tb 111 [.map (some bm), .map (some lm), Vi now, Vn cnt], Res.mp Value.string ekI bm kb, Res.mp ekU leaV lm kl, Res.row cb 114 [.map (some rm)], Res.mp ekR repA rm kr, Res.row wb 37 [Vi now2, Vn cnt2, bv, lv, rv, Vn idx2], Res.vec 93 2 bv bs.length (bs.flatMap BudD.cells), Res.vec 76 5 lv ls.length (ls.flatMap LeaD.cells), Res.vec 43 6 rv rs.length (rs.flatMap RepD.cells)] w) (hv : Rd w S (Res.sl v l.length (l.flatMap EntD.cells))) (all_hv : ∀ p ∈ l, EntD.rd p w S) : Rets Tryz.prog 11 #[.pointer (some ⟨b, 0, none⟩), .pointer (some ⟨wb, 0, none⟩), v] w fun u_ w' => ∃ (idx' : Nat) (now' : Int) (cnt' : Nat) (kb' : List (ByteArray × Int)) (kl' : List (Nat × LeaD)) (kr' : List (Nat × RepD)) (idx3 : Nat) (now3 : Int) (cnt3 : Nat) (bv' lv' rv' : Value) (bs' : List BudD) (ls' : List LeaD) (rs' : List RepD), u_ = .bool true ∧ LSt idx' now' cnt' kb' kl' kr' idx3 now3 cnt3 bs' ls' rs' ∧ cnt3 ≤ cnt2 + l.length ∧ idx3 ≤ idx2 + l.length ∧ Own w S [Res.row b 66 [.pointer (some ⟨tb, 0, none⟩), .pointer (some ⟨cb, 0, none⟩), Vn idx'], Res.row tb 111 [.map (some bm), .map (some lm), Vi now', Vn cnt'], Res.mp Value.string ekI bm kb', Res.mp ekU leaV lm kl', Res.row cb 114 [.map (some rm)], Res.mp ekR repA rm kr', Res.row wb 37 [Vi now3, Vn cnt3, bv', lv', rv', Vn idx3], Res.vec 93 2 bv' bs'.length (bs'.flatMap BudD.cells), Res.vec 76 5 lv' ls'.length (ls'.flatMap LeaD.cells), Res.vec 43 6 rv' rs'.length (rs'.flatMap RepD.cells)] w' := by
  refine fn_enter (args := [.pointer (some ⟨b, 0, none⟩), .pointer (some ⟨wb, 0, none⟩), v]) Tryz.func11 rfl Tryz.ntmps11 rfl (show Own w S [Res.row b 66 [.pointer (some ⟨tb, 0, none⟩), .pointer (some ⟨cb, 0, none⟩), Vn idx], Res.row tb 111 [.map (some bm), .map (some lm), Vi now, Vn cnt], Res.mp Value.string ekI bm kb, Res.mp ekU leaV lm kl, Res.row cb 114 [.map (some rm)], Res.mp ekR repA rm kr, Res.row wb 37 [Vi now2, Vn cnt2, bv, lv, rv, Vn idx2], Res.vec 93 2 bv bs.length (bs.flatMap BudD.cells), Res.vec 76 5 lv ls.length (ls.flatMap LeaD.cells), Res.vec 43 6 rv rs.length (rs.flatMap RepD.cells)] w from hin) ?_
  refine c_reg (l_as rfl (l_end (c_seq (c_reg (l_as rfl (l_end (c_block ?_)))))))
  refine c_loop16 (fun (i : Nat) (idx' : Nat) (now' : Int) (cnt' : Nat) (kb' : List (ByteArray × Int)) (kl' : List (Nat × LeaD)) (kr' : List (Nat × RepD)) (idx3 : Nat) (now3 : Int) (cnt3 : Nat) (bv' lv' rv' : Value) (bs' : List BudD) (ls' : List LeaD) (rs' : List RepD) => [(0, .pointer (some ⟨b, 0, none⟩)), (1, .pointer (some ⟨wb, 0, none⟩)), (2, v), (7, Vj i)]) (fun (i : Nat) (idx' : Nat) (now' : Int) (cnt' : Nat) (kb' : List (ByteArray × Int)) (kl' : List (Nat × LeaD)) (kr' : List (Nat × RepD)) (idx3 : Nat) (now3 : Int) (cnt3 : Nat) (bv' lv' rv' : Value) (bs' : List BudD) (ls' : List LeaD) (rs' : List RepD) => (i ≤ l.length ∧ cnt3 ≤ cnt2 + i ∧ idx3 ≤ idx2 + i) ∧ LSt idx' now' cnt' kb' kl' kr' idx3 now3 cnt3 bs' ls' rs') (fun (i : Nat) (idx' : Nat) (now' : Int) (cnt' : Nat) (kb' : List (ByteArray × Int)) (kl' : List (Nat × LeaD)) (kr' : List (Nat × RepD)) (idx3 : Nat) (now3 : Int) (cnt3 : Nat) (bv' lv' rv' : Value) (bs' : List BudD) (ls' : List LeaD) (rs' : List RepD) => [Res.row b 66 [.pointer (some ⟨tb, 0, none⟩), .pointer (some ⟨cb, 0, none⟩), Vn idx'], Res.row tb 111 [.map (some bm), .map (some lm), Vi now', Vn cnt'], Res.mp Value.string ekI bm kb', Res.mp ekU leaV lm kl', Res.row cb 114 [.map (some rm)], Res.mp ekR repA rm kr', Res.row wb 37 [Vi now3, Vn cnt3, bv', lv', rv', Vn idx3], Res.vec 93 2 bv' bs'.length (bs'.flatMap BudD.cells), Res.vec 76 5 lv' ls'.length (ls'.flatMap LeaD.cells), Res.vec 43 6 rv' rs'.length (rs'.flatMap RepD.cells)]) (fun (i : Nat) (idx' : Nat) (now' : Int) (cnt' : Nat) (kb' : List (ByteArray × Int)) (kl' : List (Nat × LeaD)) (kr' : List (Nat × RepD)) (idx3 : Nat) (now3 : Int) (cnt3 : Nat) (bv' lv' rv' : Value) (bs' : List BudD) (ls' : List LeaD) (rs' : List RepD) => l.length - i) (fun w' hw => ⟨0, idx, now, cnt, kb, kl, kr, idx2, now2, cnt2, bv, lv, rv, bs, ls, rs, ⟨rfl, rfl, rfl, rfl, trivial⟩, ⟨by omega, hs⟩, hw⟩) (fun i idx' now' cnt' kb' kl' kr' idx3 now3 cnt3 bv' lv' rv' bs' ls' rs' g hΦ => ?_)
  have hi1 := hΦ.1
  have hs2 := hΦ.2
  have hdw : ∀ x ∈ (l.take (i + 1)).drop i, x.data.length ≤ 1000000000 := fun x hx => (hel x (List.mem_of_mem_take (List.mem_of_mem_drop hx))).wf.data
  refine c_seq (c_reg (l_mv rfl (l_mv rfl (a_lenP (pR hv) rfl rfl (l_lss rfl rfl rfl (l_end (c_dec rfl (fun c1 => ?_) (fun c1 => ?_))))))))
  ·
   have hil : i < l.length := by omega
   have hei := hel _ (nth_mem hil)
   refine c_skipC (c_seq (c_block (c_reg (l_mv rfl (l_mv rfl (l_mv rfl (l_add rfl rfl (wi64 (by omega)) rfl (l_slcP (pR hv) 5 i (i + 1) (by kernel_rfl) rfl ⟨_, rfl⟩ ⟨_, rfl⟩ (by omega) (by omega) rfl ?_))))))))
   have hs1_ := Rd.subL_f (g := EntD.cells) (xs := l) (sz := 5) (fun _ => rfl) hv (l := i) (h := i + 1) (by omega) (by omega)
   refine a_call rfl rfl (fun w' hw => (ownEnts_s (cutV v i (i + 1) 5) ((l.take (i + 1)).drop i) w' (by rw [List.length_drop, List.length_take]; omega) hdw (hw.rd0 hs1_) (all_drop (all_take (fun p hp => EntD.rd.at0 (all_hv p hp) hw)))).mono ?_)
   rintro r2_ w1 ⟨_, es3_, rfl, hf4_5, hO⟩
   have ho1 := ownE1 hil hf4_5
   have hj0 := ho1.1
   have hxw : (nth es3_ 0).wf := by have := ho1.2; exact ⟨by rw [this]; exact hei.wf.index, by rw [this]; exact hei.wf.term, by rw [this]; exact hei.wf.data⟩
   have hxd : isI (nth es3_ 0).delta := by rw [ho1.2]; exact hei.delta
   refine (?_ : CL _ _ _ _ _ _ (Own w S [Res.row b 66 [.pointer (some ⟨tb, 0, none⟩), .pointer (some ⟨cb, 0, none⟩), Vn idx'], Res.row tb 111 [.map (some bm), .map (some lm), Vi now', Vn cnt'], Res.mp Value.string ekI bm kb', Res.mp ekU leaV lm kl', Res.row cb 114 [.map (some rm)], Res.mp ekR repA rm kr', Res.row wb 37 [Vi now3, Vn cnt3, bv', lv', rv', Vn idx3], Res.vec 93 2 bv' bs'.length (bs'.flatMap BudD.cells), Res.vec 76 5 lv' ls'.length (ls'.flatMap LeaD.cells), Res.vec 43 6 rv' rs'.length (rs'.flatMap RepD.cells), Res.vec 57 5 r2_ es3_.length (es3_.flatMap EntD.cells), Res.star (es3_.map EntD.dres)])) w1 (hw.frame0 hO)
   refine a_idxP (pV 10 rfl) 5 0 rfl rfl rfl (by omega) rfl (a_ldAP (pV 10 rfl) 5 0 (off := offV r2_ + 0 * 5) (fun _ => rfl) rfl (by omega) (by omega) rfl (l_new (v := .agg #[Vn 0, Vn 0, Vi 0, Vi 0, .slice none 0 0]) (by kernel_rfl) rfl (fun b8 => ?_)))
   refine l_haveO (fun w' hw => Sl.cell1 (Rd.φ (EntD.rd.star0 11 rfl hw _ (nth_mem (l := es3_) (j := 0) (by omega))).dv)) (fun hc1_ => ?_)
   refine a_stN 12 rfl rfl rfl (allc_cons rfl (allc_cons rfl (allc_cons rfl (allc_cons rfl (allc_cons hc1_ allc_nil))))) rfl (l_end (c_reg (l_mv rfl (a_ldr (cs := (EntD.cells (nth es3_ 0))) 12 rfl rfl rfl (a_call rfl rfl (fun w' hw => (lapply_s b tb cb bm lm rm idx' now' cnt' kb' kl' kr' (nth es3_ 0) w' hxw hxd hs2.ht (by rw [hs2.c]; omega) (by rw [hs2.i]; omega) hs2.nd hs2.len (hs2.lent hxd) (hs2.klw hxd (by omega)) (hs2.pt hxd) (hw.give [0, 1, 2, 3, 4, 5] rfl (by decide)) (EntD.rd.star 11 rfl [0, 1, 2, 3, 4, 5] rfl rfl hw _ (nth_mem (by omega)))).mono ?_))))))
   rintro _ w1 ⟨r4_, has5_, er6_, idx'7_, now'8_, cnt'9_, kb'10_, kl'11_, kr'12_, rfl, hf5_2, hO⟩
   refine (?_ : CL _ _ _ _ _ _ (Own w S [Res.row wb 37 [Vi now3, Vn cnt3, bv', lv', rv', Vn idx3], Res.vec 93 2 bv' bs'.length (bs'.flatMap BudD.cells), Res.vec 76 5 lv' ls'.length (ls'.flatMap LeaD.cells), Res.vec 43 6 rv' rs'.length (rs'.flatMap RepD.cells), Res.vec 57 5 r2_ es3_.length (es3_.flatMap EntD.cells), Res.star (es3_.map EntD.dres), Res.row b8 57 (EntD.cells (nth es3_ 0)), Res.row b 66 [.pointer (some ⟨tb, 0, none⟩), .pointer (some ⟨cb, 0, none⟩), Vn idx'7_], Res.row tb 111 [.map (some bm), .map (some lm), Vi now'8_, Vn cnt'9_], Res.mp Value.string ekI bm kb'10_, Res.mp ekU leaV lm kl'11_, Res.row cb 114 [.map (some rm)], Res.mp ekR repA rm kr'12_])) w1 (hw.frameL [0, 1, 2, 3, 4, 5] rfl hO)
   refine l_mv rfl (l_ext (vs := [.agg (RepD.cells r4_).toArray, .bool has5_, Vi er6_]) rfl rfl rfl (l_ext (vs := [.agg (RepD.cells r4_).toArray, .bool has5_, Vi er6_]) rfl rfl rfl (l_ext (vs := [.agg (RepD.cells r4_).toArray, .bool has5_, Vi er6_]) rfl rfl rfl (l_new (v := .agg #[Vn 0, Vn 0, Vi 0, Vn 0, Vi 0, Vi 0]) (by kernel_rfl) rfl (fun b9 => a_stN 13 rfl rfl rfl (allc rfl) rfl (l_as rfl (l_as rfl (l_end (c_reg (l_mv rfl (l_mv rfl (l_mv rfl ?_))))))))))))
   refine a_idxP (pR hv) 5 i rfl rfl rfl (by omega) rfl (a_ldAP (pR hv) 5 i (off := offV v + i * 5) (fun _ => rfl) rfl rfl (by omega) rfl (a_call rfl rfl (fun w' hw => (rapply_s wb (37) ([]) now3 cnt3 bv' lv' rv' bs' ls' rs' idx3 (nth l i) w' hs2.h hei.wf hei.delta (by omega) (hw.give [0, 1, 2, 3] rfl (by decide)) ((all_hv _ (nth_mem (by omega))).at hw [0, 1, 2, 3] rfl)).mono ?_)))
   rintro _ w1 ⟨r13_, has14_, er15_, now'16_, cnt'17_, bv'18_, lv'19_, rv'20_, bs'21_, ls'22_, rs'23_, idx'24_, rfl, hf6_5, hO⟩
   have hap := hs2.app ho1.2 hxd (by omega) hf5_2 hf6_5
   refine (?_ : CL _ _ _ _ _ _ (Own w S [Res.vec 57 5 r2_ es3_.length (es3_.flatMap EntD.cells), Res.star (es3_.map EntD.dres), Res.row b8 57 (EntD.cells (nth es3_ 0)), Res.row b 66 [.pointer (some ⟨tb, 0, none⟩), .pointer (some ⟨cb, 0, none⟩), Vn idx'7_], Res.row tb 111 [.map (some bm), .map (some lm), Vi now'8_, Vn cnt'9_], Res.mp Value.string ekI bm kb'10_, Res.mp ekU leaV lm kl'11_, Res.row cb 114 [.map (some rm)], Res.mp ekR repA rm kr'12_, Res.row b9 43 (RepD.cells r4_), Res.row wb (37) [Vi now'16_, Vn cnt'17_, bv'18_, lv'19_, rv'20_, Vn idx'24_], Res.vec 93 2 bv'18_ bs'21_.length (bs'21_.flatMap BudD.cells), Res.vec 76 5 lv'19_ ls'22_.length (ls'22_.flatMap LeaD.cells), Res.vec 43 6 rv'20_ rs'23_.length (rs'23_.flatMap RepD.cells)])) w1 (hw.frameL [0, 1, 2, 3] rfl hO)
   refine l_mv rfl (l_ext (vs := [.agg (RepD.cells r13_).toArray, .bool has14_, Vi er15_]) rfl rfl rfl (l_ext (vs := [.agg (RepD.cells r13_).toArray, .bool has14_, Vi er15_]) rfl rfl rfl (l_ext (vs := [.agg (RepD.cells r13_).toArray, .bool has14_, Vi er15_]) rfl rfl rfl (l_new (v := .agg #[Vn 0, Vn 0, Vi 0, Vn 0, Vi 0, Vi 0]) (by kernel_rfl) rfl (fun b12 => a_stN 14 rfl rfl rfl (allc rfl) rfl (l_as rfl (l_as rfl (l_end (c_reg (a_ldr (cs := (RepD.cells r4_)) 9 rfl rfl rfl (a_ldr (cs := (RepD.cells r13_)) 14 rfl rfl rfl (l_val rfl (v_stq (RepDEq r4_ r13_) (by kernel_rfl) (by kernel_rfl) rfl rfl rfl rfl) ?_))))))))))))
   refine l_mv rfl (l_bor (q := ¬ (r4_ = r13_)) 3 3 [52, 51, 50] (¬ ((has5_ = true) ↔ (has14_ = true))) rfl rfl rfl rfl rfl rfl trivial rfl (fun h7_3 => ?_) (fun g7_7 => ?_))
   ·
    refine l_on rfl (gF h7_3) (l_mv rfl (l_on rfl (gF h7_3) (l_mv rfl (l_on rfl (gF h7_3) (l_bnep (by kernel_rfl) (bool_dec _) (bool_dec _) rfl ?_)))))
    exact l_nil (fun w' hw => ⟨(by repeat (first | exact .refl _ _ | refine .upd rfl ?_ | refine .msk rfl ?_)), rfl, hw⟩)
   refine l_mv rfl (l_bor (q := (¬ (r4_ = r13_)) ∨ (¬ ((has5_ = true) ↔ (has14_ = true)))) 3 8 [57, 56, 55] (er6_ ≠ er15_) rfl rfl rfl rfl rfl rfl trivial rfl (fun h7_8 => ?_) (fun g7_12 => ?_))
   ·
    refine l_on rfl (gF h7_8) (l_mv rfl (l_on rfl (gF h7_8) (l_mv rfl (l_on rfl (gF h7_8) (l_ne rfl rfl rfl ?_)))))
    exact l_nil (fun w' hw => ⟨(by repeat (first | exact .refl _ _ | refine .upd rfl ?_ | refine .msk rfl ?_)), rfl, hw⟩)
   refine l_mv rfl (l_bor (q := ((¬ (r4_ = r13_)) ∨ (¬ ((has5_ = true) ↔ (has14_ = true)))) ∨ (er6_ ≠ er15_)) 4 13 [63, 62, 61, 60] (false = true) rfl rfl rfl rfl rfl rfl trivial rfl (fun h7_13 => ?_) (fun g7_18 => ?_))
   ·
    refine l_on rfl (gF h7_13) (l_mv rfl (l_on rfl (gF h7_13) (l_mv rfl (l_on rfl (gF h7_13) (a_call rfl rfl (fun w' hw => (lalike_s b tb cb bm lm idx'7_ now'8_ cnt'9_ kb'10_ kl'11_ _ wb idx'24_ now'16_ cnt'17_ bv'18_ lv'19_ rv'20_ bs'21_ ls'22_ rs'23_ w' hap.2.1 (hw.give [3, 4, 5, 6, 10, 11, 12, 13] rfl (by decide))).mono ?_))))))
    rintro _ w1 ⟨rfl, hO⟩
    refine (?_ : CL _ _ _ _ _ _ (Own w S [Res.vec 57 5 r2_ es3_.length (es3_.flatMap EntD.cells), Res.star (es3_.map EntD.dres), Res.row b8 57 (EntD.cells (nth es3_ 0)), Res.row cb 114 [.map (some rm)], Res.mp ekR repA rm kr'12_, Res.row b9 43 (RepD.cells r4_), Res.row b12 43 (RepD.cells r13_), Res.row b 66 [.pointer (some ⟨tb, 0, none⟩), .pointer (some ⟨cb, 0, none⟩), Vn idx'7_], Res.row tb 111 [.map (some bm), .map (some lm), Vi now'8_, Vn cnt'9_], Res.mp Value.string ekI bm kb'10_, Res.mp ekU leaV lm kl'11_, Res.row wb 37 [Vi now'16_, Vn cnt'17_, bv'18_, lv'19_, rv'20_, Vn idx'24_], Res.vec 93 2 bv'18_ bs'21_.length (bs'21_.flatMap BudD.cells), Res.vec 76 5 lv'19_ ls'22_.length (ls'22_.flatMap LeaD.cells), Res.vec 43 6 rv'20_ rs'23_.length (rs'23_.flatMap RepD.cells)])) w1 (hw.frameL [3, 4, 5, 6, 10, 11, 12, 13] rfl hO)
    refine l_on rfl (gF h7_13) (l_not (b := true) rfl rfl ?_)
    exact l_nil (fun w' hw => ⟨(by repeat (first | exact .refl _ _ | refine .upd rfl ?_ | refine .msk rfl ?_)), (bool_dec _), hw.sel [0, 1, 2, 7, 8, 9, 10, 3, 4, 5, 11, 12, 13, 14, 6] rfl (by decide)⟩)
   refine l_end (c_decF rfl (fun q => by rcases q with ((q | q) | q) | q; exact q hap.1.1; exact q (by rw [hap.1.2.1]); exact q hap.1.2.2; exact absurd q Bool.false_ne_true) (c_skipC (c_last (l_mv rfl (l_add rfl rfl (wi64 (by omega)) rfl (l_as rfl ?_))))))
   exact l_nil (fun w' hw => ⟨i + 1, idx'7_, now'8_, cnt'9_, kb'10_, kl'11_, kr'12_, idx'24_, now'16_, cnt'17_, bv'18_, lv'19_, rv'20_, bs'21_, ls'22_, rs'23_, ⟨rfl, rfl, rfl, rfl, trivial⟩, ⟨by have := hap.2.2; omega, hap.2.1⟩, hw.sel [3, 4, 5, 6, 7, 8, 10, 11, 12, 13] rfl (by decide), (by omega)⟩)
  ·
   refine c_exitC rfl (c_reg (l_as rfl (l_end ?_)))
   exact c_ret (ret1 (v := .bool true) rfl rfl (fun w' hw => ⟨idx', now', cnt', kb', kl', kr', idx3, now3, cnt3, bv', lv', rv', bs', ls', rs', rfl, hs2, by omega, by omega, hw⟩))
theorem follow_s (v : Value) (l : List EntD) (w : World) (hw1 : ∀ x ∈ l, EntOk x) (hl : l.length ≤ 10000000) (hv : Rd w [] (Res.sl v l.length (l.flatMap EntD.cells))) (all_hv : ∀ p ∈ l, EntD.rd p w []) : Rets Tryz.prog 12 #[v] w fun u_ w' => ∃ (r : Value) (es : List EntD), u_ = r ∧ es.length ≤ 200 ∧ (∀ x ∈ es, EntOk x) ∧ Own w [] [Res.vec 57 5 r es.length (es.flatMap EntD.cells), Res.star (es.map EntD.dres)] w' := by
  refine fn_enter (args := [v]) Tryz.func12 rfl Tryz.ntmps12 rfl (Own.start w) ?_
  refine c_reg (l_as rfl (l_end (c_reg (l_as rfl (l_end (c_seq (c_reg (l_as rfl (l_end (c_block ?_))))))))))
  refine c_loop3 (fun (i : Nat) (r : Value) (es : List EntD) => [(0, v), (3, r), (4, Vj i)]) (fun (i : Nat) (r : Value) (es : List EntD) => (i ≤ l.length ∧ i ≤ 200 ∧ es.length = i) ∧ ∀ x ∈ es, EntOk x) (fun (i : Nat) (r : Value) (es : List EntD) => [Res.vec 57 5 r es.length (es.flatMap EntD.cells), Res.star (es.map EntD.dres)]) (fun (i : Nat) (r : Value) (es : List EntD) => l.length - i) (fun w' hw => ⟨0, .slice none 0 0, [], ⟨rfl, rfl, rfl, trivial⟩, ⟨⟨by omega, by omega, rfl⟩, fun x hx => nomatch hx⟩, (Own.starNil (own_nil hw 57 5))⟩) (fun i r es g hΦ => ?_)
  have hi1 := hΦ.1
  have he2 := hΦ.2
  have hdw : ∀ x ∈ (l.take (i + 1)).drop i, x.data.length ≤ 1000000000 := fun x hx => (hw1 x (List.mem_of_mem_take (List.mem_of_mem_drop hx))).wf.data
  refine c_seq (c_reg (l_mv rfl (l_mv rfl (a_lenP (pR hv) rfl rfl (l_lss rfl rfl rfl (l_mv rfl (l_band (q := ((i : Nat) : Int) < ((l.length : Nat) : Int)) 2 4 [12, 11] (((i : Nat) : Int) < 200) rfl rfl rfl rfl rfl rfl trivial rfl (fun h3_4 => ?_) (fun g3_7 => ?_))))))))
  ·
   refine l_on rfl (gT h3_4) (l_mv rfl (l_on rfl (gT h3_4) (l_lss rfl rfl rfl ?_)))
   exact l_nil (fun w' hw => ⟨(by repeat (first | exact .refl _ _ | refine .upd rfl ?_ | refine .msk rfl ?_)), rfl, hw⟩)
  refine l_end (c_dec rfl (fun c1 => ?_) (fun c1 => ?_))
  ·
   refine c_skipC (c_seq (c_block (c_reg (l_mv rfl (l_mv rfl (l_mv rfl (l_add rfl rfl (wi64 (by omega)) rfl (l_slcP (pR hv) 5 i (i + 1) (by kernel_rfl) rfl ⟨_, rfl⟩ ⟨_, rfl⟩ (by omega) (by omega) rfl ?_))))))))
   have hs1_ := Rd.subL_f (g := EntD.cells) (xs := l) (sz := 5) (fun _ => rfl) hv (l := i) (h := i + 1) (by omega) (by omega)
   refine a_call rfl rfl (fun w' hw => (ownEnts_s (cutV v i (i + 1) 5) ((l.take (i + 1)).drop i) w' (by rw [List.length_drop, List.length_take]; omega) hdw (hw.rd0 hs1_) (all_drop (all_take (fun p hp => EntD.rd.at0 (all_hv p hp) hw)))).mono ?_)
   rintro r2_ w1 ⟨_, es3_, rfl, hf5_5, hO⟩
   have hil : i < l.length := by omega
   have ho1 := ownE1 hil hf5_5
   have hj0 := ho1.1
   have hei := hw1 _ (nth_mem hil)
   have hex : es3_.map EntD.dres = [({ (nth es3_ 0) with index := i + 1 } : EntD)].map EntD.dres := by rw [len1 hj0]; rfl
   refine (?_ : CL _ _ _ _ _ _ (Own w [] [Res.vec 57 5 r es.length (es.flatMap EntD.cells), Res.star (es.map EntD.dres), Res.vec 57 5 r2_ es3_.length (es3_.flatMap EntD.cells), Res.star (es3_.map EntD.dres)])) w1 (hw.frame0 hO)
   refine a_idxP (pV 2 rfl) 5 0 rfl rfl rfl (by omega) rfl (a_ldAP (pV 2 rfl) 5 0 (off := offV r2_ + 0 * 5) (fun _ => rfl) rfl (by omega) (by omega) rfl (l_new (v := .agg #[Vn 0, Vn 0, Vi 0, Vi 0, .slice none 0 0]) (by kernel_rfl) rfl (fun b5 => ?_)))
   refine l_haveO (fun w' hw => Sl.cell1 (Rd.φ (EntD.rd.star0 3 rfl hw _ (nth_mem (l := es3_) (j := 0) (by omega))).dv)) (fun hc1_ => ?_)
   refine a_stN 4 rfl rfl rfl (allc_cons rfl (allc_cons rfl (allc_cons rfl (allc_cons rfl (allc_cons hc1_ allc_nil))))) rfl (l_end (c_reg (l_mv rfl (l_add rfl rfl (wi64 (by omega)) rfl (l_cvt (by kernel_rfl) rfl (wu64 (by omega)) rfl ?_ (by kernel_rfl))))))
   refine a_fld (o := 0) rfl rfl (a_st (cs := (EntD.cells (nth es3_ 0))) 4 rfl rfl rfl rfl rfl (l_end (c_last (l_mv rfl (a_ldr 4 rfl rfl rfl (l_bsl (e := 57) (sz := 5) (vs := [.agg #[Vn (i + 1), Vn ((nth es3_ 0).term), Vi ((nth es3_ 0).kind), Vi ((nth es3_ 0).delta), (nth es3_ 0).dv]]) (by kernel_rfl) rfl rfl (by simp [Value.cells, EntD.cells]) (by decide) rfl (fun b30 => l_appF (g := EntD.cells) (sz := 5) (by' := 56) (fun _ => rfl) (l := es) (l' := [({ (nth es3_ 0) with index := i + 1 } : EntD)]) (all_cons ((allc_cons rfl (allc_cons rfl (allc_cons rfl (allc_cons rfl (allc_cons hc1_ allc_nil)))))) (by simp)) 0 (by kernel_rfl) rfl rfl rfl (fun w' hw' => Vec.sl (Own.holds hw' 5 _ rfl)) (by first | omega | (simp; omega)) (by decide) rfl (fun v31 => l_as rfl (l_end (c_last (l_mv rfl (l_add rfl rfl (wi64 (by omega)) rfl ?_))))))))))))
   refine l_as rfl ?_
   exact l_nil (fun w' hw => ⟨i + 1, v31, es ++ [({ (nth es3_ 0) with index := i + 1 } : EntD)], ⟨rfl, rfl, rfl, trivial⟩, ⟨by rw [List.length_append]; simp; omega, fun x hx => by
     rcases List.mem_append.1 hx with hx | hx
     · exact he2 x hx
     · rw [List.mem_singleton.1 hx]; exact ⟨⟨by show i + 1 < _; omega, by show (nth es3_ 0).term < _; rw [show (nth es3_ 0).term = _ from congrArg EntA.term ho1.2]; exact hei.wf.term, by show (nth es3_ 0).data.length ≤ _; rw [show (nth es3_ 0).data = _ from congrArg EntA.data ho1.2]; exact hei.wf.data⟩, by show isI (nth es3_ 0).delta; rw [show (nth es3_ 0).delta = _ from congrArg EntA.delta ho1.2]; exact hei.delta⟩⟩, ((hw.starApp (m := [({ (nth es3_ 0) with index := i + 1 } : EntD)]) 1 3 (by decide) rfl (congrArg (fun q => some (Res.star q)) hex)).sel [0, 1] rfl (by decide)), (by omega)⟩)
  ·
   refine c_exitC rfl (c_reg (l_mv rfl (l_as rfl (l_end ?_))))
   exact c_ret (ret1 (v := r) rfl rfl (fun w' hw => ⟨r, es, rfl, by omega, he2, hw⟩))
def cmd1 : CmdD := { session := 1, seq := 1, op := 1, key := (⟨#[107]⟩ : ByteArray), amount := 5, span := 0, lease := 0 }
theorem cmd1_wf : cmd1.wf := ⟨by decide, by decide, by decide, by unfold isI; decide, by unfold isI; decide, by decide⟩
theorem cmd1_do {r : RepD} {did : Bool} {cnt' : Nat} {kb' : List (ByteArray × Int)} {kl' : List (Nat × LeaD)} {kr' : List (Nat × RepD)} (h : DoK 0 0 [] [] [] cmd1 r did cnt' kb' kl' kr') : (did = true ∧ r.e = 0) ∧ ((r.seq : Nat) : Int) = ((1 : Nat) : Int) := by
  have hok : cmd1.ok := by decide
  have hf : findK [] cmd1.session cmd1.seq = (RepD.zero, 8) := by decide
  rcases h with ⟨h, _⟩ | ⟨_, h, rfl, _⟩
  · rw [hf] at h
    rcases h with h | h | h | h
    · exact absurd hok h.1
    · exact absurd h.2.1 (by decide)
    · exact absurd h.2.2.1 (by decide)
    · exact absurd rfl h.2.1
  · rcases h with h | h | h | h | h
    · refine ⟨⟨rfl, ?_⟩, ?_⟩
      · rw [h.2.1]; decide
      · rw [h.2.1]; decide
    · exact absurd h.1 (by decide)
    · exact absurd h.1 (by decide)
    · exact absurd h.1 (by decide)
    · exact absurd rfl h.1.1.1
theorem answers_s (w : World) : Rets Tryz.prog 10 #[] w fun u_ w' => u_ = .bool true ∧ Own w [] [] w' := by
  refine fn_enter (args := []) Tryz.func10 rfl Tryz.ntmps10 rfl (Own.start w) ?_
  refine c_reg (l_as rfl (l_end (c_reg (a_call rfl rfl (fun w' hw => (lnew_s w').mono ?_)))))
  rintro _ w1 ⟨b1_, tb2_, cb3_, bm4_, lm5_, rm6_, rfl, hO⟩
  refine (?_ : CL _ _ _ _ _ _ (Own w [] [Res.row b1_ 66 [.pointer (some ⟨tb2_, 0, none⟩), .pointer (some ⟨cb3_, 0, none⟩), Vn 0], Res.row tb2_ 111 [.map (some bm4_), .map (some lm5_), Vi 0, Vn 0], Res.mp Value.string ekI bm4_ ([] : List (ByteArray × Int)), Res.mp ekU leaV lm5_ ([] : List (Nat × LeaD)), Res.row cb3_ 114 [.map (some rm6_)], Res.mp ekR repA rm6_ ([] : List (Nat × RepD))])) w1 (hw.frame0 hO)
  refine l_as rfl (l_end (c_seq (c_reg (l_mv rfl (l_nilp (by kernel_rfl) rfl rfl rfl (l_end (c_no rfl (c_skipC (c_reg (l_mv rfl (l_bld (cs := [Vn 1, Vn 1, Vi 1, .string (⟨#[107]⟩ : ByteArray), Vi 5, Vi 0, Vn 0]) (z := [Vn 0, Vn 0, Vi 0, .string (⟨#[]⟩ : ByteArray), Vi 0, Vi 0, Vn 0]) (pl := [(0, 1), (1, 1), (2, 1), (3, 1), (4, 1), (5, 1), (6, 1)]) (by kernel_rfl) (by kernel_rfl) rfl (a_call rfl rfl (fun w' hw => ?_)))))))))))))
  refine (ldo_s b1_ tb2_ cb3_ bm4_ lm5_ rm6_ 0 0 0 [] [] [] ({ session := 1, seq := 1, op := 1, key := (⟨#[107]⟩ : ByteArray), amount := 5, span := 0, lease := 0 } : CmdD) w' cmd1_wf (by first | omega | (simp <;> omega)) (by first | omega | (simp <;> omega)) (by show (0 : Int) ≤ 0 ∧ (0 : Int) ≤ _; omega) (fun i l h => nomatch h) (hw.give [0, 1, 2, 3, 4, 5] rfl (by decide))).mono ?_
  rintro _ w1 ⟨r7_, did8_, cnt'9_, kb'10_, kl'11_, kr'12_, rfl, hf4_2, hO⟩
  refine (?_ : CL _ _ _ _ _ _ (Own w [] [Res.row b1_ 66 [.pointer (some ⟨tb2_, 0, none⟩), .pointer (some ⟨cb3_, 0, none⟩), Vn 0], Res.row tb2_ 111 [.map (some bm4_), .map (some lm5_), Vi 0, Vn cnt'9_], Res.mp Value.string ekI bm4_ kb'10_, Res.mp ekU leaV lm5_ kl'11_, Res.row cb3_ 114 [.map (some rm6_)], Res.mp ekR repA rm6_ kr'12_])) w1 (hw.frameL [0, 1, 2, 3, 4, 5] rfl hO)
  refine l_mv rfl (l_ext (vs := [.agg (RepD.cells r7_).toArray, .bool did8_]) rfl rfl rfl (l_ext (vs := [.agg (RepD.cells r7_).toArray, .bool did8_]) rfl rfl rfl (l_new (v := .agg #[Vn 0, Vn 0, Vi 0, Vn 0, Vi 0, Vi 0]) (by kernel_rfl) rfl (fun b2 => a_stN 6 rfl rfl rfl (allc rfl) rfl (l_as rfl (l_end (c_reg (l_mv rfl (l_mv rfl (l_band (q := did8_ = true) 3 1 [17, 16, 15] (r7_.e = 0) rfl rfl (bool_dec _) rfl rfl rfl trivial rfl (fun h5_1 => ?_) (fun g5_5 => ?_)))))))))))
  ·
   refine l_on rfl (bT h5_1) (a_fld (o := 2) rfl rfl (l_on rfl (bT h5_1) (a_ldo 6 (v := Vi r7_.e) rfl rfl rfl rfl (l_on rfl (bT h5_1) (l_eq rfl rfl rfl ?_)))))
   exact l_nil (fun w' hw => ⟨(by repeat (first | exact .refl _ _ | refine .upd rfl ?_ | refine .msk rfl ?_)), rfl, hw⟩)
  refine l_mv rfl (l_band (q := (did8_ = true) ∧ (r7_.e = 0)) 3 6 [22, 21, 20] (((r7_.seq : Nat) : Int) = ((1 : Nat) : Int)) rfl rfl rfl rfl rfl rfl trivial rfl (fun h5_6 => ?_) (fun g5_10 => ?_))
  ·
   refine l_on rfl (gT h5_6) (a_fld (o := 1) rfl rfl (l_on rfl (gT h5_6) (a_ldo 6 (v := Vn r7_.seq) rfl rfl rfl rfl (l_on rfl (gT h5_6) (l_eq rfl rfl rfl ?_)))))
   exact l_nil (fun w' hw => ⟨(by repeat (first | exact .refl _ _ | refine .upd rfl ?_ | refine .msk rfl ?_)), rfl, hw⟩)
  refine l_as rfl (l_end ?_)
  exact c_ret (ret1 (v := .bool (decide (((did8_ = true) ∧ (r7_.e = 0)) ∧ (((r7_.seq : Nat) : Int) = ((1 : Nat) : Int))))) rfl rfl (fun w' hw => ⟨(by congr 1; exact decide_eq_true (cmd1_do hf4_2)), hw.drop⟩))
end Go.Proofs.YthincafbmpialaaGreat
