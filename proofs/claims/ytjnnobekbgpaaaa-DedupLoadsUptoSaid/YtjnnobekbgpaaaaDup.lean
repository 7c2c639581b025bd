/-
  THE WALKS OF the last replies, kept in a map.
-/
import Derived.Test.YtjnnobekbgpaaaaRepN
import Derived.Test.YtjnnobekbgpaaaaSortU4
import Derived.Test.YtjnnobekbgpaaaaFwG
import Derived.Test.YtjnnobekbgpaaaaQuotaP
set_option linter.unusedVariables false
set_option maxRecDepth 10000
namespace Go.Proofs.Ytjnnobekbgpaaaa
open Go Go.Sc Go.Proofs

def repA (l : RepD) : Value := .agg l.cells.toArray
def ekR (n : Nat) : Value := .int .u64 n
def RepD.zero : RepD := ⟨0, 0, 0, 0, 0, 0⟩
instance : Inhabited RepD := ⟨RepD.zero⟩
theorem keyR : KeyL Try.prog 23 ekR := keyL_nat (by kernel_rfl)
theorem mapR : mapT Try.prog 54 = some (23, 26) := by kernel_rfl
theorem zeroR : zeroT Try.prog 26 = some (repA RepD.zero) := by kernel_rfl
def findK (kl : List (Nat × RepD)) (s q : Nat) : RepD × Int :=
  if s = 0 ∨ q = 0 then (RepD.zero, 1) else
  match getA s kl with
  | none => if 32 ≤ kl.length then (RepD.zero, 7) else (RepD.zero, 8)
  | some r => if r.seq < q then (RepD.zero, 8) else if q < r.seq then (RepD.zero, 13) else (r, 0)
def doneE (r : RepD) (e : Int) : Int := if ¬ r.ok then 2 else if e = 8 then 0 else if e = 0 then 9 else e
def doneK (kl : List (Nat × RepD)) (r : RepD) : List (Nat × RepD) := if r.ok ∧ (findK kl r.session r.seq).2 = 8 then putA r.session r kl else kl
section
variable {kl : List (Nat × RepD)} {s q : Nat} {r : RepD}
theorem find1 (h : (((s : Nat) : Int) = ((0 : Nat) : Int)) ∨ (((q : Nat) : Int) = ((0 : Nat) : Int))) : findK kl s q = (RepD.zero, 1) := by
  unfold findK; rw [if_pos (by omega)]
theorem find7 (h : ¬ ((((s : Nat) : Int) = ((0 : Nat) : Int)) ∨ (((q : Nat) : Int) = ((0 : Nat) : Int)))) (h2 : (!(getA s kl).isSome) = true ∧ 32 ≤ ((kl.length : Nat) : Int)) : findK kl s q = (RepD.zero, 7) := by
  unfold findK
  rw [if_neg (by omega)]
  cases hg : getA s kl with
  | none => show (if 32 ≤ kl.length then _ else _) = _; rw [if_pos (by omega)]
  | some r => rw [hg] at h2; exact absurd h2.1 (by simp)
theorem find8 (h : ¬ ((((s : Nat) : Int) = ((0 : Nat) : Int)) ∨ (((q : Nat) : Int) = ((0 : Nat) : Int)))) (h2 : ¬ ((!(getA s kl).isSome) = true ∧ 32 ≤ ((kl.length : Nat) : Int))) (h3 : (!(getA s kl).isSome) = true ∨ ((((getA s kl).getD RepD.zero).seq : Nat) : Int) < ((q : Nat) : Int)) : findK kl s q = (RepD.zero, 8) := by
  unfold findK
  rw [if_neg (by omega)]
  cases hg : getA s kl with
  | none =>
    show (if 32 ≤ kl.length then _ else _) = _
    rw [if_neg fun q => h2 ⟨by rw [hg]; rfl, by omega⟩]
  | some r =>
    rw [hg, Option.getD_some] at h3
    have h3 : r.seq < q := by rcases h3 with h3 | h3; exact absurd h3 (by simp); omega
    show (if r.seq < q then _ else _) = _
    rw [if_pos h3]
theorem find_some {k : Nat} (h3 : ¬ ((!(getA s kl).isSome) = true ∨ ((((getA s kl).getD RepD.zero).seq : Nat) : Int) < ((k : Nat) : Int))) : ∃ r, getA s kl = some r ∧ ¬ r.seq < k := by
  cases hg : getA s kl with
  | none => exact absurd (.inl (by rw [hg]; rfl)) h3
  | some r => exact ⟨r, rfl, fun q => h3 (.inr (by rw [hg, Option.getD_some]; omega))⟩
theorem find13 (h : ¬ ((((s : Nat) : Int) = ((0 : Nat) : Int)) ∨ (((q : Nat) : Int) = ((0 : Nat) : Int)))) (h3 : ¬ ((!(getA s kl).isSome) = true ∨ ((((getA s kl).getD RepD.zero).seq : Nat) : Int) < ((q : Nat) : Int))) (h4 : ((q : Nat) : Int) < ((((getA s kl).getD RepD.zero).seq : Nat) : Int)) : findK kl s q = (RepD.zero, 13) := by
  obtain ⟨r, hr, h5⟩ := find_some h3
  unfold findK
  rw [if_neg (by omega), hr]
  rw [hr, Option.getD_some] at h4
  show (if r.seq < q then _ else if q < r.seq then _ else _) = _
  rw [if_neg h5, if_pos (by omega)]
theorem find0 (h : ¬ ((((s : Nat) : Int) = ((0 : Nat) : Int)) ∨ (((q : Nat) : Int) = ((0 : Nat) : Int)))) (h3 : ¬ ((!(getA s kl).isSome) = true ∨ ((((getA s kl).getD RepD.zero).seq : Nat) : Int) < ((q : Nat) : Int))) (h4 : ¬ ((q : Nat) : Int) < ((((getA s kl).getD RepD.zero).seq : Nat) : Int)) : findK kl s q = ((getA s kl).getD RepD.zero, 0) := by
  obtain ⟨r, hr, h5⟩ := find_some h3
  unfold findK
  rw [if_neg (by omega), hr]
  rw [hr, Option.getD_some] at h4
  show (if r.seq < q then _ else if q < r.seq then _ else _) = _
  rw [if_neg h5, if_neg (by omega)]; rfl
theorem done2 (h : errOf r.ok ≠ 0) (kl : List (Nat × RepD)) : 2 = doneE r (findK kl r.session r.seq).2 ∧ kl = doneK kl r := by
  have hn : ¬ r.ok := fun k => h (errOf_zero.2 k)
  unfold doneE doneK
  rw [if_pos hn, if_neg fun k => hn k.1]
  exact ⟨rfl, rfl⟩
theorem done0 (h : ¬ errOf r.ok ≠ 0) (he : (findK kl r.session r.seq).2 = 8) : 0 = doneE r (findK kl r.session r.seq).2 ∧ putA r.session r kl = doneK kl r := by
  have hn : r.ok := errOf_zero.1 (Decidable.not_not.1 h)
  unfold doneE doneK
  rw [if_neg fun k => k hn, if_pos he, if_pos ⟨hn, he⟩]
  exact ⟨rfl, rfl⟩
theorem done9 (h : ¬ errOf r.ok ≠ 0) (he : (findK kl r.session r.seq).2 = 0) : 9 = doneE r (findK kl r.session r.seq).2 ∧ kl = doneK kl r := by
  have hn : r.ok := errOf_zero.1 (Decidable.not_not.1 h)
  unfold doneE doneK
  rw [if_neg fun k => k hn, he, if_neg (by decide), if_pos rfl, if_neg (by rintro ⟨_, k⟩; cases k)]
  exact ⟨rfl, rfl⟩
theorem doneX {e : Int} (h : ¬ errOf r.ok ≠ 0) (he : (findK kl r.session r.seq).2 = e) (h8 : ¬ e = 8) (h0 : ¬ e = 0) : e = doneE r (findK kl r.session r.seq).2 ∧ kl = doneK kl r := by
  have hn : r.ok := errOf_zero.1 (Decidable.not_not.1 h)
  unfold doneE doneK
  rw [if_neg fun k => k hn, he, if_neg h8, if_neg h0, if_neg fun k => h8 k.2]
  exact ⟨rfl, rfl⟩
end
theorem dnew_s (w : World) : Rets Try.prog 13 #[] w fun u_ w' => ∃ (b m : Nat), u_ = .pointer (some ⟨b, 0, none⟩) ∧ Own w [] [Res.row b 56 [.map (some m)], Res.mp ekR repA m ([] : List (Nat × RepD))] w' := by
  refine fn_enter (args := []) Try.func13 rfl Try.ntmps13 rfl (Own.start w) ?_
  refine c_reg ?_
  refine l_as rfl ?_
  refine l_end ?_
  refine c_reg ?_
  refine l_mkmapA (α := RepD) ekR repA rfl rfl (fun m1 => ?_)
  refine l_bld (cs := [.map (some m1)]) (z := [.map none]) (pl := [(0, 1)]) (by kernel_rfl) (by kernel_rfl) rfl ?_
  refine l_box rfl rfl (fun b3 => ?_)
  refine l_as rfl ?_
  refine l_end ?_
  exact c_ret (ret1 (v := .pointer (some ⟨b3, 0, none⟩)) rfl rfl (fun w' hw => ⟨b3, m1, rfl, hw.sel [1, 0] rfl (by decide)⟩))
theorem dfind_s (b m : Nat) (kl : List (Nat × RepD)) (s q : Nat) (w : World) (hin : Own w (fps [Res.row b 56 [.map (some m)], Res.mp ekR repA m kl]) [Res.row b 56 [.map (some m)], Res.mp ekR repA m kl] w) : Rets Try.prog 10 #[.pointer (some ⟨b, 0, none⟩), .int .u64 (s : Nat), .int .u64 (q : Nat)] w fun u_ w' => ∃ (x : RepD) (e : Int), u_ = .tuple #[.agg (RepD.cells x).toArray, .int .i64 e] ∧ findK kl s q = (x, e) ∧ Own w (fps [Res.row b 56 [.map (some m)], Res.mp ekR repA m kl]) [Res.row b 56 [.map (some m)], Res.mp ekR repA m kl] w' := by
  refine fn_enter (args := [.pointer (some ⟨b, 0, none⟩), .int .u64 (s : Nat), .int .u64 (q : Nat)]) Try.func10 rfl Try.ntmps10 rfl (show Own w (fps [Res.row b 56 [.map (some m)], Res.mp ekR repA m kl]) [Res.row b 56 [.map (some m)], Res.mp ekR repA m kl] w from hin) ?_
  refine c_reg ?_
  refine l_new (v := .agg #[.int .u64 (0 : Nat), .int .u64 (0 : Nat), .int .i64 0, .int .u64 (0 : Nat), .int .i64 0, .int .i64 0]) (by kernel_rfl) rfl (fun b6 => ?_)
  refine l_as rfl ?_
  refine l_end ?_
  refine c_seq ?_
  refine c_reg ?_
  refine l_mv rfl ?_
  refine l_nilp (by kernel_rfl) rfl rfl rfl ?_
  refine l_mv rfl ?_
  refine l_on rfl rfl ?_
  refine l_mv rfl ?_
  refine l_on rfl rfl ?_
  refine l_eq rfl rfl rfl ?_
  refine l_pickF rfl rfl ?_
  refine l_mv rfl ?_
  refine l_bor (q := ((s : Nat) : Int) = ((0 : Nat) : Int)) 2 6 [18, 17] (((q : Nat) : Int) = ((0 : Nat) : Int)) rfl rfl rfl rfl rfl rfl trivial rfl (fun h1_6 => ?_) (fun g1_9 => ?_)
  ·
    refine l_on rfl (gF h1_6) ?_
    refine l_mv rfl ?_
    refine l_on rfl (gF h1_6) ?_
    refine l_eq rfl rfl rfl ?_
    exact l_nil (fun w' hw => ⟨(by repeat (first | exact Out.refl _ _ | refine Out.upd rfl ?_ | refine Out.msk rfl ?_)), rfl, hw⟩)
  refine l_end ?_
  refine c_dec rfl (fun c1 => ?_) (fun c1 => ?_)
  ·
    refine c_reg ?_
    refine l_bld (cs := [.int .u64 (0 : Nat), .int .u64 (0 : Nat), .int .i64 0, .int .u64 (0 : Nat), .int .i64 0, .int .i64 0]) (z := [.int .u64 (0 : Nat), .int .u64 (0 : Nat), .int .i64 0, .int .u64 (0 : Nat), .int .i64 0, .int .i64 0]) (pl := [(0, 1), (1, 1), (2, 1), (3, 1), (4, 1), (5, 1)]) (by kernel_rfl) (by kernel_rfl) rfl ?_
    refine l_stN (cs := [.int .u64 (0 : Nat), .int .u64 (0 : Nat), .int .i64 0, .int .u64 (0 : Nat), .int .i64 0, .int .i64 0]) (vs := [.int .u64 (0 : Nat), .int .u64 (0 : Nat), .int .i64 0, .int .u64 (0 : Nat), .int .i64 0, .int .i64 0]) 2 rfl rfl rfl (by kernel_rfl) (allc_cons rfl (allc_cons rfl (allc_cons rfl (allc_cons rfl (allc_cons rfl (allc_cons rfl allc_nil)))))) (Nat.le_of_ble_eq_true rfl) ?_
    refine l_as rfl ?_
    refine l_end ?_
    exact c_ret (retc2 (cs := [.int .u64 (0 : Nat), .int .u64 (0 : Nat), .int .i64 0, .int .u64 (0 : Nat), .int .i64 0, .int .i64 0]) (v := .int .i64 1) rfl rfl rfl (by kernel_rfl) (Own.rowCells (i := 2) rfl) (fun w' hw => ⟨RepD.zero, 1, rfl, find1 c1, hw.sel [0, 1] rfl (by decide)⟩))
  ·
    refine c_skipC ?_
    refine c_reg ?_
    refine l_mv rfl ?_
    refine l_nck rfl rfl ?_
    refine l_fld (o := 0) rfl (by kernel_rfl) rfl ?_
    refine l_ldo 0 (v := .map (some m)) rfl rfl rfl (by kernel_rfl) rfl ?_
    refine l_mv rfl ?_
    refine l_lk2A (k := s) (kv := kl) (zv := RepD.zero) keyR mapR zeroR rfl rfl (fun w' hw' => Own.holds hw' 1 _ rfl) rfl ?_
    refine l_mv rfl ?_
    refine l_ext (vs := [.agg (RepD.cells ((getA s kl).getD RepD.zero)).toArray, .bool ((getA s kl).isSome)]) rfl rfl rfl ?_
    refine l_ext (vs := [.agg (RepD.cells ((getA s kl).getD RepD.zero)).toArray, .bool ((getA s kl).isSome)]) rfl rfl rfl ?_
    refine l_new (v := .agg #[.int .u64 (0 : Nat), .int .u64 (0 : Nat), .int .i64 0, .int .u64 (0 : Nat), .int .i64 0, .int .i64 0]) (by kernel_rfl) rfl (fun b8 => ?_)
    refine l_stN (cs := [.int .u64 (0 : Nat), .int .u64 (0 : Nat), .int .i64 0, .int .u64 (0 : Nat), .int .i64 0, .int .i64 0]) (vs := [.int .u64 (((getA s kl).getD RepD.zero).session : Nat), .int .u64 (((getA s kl).getD RepD.zero).seq : Nat), .int .i64 (((getA s kl).getD RepD.zero).e), .int .u64 (((getA s kl).getD RepD.zero).lease : Nat), .int .i64 (((getA s kl).getD RepD.zero).amount), .int .i64 (((getA s kl).getD RepD.zero).until_)]) 3 rfl rfl rfl (by kernel_rfl) (allc_cons rfl (allc_cons rfl (allc_cons rfl (allc_cons rfl (allc_cons rfl (allc_cons rfl allc_nil)))))) (Nat.le_of_ble_eq_true rfl) ?_
    refine l_as rfl ?_
    refine l_end ?_
    refine c_seq ?_
    refine c_block ?_
    refine c_reg ?_
    refine l_mv rfl ?_
    refine l_not (b := (getA s kl).isSome) rfl rfl ?_
    refine l_mv rfl ?_
    refine l_band (q := (!((getA s kl).isSome)) = true) 6 2 [39, 38, 37, 36, 35, 34] (32 ≤ ((kl.length : Nat) : Int)) rfl rfl (bool_dec _) rfl rfl rfl trivial rfl (fun h4_2 => ?_) (fun g4_9 => ?_)
    ·
      refine l_on rfl (bT h4_2) ?_
      refine l_mv rfl ?_
      refine l_on rfl (bT h4_2) ?_
      refine l_nck rfl rfl ?_
      refine l_on rfl (bT h4_2) ?_
      refine l_fld (o := 0) rfl (by kernel_rfl) rfl ?_
      refine l_on rfl (bT h4_2) ?_
      refine l_ldo 0 (v := .map (some m)) rfl rfl rfl (by kernel_rfl) rfl ?_
      refine l_on rfl (bT h4_2) ?_
      refine l_mlenA ekR repA (kv := kl) mapR rfl (fun w' hw' => Own.holds hw' 1 _ rfl) rfl ?_
      refine l_on rfl (bT h4_2) ?_
      refine l_geq rfl rfl rfl ?_
      exact l_nil (fun w' hw => ⟨(by repeat (first | exact Out.refl _ _ | refine Out.upd rfl ?_ | refine Out.msk rfl ?_)), rfl, hw⟩)
    refine l_as rfl ?_
    refine l_end ?_
    refine c_dec rfl (fun c2 => ?_) (fun c2 => ?_)
    ·
      refine c_reg ?_
      refine l_bld (cs := [.int .u64 (0 : Nat), .int .u64 (0 : Nat), .int .i64 0, .int .u64 (0 : Nat), .int .i64 0, .int .i64 0]) (z := [.int .u64 (0 : Nat), .int .u64 (0 : Nat), .int .i64 0, .int .u64 (0 : Nat), .int .i64 0, .int .i64 0]) (pl := [(0, 1), (1, 1), (2, 1), (3, 1), (4, 1), (5, 1)]) (by kernel_rfl) (by kernel_rfl) rfl ?_
      refine l_stN (cs := [.int .u64 (0 : Nat), .int .u64 (0 : Nat), .int .i64 0, .int .u64 (0 : Nat), .int .i64 0, .int .i64 0]) (vs := [.int .u64 (0 : Nat), .int .u64 (0 : Nat), .int .i64 0, .int .u64 (0 : Nat), .int .i64 0, .int .i64 0]) 2 rfl rfl rfl (by kernel_rfl) (allc_cons rfl (allc_cons rfl (allc_cons rfl (allc_cons rfl (allc_cons rfl (allc_cons rfl allc_nil)))))) (Nat.le_of_ble_eq_true rfl) ?_
      refine l_as rfl ?_
      refine l_end ?_
      exact c_ret (retc2 (cs := [.int .u64 (0 : Nat), .int .u64 (0 : Nat), .int .i64 0, .int .u64 (0 : Nat), .int .i64 0, .int .i64 0]) (v := .int .i64 7) rfl rfl rfl (by kernel_rfl) (Own.rowCells (i := 2) rfl) (fun w' hw => ⟨RepD.zero, 7, rfl, find7 c1 c2, hw.sel [0, 1] rfl (by decide)⟩))
    ·
      refine c_reg ?_
      refine l_mv rfl ?_
      refine l_not (b := (getA s kl).isSome) rfl rfl ?_
      refine l_mv rfl ?_
      refine l_bor (q := (!((getA s kl).isSome)) = true) 4 2 [49, 48, 47, 46] (((((getA s kl).getD RepD.zero).seq : Nat) : Int) < ((q : Nat) : Int)) rfl rfl (bool_dec _) rfl rfl rfl trivial rfl (fun h6_2 => ?_) (fun g6_7 => ?_)
      ·
        refine l_on rfl (bF h6_2) ?_
        refine l_mv rfl ?_
        refine l_on rfl (bF h6_2) ?_
        refine l_fld (o := 1) rfl (by kernel_rfl) rfl ?_
        refine l_on rfl (bF h6_2) ?_
        refine l_ldo 3 (v := .int .u64 (((getA s kl).getD RepD.zero).seq : Nat)) rfl rfl rfl (by kernel_rfl) rfl ?_
        refine l_on rfl (bF h6_2) ?_
        refine l_gtr rfl rfl rfl ?_
        exact l_nil (fun w' hw => ⟨(by repeat (first | exact Out.refl _ _ | refine Out.upd rfl ?_ | refine Out.msk rfl ?_)), rfl, hw⟩)
      refine l_as rfl ?_
      refine l_end ?_
      refine c_dec rfl (fun c3 => ?_) (fun c3 => ?_)
      ·
        refine c_reg ?_
        refine l_bld (cs := [.int .u64 (0 : Nat), .int .u64 (0 : Nat), .int .i64 0, .int .u64 (0 : Nat), .int .i64 0, .int .i64 0]) (z := [.int .u64 (0 : Nat), .int .u64 (0 : Nat), .int .i64 0, .int .u64 (0 : Nat), .int .i64 0, .int .i64 0]) (pl := [(0, 1), (1, 1), (2, 1), (3, 1), (4, 1), (5, 1)]) (by kernel_rfl) (by kernel_rfl) rfl ?_
        refine l_stN (cs := [.int .u64 (0 : Nat), .int .u64 (0 : Nat), .int .i64 0, .int .u64 (0 : Nat), .int .i64 0, .int .i64 0]) (vs := [.int .u64 (0 : Nat), .int .u64 (0 : Nat), .int .i64 0, .int .u64 (0 : Nat), .int .i64 0, .int .i64 0]) 2 rfl rfl rfl (by kernel_rfl) (allc_cons rfl (allc_cons rfl (allc_cons rfl (allc_cons rfl (allc_cons rfl (allc_cons rfl allc_nil)))))) (Nat.le_of_ble_eq_true rfl) ?_
        refine l_as rfl ?_
        refine l_end ?_
        exact c_ret (retc2 (cs := [.int .u64 (0 : Nat), .int .u64 (0 : Nat), .int .i64 0, .int .u64 (0 : Nat), .int .i64 0, .int .i64 0]) (v := .int .i64 8) rfl rfl rfl (by kernel_rfl) (Own.rowCells (i := 2) rfl) (fun w' hw => ⟨RepD.zero, 8, rfl, find8 c1 c2 c3, hw.sel [0, 1] rfl (by decide)⟩))
      ·
        refine c_reg ?_
        refine l_mv rfl ?_
        refine l_fld (o := 1) rfl (by kernel_rfl) rfl ?_
        refine l_ldo 3 (v := .int .u64 (((getA s kl).getD RepD.zero).seq : Nat)) rfl rfl rfl (by kernel_rfl) rfl ?_
        refine l_lss rfl rfl rfl ?_
        refine l_as rfl ?_
        refine l_end ?_
        refine c_dec rfl (fun c4 => ?_) (fun c4 => ?_)
        ·
          refine c_reg ?_
          refine l_bld (cs := [.int .u64 (0 : Nat), .int .u64 (0 : Nat), .int .i64 0, .int .u64 (0 : Nat), .int .i64 0, .int .i64 0]) (z := [.int .u64 (0 : Nat), .int .u64 (0 : Nat), .int .i64 0, .int .u64 (0 : Nat), .int .i64 0, .int .i64 0]) (pl := [(0, 1), (1, 1), (2, 1), (3, 1), (4, 1), (5, 1)]) (by kernel_rfl) (by kernel_rfl) rfl ?_
          refine l_stN (cs := [.int .u64 (0 : Nat), .int .u64 (0 : Nat), .int .i64 0, .int .u64 (0 : Nat), .int .i64 0, .int .i64 0]) (vs := [.int .u64 (0 : Nat), .int .u64 (0 : Nat), .int .i64 0, .int .u64 (0 : Nat), .int .i64 0, .int .i64 0]) 2 rfl rfl rfl (by kernel_rfl) (allc_cons rfl (allc_cons rfl (allc_cons rfl (allc_cons rfl (allc_cons rfl (allc_cons rfl allc_nil)))))) (Nat.le_of_ble_eq_true rfl) ?_
          refine l_as rfl ?_
          refine l_end ?_
          exact c_ret (retc2 (cs := [.int .u64 (0 : Nat), .int .u64 (0 : Nat), .int .i64 0, .int .u64 (0 : Nat), .int .i64 0, .int .i64 0]) (v := .int .i64 13) rfl rfl rfl (by kernel_rfl) (Own.rowCells (i := 2) rfl) (fun w' hw => ⟨RepD.zero, 13, rfl, find13 c1 c3 c4, hw.sel [0, 1] rfl (by decide)⟩))
        ·
          refine c_skipC ?_
          refine c_reg ?_
          refine l_ldr (cs := (RepD.cells ((getA s kl).getD RepD.zero))) 3 rfl rfl (by kernel_rfl) rfl ?_
          refine l_stN (cs := [.int .u64 (0 : Nat), .int .u64 (0 : Nat), .int .i64 0, .int .u64 (0 : Nat), .int .i64 0, .int .i64 0]) (vs := [.int .u64 (((getA s kl).getD RepD.zero).session : Nat), .int .u64 (((getA s kl).getD RepD.zero).seq : Nat), .int .i64 (((getA s kl).getD RepD.zero).e), .int .u64 (((getA s kl).getD RepD.zero).lease : Nat), .int .i64 (((getA s kl).getD RepD.zero).amount), .int .i64 (((getA s kl).getD RepD.zero).until_)]) 2 rfl rfl rfl (by kernel_rfl) (allc_cons rfl (allc_cons rfl (allc_cons rfl (allc_cons rfl (allc_cons rfl (allc_cons rfl allc_nil)))))) (Nat.le_of_ble_eq_true rfl) ?_
          refine l_as rfl ?_
          refine l_end ?_
          exact c_ret (retc2 (cs := (RepD.cells ((getA s kl).getD RepD.zero))) (v := .int .i64 0) rfl rfl rfl (by kernel_rfl) (Own.rowCells (i := 2) rfl) (fun w' hw => ⟨(getA s kl).getD RepD.zero, 0, rfl, find0 c1 c3 c4, hw.sel [0, 1] rfl (by decide)⟩))
theorem ddone_s (b m : Nat) (kl : List (Nat × RepD)) (r : RepD) (w : World) (hx : r.wf) (hin : Own w (fps [Res.row b 56 [.map (some m)], Res.mp ekR repA m kl]) [Res.row b 56 [.map (some m)], Res.mp ekR repA m kl] w) : Rets Try.prog 9 #[.pointer (some ⟨b, 0, none⟩), .agg (RepD.cells r).toArray] w fun u_ w' => ∃ (e : Int) (kl' : List (Nat × RepD)), u_ = .int .i64 e ∧ e = doneE r (findK kl r.session r.seq).2 ∧ kl' = doneK kl r ∧ Own w (fps [Res.row b 56 [.map (some m)], Res.mp ekR repA m kl]) [Res.row b 56 [.map (some m)], Res.mp ekR repA m kl'] w' := by
  refine fn_enter (args := [.pointer (some ⟨b, 0, none⟩), .agg (RepD.cells r).toArray]) Try.func9 rfl Try.ntmps9 rfl (show Own w (fps [Res.row b 56 [.map (some m)], Res.mp ekR repA m kl]) [Res.row b 56 [.map (some m)], Res.mp ekR repA m kl] w from hin) ?_
  refine c_reg ?_
  refine l_box rfl rfl (fun b3 => ?_)
  refine l_as rfl ?_
  refine l_end ?_
  refine c_seq ?_
  refine c_reg ?_
  refine l_mv rfl ?_
  refine l_nilp (by kernel_rfl) rfl rfl rfl ?_
  refine l_end ?_
  refine c_no rfl ?_
  refine c_skipC ?_
  refine c_seq ?_
  refine c_reg ?_
  refine l_ldr (cs := (RepD.cells r)) 2 rfl rfl (by kernel_rfl) rfl ?_
  refine l_call (by kernel_rfl) rfl rfl (fun w' hw => ?_)
  refine (msgReply_s r w' (by first | assumption | omega | (simp <;> omega) | (constructor <;> (first | omega | (simp only [LenOk]; omega) | (simp <;> omega))))).mono ?_
  rintro _ w1 ⟨r1_, rfl, hO⟩
  refine (?_ : CL _ _ _ _ _ _ (Own w (fps [Res.row b 56 [.map (some m)], Res.mp ekR repA m kl]) [Res.row b 56 [.map (some m)], Res.mp ekR repA m kl, Res.row b3 26 (RepD.cells r), Res.vec 5 1 r1_ (if r.ok then r.enc else []).length ((if r.ok then r.enc else []).map vb)])) w1 (hw.frame0 hO)
  refine l_mv rfl ?_
  refine l_ext (vs := [r1_, .int .i64 (errOf r.ok)]) rfl rfl rfl ?_
  refine l_ext (vs := [r1_, .int .i64 (errOf r.ok)]) rfl rfl rfl ?_
  refine l_as rfl ?_
  refine l_as rfl ?_
  refine l_end ?_
  refine c_reg ?_
  refine l_mv rfl ?_
  refine l_ne rfl rfl rfl ?_
  refine l_end ?_
  refine c_dec rfl (fun c2 => ?_) (fun c2 => ?_)
  ·
    refine c_reg ?_
    refine l_as rfl ?_
    refine l_end ?_
    exact c_ret (ret1 (v := .int .i64 2) rfl rfl (fun w' hw => ⟨2, kl, rfl, (done2 c2 kl).1, (done2 c2 kl).2, hw.sel [0, 1] rfl (by decide)⟩))
  ·
    refine c_skipC ?_
    refine c_reg ?_
    refine l_mv rfl ?_
    refine l_fld (o := 0) rfl (by kernel_rfl) rfl ?_
    refine l_ldo 2 (v := .int .u64 (r.session : Nat)) rfl rfl rfl (by kernel_rfl) rfl ?_
    refine l_fld (o := 1) rfl (by kernel_rfl) rfl ?_
    refine l_ldo 2 (v := .int .u64 (r.seq : Nat)) rfl rfl rfl (by kernel_rfl) rfl ?_
    refine l_call (by kernel_rfl) rfl rfl (fun w' hw => ?_)
    refine (dfind_s b m kl r.session r.seq w' (hw.give [0, 1] rfl (by decide))).mono ?_
    rintro _ w1 ⟨x2_, e3_, rfl, hf6_5, hO⟩
    have hfe : (findK kl r.session r.seq).2 = e3_ := congrArg Prod.snd hf6_5
    refine (?_ : CL _ _ _ _ _ _ (Own w (fps [Res.row b 56 [.map (some m)], Res.mp ekR repA m kl]) [Res.row b3 26 (RepD.cells r), Res.vec 5 1 r1_ (if r.ok then r.enc else []).length ((if r.ok then r.enc else []).map vb), Res.row b 56 [.map (some m)], Res.mp ekR repA m kl])) w1 (hw.frameL [0, 1] rfl hO)
    refine l_mv rfl ?_
    refine l_ext (vs := [.agg (RepD.cells x2_).toArray, .int .i64 e3_]) rfl rfl rfl ?_
    refine l_ext (vs := [.agg (RepD.cells x2_).toArray, .int .i64 e3_]) rfl rfl rfl ?_
    refine l_new (v := .agg #[.int .u64 (0 : Nat), .int .u64 (0 : Nat), .int .i64 0, .int .u64 (0 : Nat), .int .i64 0, .int .i64 0]) (by kernel_rfl) rfl (fun b7 => ?_)
    refine l_stN (cs := [.int .u64 (0 : Nat), .int .u64 (0 : Nat), .int .i64 0, .int .u64 (0 : Nat), .int .i64 0, .int .i64 0]) (vs := [.int .u64 (x2_.session : Nat), .int .u64 (x2_.seq : Nat), .int .i64 x2_.e, .int .u64 (x2_.lease : Nat), .int .i64 x2_.amount, .int .i64 x2_.until_]) 4 rfl rfl rfl (by kernel_rfl) (allc_cons rfl (allc_cons rfl (allc_cons rfl (allc_cons rfl (allc_cons rfl (allc_cons rfl allc_nil)))))) (Nat.le_of_ble_eq_true rfl) ?_
    refine l_as rfl ?_
    refine l_end ?_
    refine c_reg ?_
    refine l_mv rfl ?_
    refine l_end ?_
    refine c_block ?_
    refine c_reg ?_
    refine l_eq rfl rfl rfl ?_
    refine l_as rfl ?_
    refine l_end ?_
    refine c_dec rfl (fun c3 => ?_) (fun c3 => ?_)
    ·
      refine c_seq ?_
      refine c_heldo [0, 1, 2, 4] rfl (by decide) (by kernel_rfl) (fun w' hw hS => ?_)
      refine h_take 0 rfl (by kernel_rfl) (by kernel_rfl) (by kernel_rfl) (v_mv) rfl hS ?_
      refine h_take 1 rfl (by kernel_rfl) (by kernel_rfl) (by kernel_rfl) (v_nck rfl) rfl hS ?_
      refine h_take 2 rfl (by kernel_rfl) (by kernel_rfl) (by kernel_rfl) (v_fld (o := 0) rfl (by kernel_rfl)) rfl hS ?_
      refine h_take 3 rfl (by kernel_rfl) (by kernel_rfl) (by kernel_rfl) (v_ldo 2 (v := .map (some m)) rfl rfl rfl (by kernel_rfl)) rfl hS ?_
      refine h_take 4 rfl (by kernel_rfl) (by kernel_rfl) (by kernel_rfl) (v_fld (o := 0) rfl (by kernel_rfl)) rfl hS ?_
      refine h_take 5 rfl (by kernel_rfl) (by kernel_rfl) (by kernel_rfl) (v_ldo 0 (v := .int .u64 (r.session : Nat)) rfl rfl rfl (by kernel_rfl)) rfl hS ?_
      refine h_take 6 rfl (by kernel_rfl) (by kernel_rfl) (by kernel_rfl) (v_ldr (cs := (RepD.cells r)) 0 rfl rfl (by kernel_rfl)) rfl hS ?_
      refine h_one 7 (by kernel_rfl) rfl hw ?_
      refine l_mupA 3 (k := r.session) (v := r) keyR mapR rfl rfl rfl rfl ?_
      refine l_nil (fun w' hw => ?_)
      have hS := hw.sel [0, 1, 2, 4] rfl (by decide)
      refine ⟨hS, ?_⟩
      refine h_done (by kernel_rfl) ?_
      refine (?_ : C _ _ _ _ _ _ _ (Own w (fps [Res.row b 56 [.map (some m)], Res.mp ekR repA m kl]) [Res.row b3 26 (RepD.cells r), Res.vec 5 1 r1_ (if r.ok then r.enc else []).length ((if r.ok then r.enc else []).map vb), Res.row b 56 [.map (some m)], Res.mp ekR repA m (putA r.session r kl), Res.row b7 26 (RepD.cells x2_)])) _ hw
      refine c_reg ?_
      refine l_as rfl ?_
      refine l_end ?_
      exact c_ret (ret1 (v := .int .i64 0) rfl rfl (fun w' hw => ⟨0, putA r.session r kl, rfl, (done0 c2 (hfe.trans c3)).1, (done0 c2 (hfe.trans c3)).2, hw.sel [2, 3] rfl (by decide)⟩))
    ·
      refine c_reg ?_
      refine l_eq rfl rfl rfl ?_
      refine l_as rfl ?_
      refine l_end ?_
      refine c_dec rfl (fun c4 => ?_) (fun c4 => ?_)
      ·
        refine c_reg ?_
        refine l_as rfl ?_
        refine l_end ?_
        exact c_ret (ret1 (v := .int .i64 9) rfl rfl (fun w' hw => ⟨9, kl, rfl, (done9 c2 (hfe.trans c4)).1, (done9 c2 (hfe.trans c4)).2, hw.sel [2, 3] rfl (by decide)⟩))
      ·
        refine c_reg ?_
        refine l_mv rfl ?_
        refine l_as rfl ?_
        refine l_end ?_
        exact c_ret (ret1 (v := .int .i64 e3_) rfl rfl (fun w' hw => ⟨e3_, kl, rfl, (doneX c2 hfe c3 c4).1, (doneX c2 hfe c3 c4).2, hw.sel [2, 3] rfl (by decide)⟩))
theorem keys_step {kl todo q1 q2 : List (Nat × RepD)} {xs : List Nat} {k : Nat} {v : RepD} (h : (xs ++ todo.map (·.1)).Perm (kl.map (·.1))) (hq : todo = q1 ++ (k, v) :: q2) : ((xs ++ [k]) ++ (q1 ++ q2).map (·.1)).Perm (kl.map (·.1)) := by
  refine List.Perm.trans ?_ h
  rw [hq, List.append_assoc]
  refine List.Perm.append_left _ ?_
  rw [List.map_append, List.map_append, List.map_cons]
  exact (List.perm_middle (l₁ := q1.map (·.1)) (l₂ := q2.map (·.1)) (a := k)).symm
theorem keys_lt {kl todo q1 q2 : List (Nat × RepD)} {xs : List Nat} {k : Nat} {v : RepD} (h : (xs ++ todo.map (·.1)).Perm (kl.map (·.1))) (hq : todo = q1 ++ (k, v) :: q2) : xs.length < kl.length := by
  have := h.length_eq
  rw [hq] at this
  simp at this; omega
theorem dkeysSeq (sb m : Nat) (kl : List (Nat × RepD)) : SeqC Try.prog 29 [.pointer (some ⟨sb, 0, none⟩)] (fun x : Nat => Value.int .u64 (x : Nat)) (fun xs => xs.Perm (kl.map (·.1))) kl.length [Res.row sb 54 [.map (some m)], Res.mp ekR repA m kl] := by
  intro ly J L0 w Y hJ hin
  refine fn_enter (args := [.func (.yield ly) #[] #[], .pointer (some ⟨sb, 0, none⟩)]) Try.func29 rfl Try.ntmps29 rfl (show Own w (fps ([Res.row sb 54 [.map (some m)], Res.mp ekR repA m kl] ++ L0)) (Res.row sb 54 [.map (some m)] :: Res.mp ekR repA m kl :: L0) w from hin) ?_
  refine c_reg ?_
  refine l_ldo 0 (v := .map (some m)) rfl rfl rfl (by kernel_rfl) rfl ?_
  refine l_rangeA 1 mapR rfl rfl rfl (fun r5 => ?_)
  refine l_end ?_
  refine c_block ?_
  refine c_loop3 (fun (todo : List (Nat × RepD)) (xs : List Nat) (Lr : List Res) => [(0, .func (.yield ly) #[] #[]), (5, .pointer (some ⟨r5, 0, none⟩))]) (fun (todo : List (Nat × RepD)) (xs : List Nat) (Lr : List Res) => (xs ++ todo.map (·.1)).Perm (kl.map (·.1)) ∧ J xs Lr) (fun (todo : List (Nat × RepD)) (xs : List Nat) (Lr : List Res) => (Res.row sb 54 [.map (some m)] :: Res.rg ekR repA m r5 kl todo :: Lr)) (fun (todo : List (Nat × RepD)) (xs : List Nat) (Lr : List Res) => todo.length) (fun w' hw => ⟨kl, [], L0, ⟨rfl, rfl, trivial⟩, ⟨.refl _, hJ⟩, hw⟩) (fun todo xs Lr g hΦ => ?_)
  have hxp := hΦ.1
  have hJx := hΦ.2
  refine c_reg ?_
  refine l_nextA 1 rfl rfl rfl (fun hq0 => ?_) (fun q1 k v q2 hq1 => ?_)
  ·
    refine l_ext (vs := [.bool false]) rfl rfl rfl ?_
    refine l_end ?_
    refine c_seq ?_
    refine c_no rfl ?_
    exact c_exit rfl (ret0 rfl (fun w' hw => ⟨xs, Lr, (by rw [hq0] at hxp; simpa using hxp), hJx, (Own.rgEnd 1 hw rfl)⟩))
  ·
    refine l_ext (vs := [.bool true, .int .u64 (k : Nat), .agg (RepD.cells v).toArray]) rfl rfl rfl ?_
    refine l_end ?_
    refine c_seq ?_
    refine c_yes rfl ?_
    refine c_skipC ?_
    refine c_block ?_
    refine c_reg ?_
    refine l_entryA 1 rfl rfl rfl ?_
    refine l_ext (vs := [.int .u64 (k : Nat), .agg (RepD.cells v).toArray]) rfl rfl rfl ?_
    refine l_as rfl ?_
    refine l_end ?_
    refine c_regIs ?_
    refine i_val rfl (v_mv) ?_
    refine i_val rfl (v_mv) ?_
    refine i_yield [Res.row sb 54 [.map (some m)], Res.rg ekR repA m r5 kl (q1 ++ q2)] k Y rfl rfl hJx (keys_lt hxp hq1) rfl (fun Ly1_ hJLy1_ => ?_)
    refine i_val rfl (v_not (b := true) rfl) ?_
    refine i_end ?_
    refine c_no rfl ?_
    exact c_skip (fun w' hw => ⟨q1 ++ q2, xs ++ [k], Ly1_, ⟨rfl, rfl, trivial⟩, ⟨keys_step hxp hq1, hJLy1_⟩, hw, (by rw [hq1, List.length_append, List.length_append, List.length_cons]; omega)⟩)
theorem dkeys_s (m : Nat) (kl : List (Nat × RepD)) (w : World) (hin : Own w (fps [Res.mp ekR repA m kl]) [Res.mp ekR repA m kl] w) : Rets Try.prog 21 #[.map (some m)] w fun u_ w' => ∃ (b : Nat), u_ = .func (.func 29) #[] #[.pointer (some ⟨b, 0, none⟩)] ∧ Own w (fps [Res.mp ekR repA m kl]) [Res.mp ekR repA m kl, Res.row b 54 [.map (some m)]] w' := by
  refine fn_enter (args := [.map (some m)]) Try.func21 rfl Try.ntmps21 rfl (show Own w (fps [Res.mp ekR repA m kl]) [Res.mp ekR repA m kl] w from hin) ?_
  refine c_reg ?_
  refine l_box rfl rfl (fun b1 => ?_)
  refine l_as rfl ?_
  refine l_end ?_
  refine c_reg ?_
  refine l_fn (va := []) (vb := [.pointer (some ⟨b1, 0, none⟩)]) rfl rfl rfl ?_
  refine l_as rfl ?_
  refine l_end ?_
  exact c_ret (ret1 (v := .func (.func 29) #[] #[.pointer (some ⟨b1, 0, none⟩)]) rfl rfl (fun w' hw => ⟨b1, rfl, hw⟩))
theorem appSeq_u {Sx : List Nat → Prop} {N : Nat} {Ls : List Res} (sg : FuncId) (lb : List Value) (hcall : callable Try.prog sg = true) (hseq : SeqC Try.prog sg lb (fun x => .int .u64 (x : Nat)) Sx N Ls) (hN : N ≤ 1000000000) (w : World) (hin : Own w (fps Ls) Ls w) : Rets Try.prog 37 #[.slice none 0 0, .func (.func sg) #[] lb.toArray] w fun u_ w' => ∃ (v : Value) (xs : List Nat), u_ = v ∧ Sx xs ∧ Own w (fps Ls) (Ls ++ [Res.vec 23 1 v xs.length (xs.flatMap U1)]) w' := by
  refine fn_enterR (args := [.slice none 0 0, .func (.func sg) #[] lb.toArray]) Try.func37 rfl Try.ntmps37 rfl rfl rfl (show Own w (fps Ls) Ls w from hin) ?_
  refine l_box rfl rfl (fun b => ?_)
  refine l_as rfl ?_
  refine l_nil (fun w1 hw => ?_)
  refine (?_ : CL _ _ _ _ _ _ (Own w (fps Ls) (Ls ++ [Res.row b 58 [.slice none 0 0]]))) w1 hw
  refine l_mv rfl ?_
  refine l_nil (fun w2 hw => ?_)
  have hw2 := own_nil hw 23 1
  rw [List.append_assoc] at hw2
  refine rf_rule (enc := (fun x => .int .u64 (x : Nat))) (p := 7) (q := 5) (Ju := fun pre L => ∃ v, L = [Res.row b 58 [v], Res.vec 23 1 v pre.length (pre.flatMap U1)]) rfl hcall hseq ⟨.slice none 0 0, rfl⟩ hw2 rfl rfl rfl ?_ ?_ ?_
  · intro x w
    exact (l_as rfl (l_nil (fun w' hw' => ⟨rfl, hw'⟩)) : CL _ _ _ _ _ _ (fun w' => w' = w)) w rfl
  · rintro pre x L w ⟨v, rfl⟩ hlen
    refine l_ldo 0 (v := v) rfl rfl rfl (by kernel_rfl) rfl ?_
    refine l_mv rfl ?_
    refine l_bsl (e := 23) (sz := 1) (vs := [.int .u64 (x : Nat)]) (by kernel_rfl) rfl rfl (by simp [Value.cells]) (by decide) rfl (fun b10 => ?_)
    refine l_appF (g := U1) (sz := 1) (by' := 8) (fun _ => rfl) (l := pre) (l' := [x]) (by simp [cell1, U1]) 1 (by kernel_rfl) rfl rfl rfl (fun w' hw' => Vec.sl (Own.holds hw' 2 _ rfl)) (by first | omega | (simp; omega)) (by decide) rfl (fun v11 => ?_)
    refine l_haveO (fun w' hw => Own.cell1Vec (i := 1) rfl hw) (fun hc1_ => ?_)
    refine l_st (cs := [v]) 0 rfl rfl rfl (by kernel_rfl) hc1_ (Nat.le_of_ble_eq_true rfl) ?_
    exact l_nil (fun w' hw => ⟨_, ⟨_, rfl⟩, hw.sel [0, 1] rfl (by decide)⟩)
  · rintro xs L' D w' hS ⟨v, rfl⟩ hO a ha
    have hO2 := hO.perm (List.Perm.cons _ (List.perm_append_comm))
    refine rf_end (v := v) rfl ?_ hO2 (fun w'' hO3 => ⟨v, xs, rfl, hS, ?_⟩) a ha
    · exact i_val rfl (v_ldo 1 (v := v) rfl rfl rfl (by kernel_rfl)) (i_val rfl v_as (i_nil (fun w' hw => ⟨rfl, hw⟩)))
    · exact (Own.tail hO3).perm (List.perm_append_comm (l₁ := [_]))
theorem collect_kr (b m : Nat) (kl : List (Nat × RepD)) (w : World) (hl : kl.length ≤ 1000000000) (hin : Own w (fps [Res.row b 54 [.map (some m)], Res.mp ekR repA m kl]) [Res.row b 54 [.map (some m)], Res.mp ekR repA m kl] w) : Rets Try.prog 27 #[.func (.func 29) #[] #[.pointer (some ⟨b, 0, none⟩)]] w fun u_ w' => ∃ (v' : Value) (l' : List Nat), u_ = v' ∧ l'.Perm (kl.map (·.1)) ∧ Own w (fps [Res.row b 54 [.map (some m)], Res.mp ekR repA m kl]) [Res.row b 54 [.map (some m)], Res.mp ekR repA m kl, Res.vec 23 1 v' l'.length (l'.flatMap U1)] w' := by
  refine fn_enter (args := [.func (.func 29) #[] #[.pointer (some ⟨b, 0, none⟩)]]) Try.func27 rfl Try.ntmps27 rfl (show Own w (fps [Res.row b 54 [.map (some m)], Res.mp ekR repA m kl]) [Res.row b 54 [.map (some m)], Res.mp ekR repA m kl] w from hin) ?_
  refine c_reg ?_
  refine l_as rfl ?_
  refine l_end ?_
  refine c_reg ?_
  refine l_mv rfl ?_
  refine l_call (by kernel_rfl) rfl rfl (fun w' hw => ?_)
  refine (appSeq_u 29 [.pointer (some ⟨b, 0, none⟩)] (by kernel_rfl) (dkeysSeq b m kl) (by omega) w' (hw.give [0, 1] rfl (by decide))).mono ?_
  rintro v1_ w1 ⟨_, xs2_, rfl, hf1_1, hO⟩
  refine (?_ : CL _ _ _ _ _ _ (Own w (fps [Res.row b 54 [.map (some m)], Res.mp ekR repA m kl]) [Res.row b 54 [.map (some m)], Res.mp ekR repA m kl, Res.vec 23 1 v1_ xs2_.length (xs2_.flatMap U1)])) w1 (hw.frameL [0, 1] rfl hO)
  refine l_as rfl ?_
  refine l_end ?_
  exact c_ret (ret1 (v := v1_) rfl rfl (fun w' hw => ⟨v1_, xs2_, rfl, hf1_1, hw⟩))
theorem sorted_kr (b m : Nat) (kl : List (Nat × RepD)) (w : World) (hl : kl.length ≤ 1000000000) (hin : Own w (fps [Res.row b 54 [.map (some m)], Res.mp ekR repA m kl]) [Res.row b 54 [.map (some m)], Res.mp ekR repA m kl] w) : Rets Try.prog 20 #[.func (.func 29) #[] #[.pointer (some ⟨b, 0, none⟩)]] w fun u_ w' => ∃ (v' : Value) (l' : List Nat), u_ = v' ∧ l'.Perm (kl.map (·.1)) ∧ l'.Pairwise (fun x y => x ≤ y) ∧ Own w (fps [Res.row b 54 [.map (some m)], Res.mp ekR repA m kl]) [Res.row b 54 [.map (some m)], Res.mp ekR repA m kl, Res.vec 23 1 v' l'.length (l'.flatMap U1)] w' := by
  refine fn_enter (args := [.func (.func 29) #[] #[.pointer (some ⟨b, 0, none⟩)]]) Try.func20 rfl Try.ntmps20 rfl (show Own w (fps [Res.row b 54 [.map (some m)], Res.mp ekR repA m kl]) [Res.row b 54 [.map (some m)], Res.mp ekR repA m kl] w from hin) ?_
  refine c_reg ?_
  refine l_as rfl ?_
  refine l_end ?_
  refine c_reg ?_
  refine l_mv rfl ?_
  refine l_call (by kernel_rfl) rfl rfl (fun w' hw => ?_)
  refine (collect_kr b m kl w' (by first | assumption | omega | (simp <;> omega) | (constructor <;> (first | omega | (simp only [LenOk]; omega) | (simp <;> omega)))) (hw.give [0, 1] rfl (by decide))).mono ?_
  rintro v'1_ w1 ⟨_, l'2_, rfl, hf1_1, hO⟩
  have hl1 : l'2_.length ≤ 1000000000 := by rw [hf1_1.length_eq, List.length_map]; exact hl
  refine (?_ : CL _ _ _ _ _ _ (Own w (fps [Res.row b 54 [.map (some m)], Res.mp ekR repA m kl]) [Res.row b 54 [.map (some m)], Res.mp ekR repA m kl, Res.vec 23 1 v'1_ l'2_.length (l'2_.flatMap U1)])) w1 (hw.frameL [0, 1] rfl hO)
  refine l_as rfl ?_
  refine l_end ?_
  refine c_reg ?_
  refine l_mv rfl ?_
  refine l_call (by kernel_rfl) rfl rfl (fun w' hw => ?_)
  refine (sort_u v'1_ l'2_ w' (by first | assumption | omega | (simp <;> omega) | (constructor <;> (first | omega | (simp only [LenOk]; omega) | (simp <;> omega)))) (hw.give [2] rfl (by decide))).mono ?_
  rintro _ w1 ⟨l'3_, rfl, hf2_1, hf2_1_1, hO⟩
  refine (?_ : CL _ _ _ _ _ _ (Own w (fps [Res.row b 54 [.map (some m)], Res.mp ekR repA m kl]) [Res.row b 54 [.map (some m)], Res.mp ekR repA m kl, Res.vec 23 1 v'1_ l'3_.length (l'3_.flatMap U1)])) w1 (hw.frameL [2] rfl hO)
  refine l_end ?_
  refine c_reg ?_
  refine l_mv rfl ?_
  refine l_as rfl ?_
  refine l_end ?_
  exact c_ret (ret1 (v := v'1_) rfl rfl (fun w' hw => ⟨v'1_, l'3_, rfl, hf2_1.trans hf1_1, hf2_1_1.imp (fun q => ole_nat.1 q), hw⟩))
theorem dall_s (b m : Nat) (kl : List (Nat × RepD)) (w : World) (hl : kl.length ≤ 1000000) (hin : Own w (fps [Res.row b 56 [.map (some m)], Res.mp ekR repA m kl]) [Res.row b 56 [.map (some m)], Res.mp ekR repA m kl] w) : Rets Try.prog 12 #[.pointer (some ⟨b, 0, none⟩)] w fun u_ w' => ∃ (v : Value) (l : List RepD) (ks : List Nat), u_ = v ∧ ks.Perm (kl.map (·.1)) ∧ ks.Pairwise (fun x y => x ≤ y) ∧ l = ks.map (fun k => (getA k kl).getD RepD.zero) ∧ Own w (fps [Res.row b 56 [.map (some m)], Res.mp ekR repA m kl]) [Res.row b 56 [.map (some m)], Res.mp ekR repA m kl, Res.vec 26 6 v l.length (l.flatMap RepD.cells)] w' := by
  refine fn_enter (args := [.pointer (some ⟨b, 0, none⟩)]) Try.func12 rfl Try.ntmps12 rfl (show Own w (fps [Res.row b 56 [.map (some m)], Res.mp ekR repA m kl]) [Res.row b 56 [.map (some m)], Res.mp ekR repA m kl] w from hin) ?_
  refine c_reg ?_
  refine l_as rfl ?_
  refine l_end ?_
  refine c_seq ?_
  refine c_reg ?_
  refine l_mv rfl ?_
  refine l_nilp (by kernel_rfl) rfl rfl rfl ?_
  refine l_end ?_
  refine c_no rfl ?_
  refine c_skipC ?_
  refine c_reg ?_
  refine l_as rfl ?_
  refine l_end ?_
  refine c_seq ?_
  refine c_reg ?_
  refine l_mv rfl ?_
  refine l_nck rfl rfl ?_
  refine l_fld (o := 0) rfl (by kernel_rfl) rfl ?_
  refine l_ldo 0 (v := .map (some m)) rfl rfl rfl (by kernel_rfl) rfl ?_
  refine l_call (by kernel_rfl) rfl rfl (fun w' hw => ?_)
  refine (dkeys_s m kl w' (hw.give [1] rfl (by decide))).mono ?_
  rintro _ w1 ⟨b1_, rfl, hO⟩
  refine (?_ : CL _ _ _ _ _ _ (Own w (fps [Res.row b 56 [.map (some m)], Res.mp ekR repA m kl]) [Res.row b 56 [.map (some m)], Res.mp ekR repA m kl, Res.row b1_ 54 [.map (some m)]])) w1 (hw.frameL [1] rfl hO)
  refine l_call (by kernel_rfl) rfl rfl (fun w' hw => ?_)
  refine (sorted_kr b1_ m kl w' (by first | assumption | omega | (simp <;> omega) | (constructor <;> (first | omega | (simp only [LenOk]; omega) | (simp <;> omega)))) (hw.give [2, 1] rfl (by decide))).mono ?_
  rintro v'2_ w1 ⟨_, l'3_, rfl, hf4_5, hf4_5_1, hO⟩
  refine (?_ : CL _ _ _ _ _ _ (Own w (fps [Res.row b 56 [.map (some m)], Res.mp ekR repA m kl]) [Res.row b 56 [.map (some m)], Res.row b1_ 54 [.map (some m)], Res.mp ekR repA m kl, Res.vec 23 1 v'2_ l'3_.length (l'3_.flatMap U1)])) w1 (hw.frameL [2, 1] rfl hO)
  refine l_lenS (len := l'3_.length) (cs := (l'3_.flatMap U1)) (by kernel_rfl) rfl (fun w' hw' => Vec.sl (Own.holds hw' 3 _ rfl)) rfl ?_
  refine l_mv rfl ?_
  refine l_end ?_
  refine c_block ?_
  refine c_loop3 (fun (i : Nat) (v : Value) (l : List RepD) => [(0, .pointer (some ⟨b, 0, none⟩)), (3, v), (13, v'2_), (14, .int .i64 (l'3_.length : Nat)), (15, .int .i64 (i : Nat))]) (fun (i : Nat) (v : Value) (l : List RepD) => i ≤ l'3_.length ∧ l = (l'3_.take i).map (fun k => (getA k kl).getD RepD.zero)) (fun (i : Nat) (v : Value) (l : List RepD) => [Res.row b 56 [.map (some m)], Res.row b1_ 54 [.map (some m)], Res.mp ekR repA m kl, Res.vec 23 1 v'2_ l'3_.length (l'3_.flatMap U1), Res.vec 26 6 v l.length (l.flatMap RepD.cells)]) (fun (i : Nat) (v : Value) (l : List RepD) => l'3_.length - i) (fun w' hw => ⟨0, .slice none 0 0, [], ⟨rfl, rfl, rfl, rfl, rfl, trivial⟩, ⟨Nat.zero_le _, rfl⟩, (own_nil hw 26 6)⟩) (fun i v l g hΦ => ?_)
  have hi := hΦ.1
  have hlI := hΦ.2
  have hkl : l'3_.length = kl.length := by rw [hf4_5.length_eq, List.length_map]
  have hll : l.length ≤ 1000000 := by rw [hlI, List.length_map, List.length_take]; omega
  refine c_reg ?_
  refine l_lss rfl rfl rfl ?_
  refine l_end ?_
  refine c_seq ?_
  refine c_dec rfl (fun c2 => ?_) (fun c2 => ?_)
  ·
    refine c_skipC ?_
    refine c_seq ?_
    refine c_block ?_
    refine c_reg ?_
    refine l_idxS (j := i) (sz := 1) (len := l'3_.length) (cs := (l'3_.flatMap U1)) rfl rfl (by kernel_rfl) (fun w' hw' => Vec.sl (Own.holds hw' 3 _ rfl)) rfl (by omega) rfl ?_
    refine l_ldS (v := v'2_) (off := offV v'2_ + i * 1) (i * 1 + 0) (cs := (l'3_.flatMap U1)) rfl (by omega) (fun w' hw' => Vec.sl (Own.holds hw' 3 _ rfl)) (flat_at (sz := 1) (fun _ => rfl) (nth_some (by omega)) (i := 0) rfl) (by kernel_rfl) rfl ?_
    refine l_as rfl ?_
    refine l_end ?_
    refine c_last ?_
    refine l_mv rfl ?_
    refine l_mv rfl ?_
    refine l_nck rfl rfl ?_
    refine l_fld (o := 0) rfl (by kernel_rfl) rfl ?_
    refine l_ldo 0 (v := .map (some m)) rfl rfl rfl (by kernel_rfl) rfl ?_
    refine l_mv rfl ?_
    refine l_lkA (k := (nth l'3_ i)) (kv := kl) (zv := RepD.zero) keyR mapR zeroR rfl rfl (fun w' hw' => Own.holds hw' 2 _ rfl) rfl ?_
    refine l_bsl (e := 26) (sz := 6) (vs := [.agg (RepD.cells ((getA (nth l'3_ i) kl).getD RepD.zero)).toArray]) (by kernel_rfl) rfl rfl (by simp [Value.cells, RepD.cells]) (by decide) rfl (fun b26 => ?_)
    refine l_appF (g := RepD.cells) (sz := 6) (by' := 48) (fun _ => rfl) (l := l) (l' := [((getA (nth l'3_ i) kl).getD RepD.zero)]) (by simp [cell1, RepD.cells, vu]) 4 (by kernel_rfl) rfl rfl rfl (fun w' hw' => Vec.sl (Own.holds hw' 5 _ rfl)) (by first | omega | (simp; omega)) (by decide) rfl (fun v27 => ?_)
    refine l_as rfl ?_
    refine l_end ?_
    refine c_last ?_
    refine l_add rfl rfl (wi64 (by omega)) rfl ?_
    refine l_mv rfl ?_
    exact l_nil (fun w' hw => ⟨i + 1, v27, l ++ [(getA (nth l'3_ i) kl).getD RepD.zero], ⟨rfl, rfl, rfl, rfl, rfl, trivial⟩, ⟨by omega, by rw [hlI, take_nth (by omega), List.map_append]; rfl⟩, hw.sel [0, 1, 2, 3, 4] rfl (by decide), (by omega)⟩)
  ·
    refine c_exitC rfl ?_
    refine c_reg ?_
    refine l_mv rfl ?_
    refine l_as rfl ?_
    refine l_end ?_
    exact c_ret (ret1 (v := v) rfl rfl (fun w' hw => ⟨v, l, l'3_, rfl, hf4_5, hf4_5_1, (by rw [hlI, List.take_of_length_le (by omega)]), hw.sel [0, 2, 4] rfl (by decide)⟩))
end Go.Proofs.Ytjnnobekbgpaaaa
