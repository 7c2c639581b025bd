/-
  THE WALKS OF the last replies, kept in a map.
-/
import Derived.Test.YthincafbmpialaaGreatLeC
import Derived.Test.YthincafbmpialaaGreatSortU4
import Derived.Test.YthincafbmpialaaGreatFwG
import Derived.Test.YthincafbmpialaaGreatQuotaP
set_option linter.unusedVariables false
set_option maxRecDepth 10000
namespace Go.Proofs.YthincafbmpialaaGreat
open Go Go.Sc Go.Proofs

def repA (l : RepD) : Value := .agg l.cells.toArray
def ekR (n : Nat) : Value := .int .u64 n
def RepD.zero : RepD := ⟨0, 0, 0, 0, 0, 0⟩
instance : Inhabited RepD := ⟨RepD.zero⟩
theorem keyR : KeyL Tryz.prog 28 ekR := keyL_nat (by kernel_rfl)
theorem mapR : mapT Tryz.prog 112 = some (28, 43) := by kernel_rfl
theorem zeroR : zeroT Tryz.prog 43 = some (repA RepD.zero) := by kernel_rfl
def findK (kl : List (Nat × RepD)) (s q : Nat) : RepD × Int :=
  if s = 0 ∨ q = 0 then (RepD.zero, 1) else
  match getA s kl with
  | none => if 32 ≤ kl.length then (RepD.zero, 7) else (RepD.zero, 8)
  | some r => if r.seq < q then (RepD.zero, 8) else if q < r.seq then (RepD.zero, 13) else (r, 0)
def doneE (r : RepD) (e : Int) : Int := if ¬ r.ok then 2 else if e = 8 then 0 else if e = 0 then 9 else e
def doneK (kl : List (Nat × RepD)) (r : RepD) : List (Nat × RepD) := if r.ok ∧ (findK kl r.session r.seq).2 = 8 then putA r.session r kl else kl
section
variable {kl : List (Nat × RepD)} {s q : Nat} {r : RepD}
theorem find1 (h : (((s : Nat) : Int) = ((0 : Nat) : Int)) ∨ (((q : Nat) : Int) = ((0 : Nat) : Int))) : findK kl s q = (RepD.zero, 1) := by
  unfold findK; rw [if_pos (by omega)]
theorem find7 (h : ¬ ((((s : Nat) : Int) = ((0 : Nat) : Int)) ∨ (((q : Nat) : Int) = ((0 : Nat) : Int)))) (h2 : (!(getA s kl).isSome) = true ∧ 32 ≤ ((kl.length : Nat) : Int)) : findK kl s q = (RepD.zero, 7) := by
  unfold findK
  rw [if_neg (by omega)]
  cases hg : getA s kl with
  | none => show (if 32 ≤ kl.length then _ else _) = _; rw [if_pos (by omega)]
  | some r => rw [hg] at h2; exact absurd h2.1 (by simp)
theorem find8 (h : ¬ ((((s : Nat) : Int) = ((0 : Nat) : Int)) ∨ (((q : Nat) : Int) = ((0 : Nat) : Int)))) (h2 : ¬ ((!(getA s kl).isSome) = true ∧ 32 ≤ ((kl.length : Nat) : Int))) (h3 : (!(getA s kl).isSome) = true ∨ ((((getA s kl).getD RepD.zero).seq : Nat) : Int) < ((q : Nat) : Int)) : findK kl s q = (RepD.zero, 8) := by
  unfold findK
  rw [if_neg (by omega)]
  cases hg : getA s kl with
  | none =>
    show (if 32 ≤ kl.length then _ else _) = _
    rw [if_neg fun q => h2 ⟨by rw [hg]; rfl, by omega⟩]
  | some r =>
    rw [hg, Option.getD_some] at h3
    have h3 : r.seq < q := by rcases h3 with h3 | h3; exact absurd h3 (by simp); omega
    show (if r.seq < q then _ else _) = _
    rw [if_pos h3]
theorem find_some {k : Nat} (h3 : ¬ ((!(getA s kl).isSome) = true ∨ ((((getA s kl).getD RepD.zero).seq : Nat) : Int) < ((k : Nat) : Int))) : ∃ r, getA s kl = some r ∧ ¬ r.seq < k := by
  cases hg : getA s kl with
  | none => exact absurd (.inl (by rw [hg]; rfl)) h3
  | some r => exact ⟨r, rfl, fun q => h3 (.inr (by rw [hg, Option.getD_some]; omega))⟩
theorem find13 (h : ¬ ((((s : Nat) : Int) = ((0 : Nat) : Int)) ∨ (((q : Nat) : Int) = ((0 : Nat) : Int)))) (h3 : ¬ ((!(getA s kl).isSome) = true ∨ ((((getA s kl).getD RepD.zero).seq : Nat) : Int) < ((q : Nat) : Int))) (h4 : ((q : Nat) : Int) < ((((getA s kl).getD RepD.zero).seq : Nat) : Int)) : findK kl s q = (RepD.zero, 13) := by
  obtain ⟨r, hr, h5⟩ := find_some h3
  unfold findK
  rw [if_neg (by omega), hr]
  rw [hr, Option.getD_some] at h4
  show (if r.seq < q then _ else if q < r.seq then _ else _) = _
  rw [if_neg h5, if_pos (by omega)]
theorem find0 (h : ¬ ((((s : Nat) : Int) = ((0 : Nat) : Int)) ∨ (((q : Nat) : Int) = ((0 : Nat) : Int)))) (h3 : ¬ ((!(getA s kl).isSome) = true ∨ ((((getA s kl).getD RepD.zero).seq : Nat) : Int) < ((q : Nat) : Int))) (h4 : ¬ ((q : Nat) : Int) < ((((getA s kl).getD RepD.zero).seq : Nat) : Int)) : findK kl s q = ((getA s kl).getD RepD.zero, 0) := by
  obtain ⟨r, hr, h5⟩ := find_some h3
  unfold findK
  rw [if_neg (by omega), hr]
  rw [hr, Option.getD_some] at h4
  show (if r.seq < q then _ else if q < r.seq then _ else _) = _
  rw [if_neg h5, if_neg (by omega)]; rfl
theorem done2 (h : errOf r.ok ≠ 0) (kl : List (Nat × RepD)) : 2 = doneE r (findK kl r.session r.seq).2 ∧ kl = doneK kl r := by
  have hn : ¬ r.ok := fun k => h (errOf_zero.2 k)
  unfold doneE doneK
  rw [if_pos hn, if_neg fun k => hn k.1]
  exact ⟨rfl, rfl⟩
theorem done0 (h : ¬ errOf r.ok ≠ 0) (he : (findK kl r.session r.seq).2 = 8) : 0 = doneE r (findK kl r.session r.seq).2 ∧ putA r.session r kl = doneK kl r := by
  have hn : r.ok := errOf_zero.1 (Decidable.not_not.1 h)
  unfold doneE doneK
  rw [if_neg fun k => k hn, if_pos he, if_pos ⟨hn, he⟩]
  exact ⟨rfl, rfl⟩
theorem done9 (h : ¬ errOf r.ok ≠ 0) (he : (findK kl r.session r.seq).2 = 0) : 9 = doneE r (findK kl r.session r.seq).2 ∧ kl = doneK kl r := by
  have hn : r.ok := errOf_zero.1 (Decidable.not_not.1 h)
  unfold doneE doneK
  rw [if_neg fun k => k hn, he, if_neg (by decide), if_pos rfl, if_neg (by rintro ⟨_, k⟩; cases k)]
  exact ⟨rfl, rfl⟩
theorem doneX {e : Int} (h : ¬ errOf r.ok ≠ 0) (he : (findK kl r.session r.seq).2 = e) (h8 : ¬ e = 8) (h0 : ¬ e = 0) : e = doneE r (findK kl r.session r.seq).2 ∧ kl = doneK kl r := by
  have hn : r.ok := errOf_zero.1 (Decidable.not_not.1 h)
  unfold doneE doneK
  rw [if_neg fun k => k hn, he, if_neg h8, if_neg h0, if_neg fun k => h8 k.2]
  exact ⟨rfl, rfl⟩
end
theorem dnew_s (w : World) : Rets Tryz.prog 21 #[] w fun u_ w' => ∃ (b m : Nat), u_ = .pointer (some ⟨b, 0, none⟩) ∧ Own w [] [Res.row b 114 [.map (some m)], Res.mp ekR repA m ([] : List (Nat × RepD))] w' := by
  refine fn_own Tryz.func21 rfl Tryz.ntmps21 (Own.start w) ?_
  refine c_reg (l_as rfl (l_end (c_reg (l_mkmapA (α := RepD) ekR repA rfl rfl (fun m1 => l_bld (cs := [.map (some m1)]) (z := [.map none]) (pl := [(0, 1)]) (by kernel_rfl) (by kernel_rfl) rfl (l_box rfl rfl (fun b3 => l_as rfl (l_end ?_))))))))
  exact c_ret (ret1 (v := .pointer (some ⟨b3, 0, none⟩)) rfl rfl (fun w' hw => ⟨b3, m1, rfl, hw.sel [1, 0] rfl (by decide)⟩))
theorem dfind_s {S : List Nat} (b m : Nat) (kl : List (Nat × RepD)) (s q : Nat) (w : World) (hin : Own w S [Res.row b 114 [.map (some m)], Res.mp ekR repA m kl] w) : Rets Tryz.prog 26 #[.pointer (some ⟨b, 0, none⟩), Vn s, Vn q] w fun u_ w' => ∃ (x : RepD) (e : Int), u_ = .tuple #[.agg (RepD.cells x).toArray, Vi e] ∧ findK kl s q = (x, e) ∧ Own w S [Res.row b 114 [.map (some m)], Res.mp ekR repA m kl] w' := by
  refine fn_own Tryz.func26 rfl Tryz.ntmps26 hin ?_
  refine c_reg (l_new (v := .agg #[Vn 0, Vn 0, Vi 0, Vn 0, Vi 0, Vi 0]) (by kernel_rfl) rfl (fun b6 => l_as rfl (l_end (c_seq (c_reg (l_mv rfl (l_nilp (by kernel_rfl) rfl rfl rfl (l_mv rfl (l_on rfl rfl (l_mv rfl (l_on rfl rfl (l_eq rfl rfl rfl ?_))))))))))))
  refine l_pickF rfl rfl (l_mv rfl (l_bor (q := ((s : Nat) : Int) = ((0 : Nat) : Int)) 2 6 [18, 17] (((q : Nat) : Int) = ((0 : Nat) : Int)) rfl rfl rfl rfl rfl rfl trivial rfl (fun h1_6 => ?_) (fun g1_9 => ?_)))
  ·
   refine l_on rfl (gF h1_6) (l_mv rfl (l_on rfl (gF h1_6) (l_eq rfl rfl rfl ?_)))
   exact l_gp rfl (fun _ hw => hw)
  refine l_end (c_dec rfl (fun c1 => ?_) (fun c1 => ?_))
  ·
   refine c_reg (l_bld (cs := [Vn 0, Vn 0, Vi 0, Vn 0, Vi 0, Vi 0]) (z := [Vn 0, Vn 0, Vi 0, Vn 0, Vi 0, Vi 0]) (pl := [(0, 1), (1, 1), (2, 1), (3, 1), (4, 1), (5, 1)]) (by kernel_rfl) (by kernel_rfl) rfl (a_stN 2 rfl rfl rfl (allc rfl) rfl (l_as rfl (l_end ?_))))
   exact c_ret (retc2 (cs := [Vn 0, Vn 0, Vi 0, Vn 0, Vi 0, Vi 0]) (v := Vi 1) rfl rfl rfl (by kernel_rfl) (Own.rowCells (i := 2) rfl) (fun w' hw => ⟨RepD.zero, 1, rfl, find1 c1, hw.sel [0, 1] rfl (by decide)⟩))
  ·
   refine c_skipC (c_reg (l_mv rfl (l_nck rfl rfl (a_fld (o := 0) rfl rfl (a_ldo 0 (v := .map (some m)) rfl rfl rfl rfl (l_mv rfl (l_lk2A (k := s) (kv := kl) (zv := RepD.zero) keyR mapR zeroR rfl rfl (fun w' hw' => Own.holds hw' 1 _ rfl) rfl (l_mv rfl (l_ext (vs := [.agg (RepD.cells ((getA s kl).getD RepD.zero)).toArray, .bool ((getA s kl).isSome)]) rfl rfl rfl (l_ext (vs := [.agg (RepD.cells ((getA s kl).getD RepD.zero)).toArray, .bool ((getA s kl).isSome)]) rfl rfl rfl (l_new (v := .agg #[Vn 0, Vn 0, Vi 0, Vn 0, Vi 0, Vi 0]) (by kernel_rfl) rfl (fun b8 => a_stN 3 rfl rfl rfl (allc rfl) rfl ?_))))))))))))
   refine l_as rfl (l_end (c_seq (c_block (c_reg (l_mv rfl (l_not (b := (getA s kl).isSome) rfl rfl (l_mv rfl (l_band (q := (!((getA s kl).isSome)) = true) 6 2 [39, 38, 37, 36, 35, 34] (32 ≤ ((kl.length : Nat) : Int)) rfl rfl (bool_dec _) rfl rfl rfl trivial rfl (fun h4_2 => ?_) (fun g4_9 => ?_)))))))))
   ·
    refine l_on rfl (bT h4_2) (l_mv rfl (l_on rfl (bT h4_2) (l_nck rfl rfl (l_on rfl (bT h4_2) (a_fld (o := 0) rfl rfl (l_on rfl (bT h4_2) (a_ldo 0 (v := .map (some m)) rfl rfl rfl rfl (l_on rfl (bT h4_2) (l_mlenA ekR repA (kv := kl) mapR rfl (fun w' hw' => Own.holds hw' 1 _ rfl) rfl (l_on rfl (bT h4_2) (l_geq rfl rfl rfl ?_)))))))))))
    exact l_gp rfl (fun _ hw => hw)
   refine l_as rfl (l_end (c_dec rfl (fun c2 => ?_) (fun c2 => ?_)))
   ·
    refine c_reg (l_bld (cs := [Vn 0, Vn 0, Vi 0, Vn 0, Vi 0, Vi 0]) (z := [Vn 0, Vn 0, Vi 0, Vn 0, Vi 0, Vi 0]) (pl := [(0, 1), (1, 1), (2, 1), (3, 1), (4, 1), (5, 1)]) (by kernel_rfl) (by kernel_rfl) rfl (a_stN 2 rfl rfl rfl (allc rfl) rfl (l_as rfl (l_end ?_))))
    exact c_ret (retc2 (cs := [Vn 0, Vn 0, Vi 0, Vn 0, Vi 0, Vi 0]) (v := Vi 7) rfl rfl rfl (by kernel_rfl) (Own.rowCells (i := 2) rfl) (fun w' hw => ⟨RepD.zero, 7, rfl, find7 c1 c2, hw.sel [0, 1] rfl (by decide)⟩))
   ·
    refine c_reg (l_mv rfl (l_not (b := (getA s kl).isSome) rfl rfl (l_mv rfl (l_bor (q := (!((getA s kl).isSome)) = true) 4 2 [49, 48, 47, 46] (((((getA s kl).getD RepD.zero).seq : Nat) : Int) < ((q : Nat) : Int)) rfl rfl (bool_dec _) rfl rfl rfl trivial rfl (fun h6_2 => ?_) (fun g6_7 => ?_)))))
    ·
     refine l_on rfl (bF h6_2) (l_mv rfl (l_on rfl (bF h6_2) (a_fld (o := 1) rfl rfl (l_on rfl (bF h6_2) (a_ldo 3 (v := Vn (((getA s kl).getD RepD.zero).seq)) rfl rfl rfl rfl (l_on rfl (bF h6_2) (l_gtr rfl rfl rfl ?_)))))))
     exact l_gp rfl (fun _ hw => hw)
    refine l_as rfl (l_end (c_dec rfl (fun c3 => ?_) (fun c3 => ?_)))
    ·
     refine c_reg (l_bld (cs := [Vn 0, Vn 0, Vi 0, Vn 0, Vi 0, Vi 0]) (z := [Vn 0, Vn 0, Vi 0, Vn 0, Vi 0, Vi 0]) (pl := [(0, 1), (1, 1), (2, 1), (3, 1), (4, 1), (5, 1)]) (by kernel_rfl) (by kernel_rfl) rfl (a_stN 2 rfl rfl rfl (allc rfl) rfl (l_as rfl (l_end ?_))))
     exact c_ret (retc2 (cs := [Vn 0, Vn 0, Vi 0, Vn 0, Vi 0, Vi 0]) (v := Vi 8) rfl rfl rfl (by kernel_rfl) (Own.rowCells (i := 2) rfl) (fun w' hw => ⟨RepD.zero, 8, rfl, find8 c1 c2 c3, hw.sel [0, 1] rfl (by decide)⟩))
    ·
     refine c_reg (l_mv rfl (a_fld (o := 1) rfl rfl (a_ldo 3 (v := Vn (((getA s kl).getD RepD.zero).seq)) rfl rfl rfl rfl (l_lss rfl rfl rfl (l_as rfl (l_end (c_dec rfl (fun c4 => ?_) (fun c4 => ?_))))))))
     ·
      refine c_reg (l_bld (cs := [Vn 0, Vn 0, Vi 0, Vn 0, Vi 0, Vi 0]) (z := [Vn 0, Vn 0, Vi 0, Vn 0, Vi 0, Vi 0]) (pl := [(0, 1), (1, 1), (2, 1), (3, 1), (4, 1), (5, 1)]) (by kernel_rfl) (by kernel_rfl) rfl (a_stN 2 rfl rfl rfl (allc rfl) rfl (l_as rfl (l_end ?_))))
      exact c_ret (retc2 (cs := [Vn 0, Vn 0, Vi 0, Vn 0, Vi 0, Vi 0]) (v := Vi 13) rfl rfl rfl (by kernel_rfl) (Own.rowCells (i := 2) rfl) (fun w' hw => ⟨RepD.zero, 13, rfl, find13 c1 c3 c4, hw.sel [0, 1] rfl (by decide)⟩))
     ·
      refine c_skipC (c_reg (a_ldr (cs := (RepD.cells ((getA s kl).getD RepD.zero))) 3 rfl rfl rfl (a_stN 2 rfl rfl rfl (allc rfl) rfl (l_as rfl (l_end ?_)))))
      exact c_ret (retc2 (cs := (RepD.cells ((getA s kl).getD RepD.zero))) (v := Vi 0) rfl rfl rfl (by kernel_rfl) (Own.rowCells (i := 2) rfl) (fun w' hw => ⟨(getA s kl).getD RepD.zero, 0, rfl, find0 c1 c3 c4, hw.sel [0, 1] rfl (by decide)⟩))
theorem ddone_s {S : List Nat} (b m : Nat) (kl : List (Nat × RepD)) (r : RepD) (w : World) (hx : r.wf) (hin : Own w S [Res.row b 114 [.map (some m)], Res.mp ekR repA m kl] w) : Rets Tryz.prog 28 #[.pointer (some ⟨b, 0, none⟩), .agg (RepD.cells r).toArray] w fun u_ w' => ∃ (e : Int) (kl' : List (Nat × RepD)), u_ = Vi e ∧ e = doneE r (findK kl r.session r.seq).2 ∧ kl' = doneK kl r ∧ Own w S [Res.row b 114 [.map (some m)], Res.mp ekR repA m kl'] w' := by
  refine fn_own Tryz.func28 rfl Tryz.ntmps28 hin ?_
  refine c_reg (l_box rfl rfl (fun b3 => l_as rfl (l_end (c_seq (c_reg (l_mv rfl (l_nilp (by kernel_rfl) rfl rfl rfl (l_end (c_no rfl (c_skipC (c_seq (c_reg ?_))))))))))))
  refine a_ldr (cs := (RepD.cells r)) 2 rfl rfl rfl (a_call rfl rfl (fun w' hw => (msgReply_s r w' ‹_›).mono ?_))
  rintro _ w1 ⟨r1_, rfl, hO⟩
  refine (?_ : CL _ _ _ _ _ _ (Own w S [Res.row b 114 [.map (some m)], Res.mp ekR repA m kl, Res.row b3 43 (RepD.cells r), Res.vec 5 1 r1_ (if r.ok then r.enc else []).length ((if r.ok then r.enc else []).map vb)])) w1 (hw.frame0 hO)
  refine l_mv rfl (l_ext (vs := [r1_, Vi (errOf r.ok)]) rfl rfl rfl (l_ext (vs := [r1_, Vi (errOf r.ok)]) rfl rfl rfl (l_as rfl (l_as rfl (l_end (c_reg (l_mv rfl (l_ne rfl rfl rfl (l_end (c_dec rfl (fun c2 => ?_) (fun c2 => ?_)))))))))))
  ·
   refine c_reg (l_as rfl (l_end ?_))
   exact c_ret (ret1 (v := Vi 2) rfl rfl (fun w' hw => ⟨2, kl, rfl, (done2 c2 kl).1, (done2 c2 kl).2, hw.sel [0, 1] rfl (by decide)⟩))
  ·
   refine c_skipC (c_reg (l_mv rfl (a_fld (o := 0) rfl rfl (a_ldo 2 (v := Vn r.session) rfl rfl rfl rfl (a_fld (o := 1) rfl rfl (a_ldo 2 (v := Vn r.seq) rfl rfl rfl rfl (a_call rfl rfl (fun w' hw => (dfind_s b m kl r.session r.seq w' (hw.give [0, 1] rfl (by decide))).mono ?_))))))))
   rintro _ w1 ⟨x2_, e3_, rfl, hf6_5, hO⟩
   have hfe : (findK kl r.session r.seq).2 = e3_ := congrArg Prod.snd hf6_5
   refine (?_ : CL _ _ _ _ _ _ (Own w S [Res.row b3 43 (RepD.cells r), Res.vec 5 1 r1_ (if r.ok then r.enc else []).length ((if r.ok then r.enc else []).map vb), Res.row b 114 [.map (some m)], Res.mp ekR repA m kl])) w1 (hw.frameL [0, 1] rfl hO)
   refine l_mv rfl (l_ext (vs := [.agg (RepD.cells x2_).toArray, Vi e3_]) rfl rfl rfl (l_ext (vs := [.agg (RepD.cells x2_).toArray, Vi e3_]) rfl rfl rfl (l_new (v := .agg #[Vn 0, Vn 0, Vi 0, Vn 0, Vi 0, Vi 0]) (by kernel_rfl) rfl (fun b7 => a_stN 4 rfl rfl rfl (allc rfl) rfl (l_as rfl (l_end (c_reg (l_mv rfl (l_end (c_block (c_reg (l_eq rfl rfl rfl ?_))))))))))))
   refine l_as rfl (l_end (c_dec rfl (fun c3 => ?_) (fun c3 => ?_)))
   ·
    refine c_seq (c_heldo [0, 1, 2, 4] rfl (by decide) (by kernel_rfl) (fun w' hw hS => g_tk 0 rfl (v_mv) hS (g_tk 1 rfl (v_nck rfl) hS (g_tk 2 rfl (w_fld (o := 0) rfl) hS (g_tk 3 rfl (w_ldo 2 (v := .map (some m)) rfl rfl rfl) hS (g_tk 4 rfl (w_fld (o := 0) rfl) hS (g_tk 5 rfl (w_ldo 0 (v := Vn r.session) rfl rfl rfl) hS (g_tk 6 rfl (w_ldr (cs := (RepD.cells r)) 0 rfl rfl) hS (g_one 7 rfl hw (l_mupA 3 (k := r.session) (v := r) keyR mapR rfl rfl rfl rfl (l_nilH [0, 1, 2, 4] rfl (by decide) (fun w' hw hS => g_done ?_))))))))))))
    refine (?_ : C _ _ _ _ _ _ _ (Own w S [Res.row b3 43 (RepD.cells r), Res.vec 5 1 r1_ (if r.ok then r.enc else []).length ((if r.ok then r.enc else []).map vb), Res.row b 114 [.map (some m)], Res.mp ekR repA m (putA r.session r kl), Res.row b7 43 (RepD.cells x2_)])) _ hw
    refine c_reg (l_as rfl (l_end ?_))
    exact c_ret (ret1 (v := Vi 0) rfl rfl (fun w' hw => ⟨0, putA r.session r kl, rfl, (done0 c2 (hfe.trans c3)).1, (done0 c2 (hfe.trans c3)).2, hw.sel [2, 3] rfl (by decide)⟩))
   ·
    refine c_reg (l_eq rfl rfl rfl (l_as rfl (l_end (c_dec rfl (fun c4 => ?_) (fun c4 => ?_)))))
    ·
     refine c_reg (l_as rfl (l_end ?_))
     exact c_ret (ret1 (v := Vi 9) rfl rfl (fun w' hw => ⟨9, kl, rfl, (done9 c2 (hfe.trans c4)).1, (done9 c2 (hfe.trans c4)).2, hw.sel [2, 3] rfl (by decide)⟩))
    ·
     refine c_reg (l_mv rfl (l_as rfl (l_end ?_)))
     exact c_ret (ret1 (v := Vi e3_) rfl rfl (fun w' hw => ⟨e3_, kl, rfl, (doneX c2 hfe c3 c4).1, (doneX c2 hfe c3 c4).2, hw.sel [2, 3] rfl (by decide)⟩))
end Go.Proofs.YthincafbmpialaaGreat
