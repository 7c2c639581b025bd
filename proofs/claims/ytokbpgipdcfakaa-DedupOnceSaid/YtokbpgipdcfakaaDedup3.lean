/-
  THE WALKS OF the reference's ReplyOK, Find and Done.
-/
import Derived.Test.YtokbpgipdcfakaaDedup2
import Derived.Test.YtokbpgipdcfakaaFwB
set_option linter.unusedVariables false
set_option maxRecDepth 10000
namespace Go.Proofs.Ytokbpgipdcfakaa
open Go Go.Sc Go.Proofs

abbrev TRefc : Nat := 42
def flatR (rs : List RepD) : List Value := rs.flatMap RepD.cells
theorem flatR_len (rs : List RepD) : (flatR rs).length = rs.length * 6 := flat_len (g := RepD.cells) (sz := 6) (fun _ => rfl) rs
attribute [local simp] repCells_length repV
/-- The reference's calls at c, kept in the slice v. -/
def Res.refc (c : Nat) (v : Value) (rs : List RepD) : Res := (Res.row c TRefc [v]).both (Res.sl v rs.length (flatR rs))
theorem find_at {α : Type} {p : α → Bool} : ∀ {l : List α} {k : Nat} {x : α}, (∀ y ∈ l.take k, ¬ p y) → l[k]? = some x → p x → l.find? p = some x
  | y :: l, 0, x, _, hx, hp => by simp at hx; subst hx; simp [List.find?_cons, hp]
  | y :: l, k + 1, x, hn, hx, hp => by
    have hy : p y = false := by have := hn y (by simp); simpa using this
    simp only [List.find?_cons, hy]
    exact find_at (k := k) (fun z hz => hn z (by simp [hz])) (by simpa using hx) hp
theorem take_at {α : Type} {l : List α} {k : Nat} {x : α} (hx : l[k]? = some x) : l.take (k + 1) = l.take k ++ [x] := by
  rw [List.take_add_one, hx]; rfl

theorem replyOK_spec (r : RepD) (w : World) : Rets Try.prog 11 #[repV r] w fun v w' => v = .bool (decide r.ok) ∧ Own w [] [] w' := by
  refine fn_enter (args := [repV r]) Try.func11 rfl Try.ntmps11 rfl (Own.start w) ?_
  refine c_reg ?_
  refine l_box rfl rfl (fun b1 => ?_)
  refine l_as rfl ?_
  refine l_end ?_
  refine c_reg ?_
  refine l_fld (o := 2) rfl (by kernel_rfl) rfl ?_
  refine l_ldo 0 rfl rfl rfl (by kernel_rfl) rfl ?_
  refine l_geq rfl rfl rfl ?_
  refine l_mv rfl ?_
  refine l_band 3 3 [9, 8, 7] ((r.e ≤ 20)) rfl rfl rfl rfl rfl rfl trivial rfl (fun h1_3 => ?_) (fun g1_7 => ?_)
  ·
    refine l_on rfl (gT h1_3) ?_
    refine l_fld (o := 2) rfl (by kernel_rfl) rfl ?_
    refine l_on rfl (gT h1_3) ?_
    refine l_ldo 0 rfl rfl rfl (by kernel_rfl) rfl ?_
    refine l_on rfl (gT h1_3) ?_
    refine l_leq rfl rfl rfl ?_
    exact l_nil (fun w' hw => ⟨(by repeat (first | exact Out.refl _ _ | refine Out.upd rfl ?_ | refine Out.msk rfl ?_)), rfl, hw⟩)
  refine l_as rfl ?_
  refine l_end ?_
  exact c_ret (ret1 rfl rfl (fun w' hw => ⟨rfl, hw.drop⟩))

set_option maxHeartbeats 1000000 in
theorem rfind_spec (c : Nat) (v : Value) (rs : List RepD) (s q : Nat) (w : World) (hc : (Res.refc c v rs).φ w) :
    Rets Try.prog 24 #[.pointer (some ⟨c, 0, none⟩), vu s, vu q] w fun v w' => v = .tuple #[repV (findR rs s q).1, .int .i64 (findR rs s q).2] ∧ Own w [] [] w' := by
  obtain ⟨hrow, hsl, -⟩ := hc
  replace hrow : Row w c TRefc [v] := hrow
  replace hsl : Sl w v rs.length (flatR rs) := hsl
  obtain ⟨a, cap, rfl, hnc, hcap, ha⟩ := hsl.shape
  have hbld : structT Try.prog 26 = some (repZ.cells, [(0, 1), (1, 1), (2, 1), (3, 1), (4, 1), (5, 1)]) := by kernel_rfl
  refine fn_enter (args := [.pointer (some ⟨c, 0, none⟩), vu s, vu q]) Try.func24 rfl Try.ntmps24 rfl (Own.start w) ?_
  refine c_reg ?_
  refine l_new (v := repV repZ) (by kernel_rfl) rfl (fun b6 => ?_)
  refine l_as rfl ?_
  refine l_end ?_
  refine c_seq ?_
  refine c_reg ?_
  refine l_mv rfl ?_
  refine l_eq rfl rfl rfl ?_
  refine l_mv rfl ?_
  refine l_bor 2 2 [13, 12] (((q : Int) = 0)) rfl rfl rfl rfl rfl rfl trivial rfl (fun h1_2 => ?_) (fun g1_5 => ?_)
  ·
    refine l_on rfl (gF h1_2) ?_
    refine l_mv rfl ?_
    refine l_on rfl (gF h1_2) ?_
    refine l_eq rfl rfl rfl ?_
    exact l_nil (fun w' hw => ⟨(by repeat (first | exact Out.refl _ _ | refine Out.upd rfl ?_ | refine Out.msk rfl ?_)), rfl, hw⟩)
  refine l_end ?_
  refine c_dec rfl (fun c1 => ?_) (fun c1 => ?_)
  ·
    have hR : findR rs s q = (repZ, 1) := by unfold findR; rw [if_pos (by omega)]
    rw [hR]
    refine c_reg ?_
    refine l_bld (cs := repZ.cells) hbld rfl rfl ?_
    refine l_stN (vs := repZ.cells) 0 rfl rfl rfl (by kernel_rfl) (by simp [repZ, RepD.cells, vu, cell1]) (by simp [repV, Value.cells]) ?_
    refine l_as rfl ?_
    refine l_end ?_
    exact c_ret (retc2 rfl rfl rfl (by kernel_rfl) (Own.rowCells (i := 0) rfl) (fun w' hw => ⟨rfl, hw.drop⟩))
  ·
    have hsq : ¬ (s = 0 ∨ q = 0) := by omega
    refine c_skipC ?_
    refine c_seq ?_
    refine c_reg ?_
    refine l_as rfl ?_
    refine l_end ?_
    refine c_block ?_
    refine c_loop1 (fun (k : Nat) => [(0, .pointer (some ⟨c, 0, none⟩)), (1, vu s), (2, vu q), (6, .pointer (some ⟨b6, 0, none⟩)), (8, .int .i64 k)]) (fun (k : Nat) => k ≤ rs.length ∧ ∀ x ∈ rs.take k, s ≠ x.session) (fun (k : Nat) => [Res.row b6 26 repZ.cells]) (fun (k : Nat) => rs.length - k) (fun w' hw => ⟨0, ⟨rfl, rfl, rfl, rfl, rfl, trivial⟩, ⟨Nat.zero_le _, by simp⟩, hw⟩) (fun k g hΦ => ?_)
    obtain ⟨hk1, hk2⟩ := hΦ
    refine c_seq ?_
    refine c_reg ?_
    refine l_mv rfl ?_
    refine l_mv rfl ?_
    refine l_nck rfl rfl ?_
    refine l_fld (o := 0) rfl (by kernel_rfl) rfl ?_
    refine l_ldq rfl (hrow.cell rfl) (by simp) (by kernel_rfl) rfl ?_
    refine l_len (by kernel_rfl) rfl rfl ?_
    refine l_lss rfl rfl rfl ?_
    refine l_end ?_
    refine c_dec rfl (fun c2 => ?_) (fun c2 => ?_)
    ·
      have hk : k < rs.length := by omega
      obtain ⟨x, hx⟩ : ∃ x, rs[k]? = some x := ⟨_, List.getElem?_eq_getElem hk⟩
      obtain ⟨b, off, rfl⟩ := ha (by omega)
      have hel := hsl.elt (g := RepD.cells) (sz := 6) (fun _ => rfl) hx
      refine c_skipC ?_
      refine c_seq ?_
      refine c_block ?_
      refine c_seq ?_
      refine c_reg ?_
      refine l_mv rfl ?_
      refine l_nck rfl rfl ?_
      refine l_fld (o := 0) rfl (by kernel_rfl) rfl ?_
      refine l_ldq rfl (hrow.cell rfl) (by simp) (by kernel_rfl) rfl ?_
      refine l_mv rfl ?_
      refine l_idx (sz := 6) rfl rfl (by kernel_rfl) rfl hk rfl ?_
      refine l_fld (o := 0) rfl (by kernel_rfl) rfl ?_
      refine l_ldq rfl (hel 0 _ rfl) (by simp) (by kernel_rfl) rfl ?_
      refine l_mv rfl ?_
      refine l_ne rfl rfl rfl ?_
      refine l_end ?_
      refine c_dec rfl (fun c3 => ?_) (fun c3 => ?_)
      ·
        refine c_exitC rfl ?_
        refine c_last ?_
        refine l_mv rfl ?_
        refine l_add rfl rfl (wi64 (by omega)) rfl ?_
        refine l_as rfl ?_
        exact l_nil (fun w' hw => ⟨k + 1, ⟨rfl, rfl, rfl, rfl, rfl, trivial⟩, ⟨hk, fun y hy => by rw [take_at hx] at hy; rcases List.mem_append.1 hy with hy | hy <;> first | exact hk2 y hy | (simp at hy; subst hy; omega)⟩, hw, by omega⟩)
      ·
        have hF : rs.find? (fun r => s = r.session) = some x := find_at (fun y hy => by simpa using hk2 y hy) hx (by simp; omega)
        refine c_skipC ?_
        refine c_seq ?_
        refine c_reg ?_
        refine l_mv rfl ?_
        refine l_mv rfl ?_
        refine l_nck rfl rfl ?_
        refine l_fld (o := 0) rfl (by kernel_rfl) rfl ?_
        refine l_ldq rfl (hrow.cell rfl) (by simp) (by kernel_rfl) rfl ?_
        refine l_mv rfl ?_
        refine l_idx (sz := 6) rfl rfl (by kernel_rfl) rfl hk rfl ?_
        refine l_fld (o := 1) rfl (by kernel_rfl) rfl ?_
        refine l_ldq rfl (hel 1 _ rfl) (by simp) (by kernel_rfl) rfl ?_
        refine l_gtr rfl rfl rfl ?_
        refine l_end ?_
        refine c_dec rfl (fun c4 => ?_) (fun c4 => ?_)
        ·
          have hR : findR rs s q = (repZ, 8) := by unfold findR; rw [if_neg hsq, hF]; simp only; rw [if_pos (by omega)]
          rw [hR]
          refine c_reg ?_
          refine l_bld (cs := repZ.cells) hbld rfl rfl ?_
          refine l_stN (vs := repZ.cells) 0 rfl rfl rfl (by kernel_rfl) (by simp [repZ, RepD.cells, vu, cell1]) (by simp [repV, Value.cells]) ?_
          refine l_as rfl ?_
          refine l_end ?_
          exact c_ret (retc2 rfl rfl rfl (by kernel_rfl) (Own.rowCells (i := 0) rfl) (fun w' hw => ⟨rfl, hw.drop⟩))
        ·
          refine c_skipC ?_
          refine c_seq ?_
          refine c_reg ?_
          refine l_mv rfl ?_
          refine l_mv rfl ?_
          refine l_nck rfl rfl ?_
          refine l_fld (o := 0) rfl (by kernel_rfl) rfl ?_
          refine l_ldq rfl (hrow.cell rfl) (by simp) (by kernel_rfl) rfl ?_
          refine l_mv rfl ?_
          refine l_idx (sz := 6) rfl rfl (by kernel_rfl) rfl hk rfl ?_
          refine l_fld (o := 1) rfl (by kernel_rfl) rfl ?_
          refine l_ldq rfl (hel 1 _ rfl) (by simp) (by kernel_rfl) rfl ?_
          refine l_lss rfl rfl rfl ?_
          refine l_end ?_
          refine c_dec rfl (fun c5 => ?_) (fun c5 => ?_)
          ·
            have hR : findR rs s q = (repZ, 13) := by unfold findR; rw [if_neg hsq, hF]; simp only; rw [if_neg (by omega), if_pos (by omega)]
            rw [hR]
            refine c_reg ?_
            refine l_bld (cs := repZ.cells) hbld rfl rfl ?_
            refine l_stN (vs := repZ.cells) 0 rfl rfl rfl (by kernel_rfl) (by simp [repZ, RepD.cells, vu, cell1]) (by simp [repV, Value.cells]) ?_
            refine l_as rfl ?_
            refine l_end ?_
            exact c_ret (retc2 rfl rfl rfl (by kernel_rfl) (Own.rowCells (i := 0) rfl) (fun w' hw => ⟨rfl, hw.drop⟩))
          ·
            have hR : findR rs s q = (x, 0) := by unfold findR; rw [if_neg hsq, hF]; simp only; rw [if_neg (by omega), if_neg (by omega)]
            rw [hR]
            refine c_skipC ?_
            refine c_reg ?_
            refine l_mv rfl ?_
            refine l_nck rfl rfl ?_
            refine l_fld (o := 0) rfl (by kernel_rfl) rfl ?_
            refine l_ldq rfl (hrow.cell rfl) (by simp) (by kernel_rfl) rfl ?_
            refine l_mv rfl ?_
            refine l_idx (sz := 6) rfl rfl (by kernel_rfl) rfl hk rfl ?_
            refine l_ldqN rfl (by kernel_rfl) hel (by simp) rfl ?_
            refine l_stN (vs := x.cells) 0 rfl rfl rfl (by kernel_rfl) (by simp [RepD.cells, vu, cell1]) (by simp [repV, Value.cells, RepD.cells]) ?_
            refine l_as rfl ?_
            refine l_end ?_
            exact c_ret (retc2 rfl rfl rfl (by kernel_rfl) (Own.rowCells (i := 0) rfl) (fun w' hw => ⟨rfl, hw.drop⟩))
    ·
      have hF : rs.find? (fun r => s = r.session) = none := by
        rw [List.find?_eq_none]; intro x hx; rw [List.take_of_length_le (by omega)] at hk2; simpa using hk2 x hx
      refine c_exitC rfl ?_
      refine c_seq ?_
      refine c_reg ?_
      refine l_mv rfl ?_
      refine l_nck rfl rfl ?_
      refine l_fld (o := 0) rfl (by kernel_rfl) rfl ?_
      refine l_ldq rfl (hrow.cell rfl) (by simp) (by kernel_rfl) rfl ?_
      refine l_len (by kernel_rfl) rfl rfl ?_
      refine l_geq rfl rfl rfl ?_
      refine l_end ?_
      refine c_dec rfl (fun c6 => ?_) (fun c6 => ?_)
      ·
        have hR : findR rs s q = (repZ, 7) := by unfold findR; rw [if_neg hsq, hF]; simp only; rw [if_pos (by omega)]
        rw [hR]
        refine c_reg ?_
        refine l_bld (cs := repZ.cells) hbld rfl rfl ?_
        refine l_stN (vs := repZ.cells) 0 rfl rfl rfl (by kernel_rfl) (by simp [repZ, RepD.cells, vu, cell1]) (by simp [repV, Value.cells]) ?_
        refine l_as rfl ?_
        refine l_end ?_
        exact c_ret (retc2 rfl rfl rfl (by kernel_rfl) (Own.rowCells (i := 0) rfl) (fun w' hw => ⟨rfl, hw.drop⟩))
      ·
        have hR : findR rs s q = (repZ, 8) := by unfold findR; rw [if_neg hsq, hF]; simp only; rw [if_neg (by omega)]
        rw [hR]
        refine c_skipC ?_
        refine c_reg ?_
        refine l_bld (cs := repZ.cells) hbld rfl rfl ?_
        refine l_stN (vs := repZ.cells) 0 rfl rfl rfl (by kernel_rfl) (by simp [repZ, RepD.cells, vu, cell1]) (by simp [repV, Value.cells]) ?_
        refine l_as rfl ?_
        refine l_end ?_
        exact c_ret (retc2 rfl rfl rfl (by kernel_rfl) (Own.rowCells (i := 0) rfl) (fun w' hw => ⟨rfl, hw.drop⟩))

def insS (r : RepD) (st : List RepD × Bool) (x : RepD) : List RepD × Bool :=
  let o := if st.2 = false ∧ r.session ≤ x.session then (st.1 ++ [r], true) else st
  (if x.session ≠ r.session then o.1 ++ [x] else o.1, o.2)
def insR (r : RepD) (rs : List RepD) : List RepD :=
  let st := rs.foldl (insS r) ([], false)
  if st.2 then st.1 else st.1 ++ [r]
theorem insS_len (r : RepD) : ∀ (rs : List RepD) (st : List RepD × Bool), (rs.foldl (insS r) st).1.length + (bif (rs.foldl (insS r) st).2 then 0 else 1) ≤ st.1.length + (bif st.2 then 0 else 1) + rs.length
  | [], st => by simp
  | x :: rs, st => by
    rw [List.foldl_cons]
    refine Nat.le_trans (insS_len r rs _) ?_
    obtain ⟨o, p⟩ := st
    cases p <;> simp only [insS] <;> split <;> rename_i h1 <;> split <;> rename_i h2 <;> simp at h1 h2 ⊢ <;> omega
theorem insR_len (r : RepD) (rs : List RepD) : (insR r rs).length ≤ rs.length + 1 := by
  have := insS_len r rs ([], false)
  unfold insR
  dsimp only
  split <;> rename_i h <;> simp [h] at this ⊢ <;> omega
def rdoneR (rs : List RepD) (r : RepD) : Int × List RepD :=
  if ¬ r.ok then (2, rs) else
  if (findR rs r.session r.seq).2 = 0 then (9, rs) else
  if (findR rs r.session r.seq).2 = 8 then (0, insR r rs) else ((findR rs r.session r.seq).2, rs)

set_option maxHeartbeats 1000000 in
theorem rdone_spec (c : Nat) (v : Value) (rs : List RepD) (r : RepD) (hb : rs.length ≤ 1000000) (w : World) (hc : (Res.refc c v rs).φ w) :
    Rets Try.prog 23 #[.pointer (some ⟨c, 0, none⟩), repV r] w fun u w' => u = .int .i64 (rdoneR rs r).1 ∧ ∃ v', Own w ([c] ++ blkS v) [Res.refc c v' (rdoneR rs r).2] w' := by
  obtain ⟨hrow, hsl, hap⟩ := hc
  replace hrow : Row w c TRefc [v] := hrow
  replace hsl : Sl w v rs.length (flatR rs) := hsl
  replace hap : ∀ b ∈ blkS v, b ∉ [c] := fun b hb hb' => hap b hb' hb
  have href : ∀ {L w'}, Own w [c] (Res.row c TRefc [v] :: L) w' → (Res.refc c v rs).φ w' := fun h => ⟨h.holds 0 _ rfl, h.old (Res.sl v rs.length (flatR rs)) hsl hap, fun b hb hb' => hap b hb' hb⟩
  have hsame : ∀ {L w'}, Own w [c] (Res.row c TRefc [v] :: L) w' → Own w ([c] ++ blkS v) [Res.refc c v rs] w' := fun h => Own.joinBoth (i := 0) (j := 1) (L := [Res.row c TRefc [v], Res.sl v rs.length (flatR rs)]) (by decide) rfl rfl ((h.one 0 rfl).adopt (Res.sl v rs.length (flatR rs)) hsl hap)
  obtain ⟨a, cap, rfl, hnc, hcap, ha⟩ := hsl.shape
  refine fn_enter (args := [.pointer (some ⟨c, 0, none⟩), repV r]) Try.func23 rfl Try.ntmps23 rfl (Own.start1 (r := Res.row c TRefc [.slice a rs.length cap]) hrow) ?_
  refine c_reg ?_
  refine l_box rfl rfl (fun b3 => ?_)
  refine l_as rfl ?_
  refine l_end ?_
  refine c_seq ?_
  refine c_reg ?_
  refine l_ldr (cs := r.cells) 1 rfl rfl (by kernel_rfl) rfl ?_
  refine l_call (by kernel_rfl) rfl rfl (fun w' hw => ?_)
  refine (replyOK_spec r w').mono ?_
  rintro _ w1 ⟨rfl, hO⟩
  refine (?_ : CL _ _ _ _ _ _ (Own w [c] _)) w1 (hw.frame0 hO)
  refine l_notp rfl rfl ?_
  refine l_end ?_
  refine c_dec rfl (fun c1 => ?_) (fun c1 => ?_)
  ·
    have hR : rdoneR rs r = (2, rs) := by unfold rdoneR; rw [if_pos c1]
    rw [hR]
    refine c_reg ?_
    refine l_as rfl ?_
    refine l_end ?_
    exact c_ret (ret1 rfl rfl (fun w' hw => ⟨rfl, _, hsame hw⟩))
  ·
    have hok : r.ok := Decidable.not_not.1 c1
    refine c_skipC ?_
    refine c_reg ?_
    refine l_mv rfl ?_
    refine l_fld (o := 0) rfl (by kernel_rfl) rfl ?_
    refine l_ldo 1 rfl rfl rfl (by kernel_rfl) rfl ?_
    refine l_fld (o := 1) rfl (by kernel_rfl) rfl ?_
    refine l_ldo 1 rfl rfl rfl (by kernel_rfl) rfl ?_
    refine l_call (by kernel_rfl) rfl rfl (fun w' hw => ?_)
    refine (rfind_spec c _ rs r.session r.seq w' (href hw)).mono ?_
    rintro _ w1 ⟨rfl, hO⟩
    refine (?_ : CL _ _ _ _ _ _ (Own w [c] _)) w1 (hw.frame0 hO)
    refine l_mv rfl ?_
    refine l_ext (vs := [repV (findR rs r.session r.seq).1, .int .i64 (findR rs r.session r.seq).2]) rfl rfl rfl ?_
    refine l_ext (vs := [repV (findR rs r.session r.seq).1, .int .i64 (findR rs r.session r.seq).2]) rfl rfl rfl ?_
    refine l_new (v := .agg #[.int .u64 0, .int .u64 0, .int .i64 0, .int .u64 0, .int .i64 0, .int .i64 0]) (by kernel_rfl) rfl (fun b5 => ?_)
    refine l_stN (vs := (findR rs r.session r.seq).1.cells) 2 rfl rfl rfl (by kernel_rfl) (by simp [RepD.cells, vu, cell1]) (by simp [repV, Value.cells, RepD.cells]) ?_
    refine l_as rfl ?_
    refine l_end ?_
    refine c_seq ?_
    refine c_reg ?_
    refine l_mv rfl ?_
    refine l_eq rfl rfl rfl ?_
    refine l_end ?_
    refine c_dec rfl (fun c2 => ?_) (fun c2 => ?_)
    ·
      have hR : rdoneR rs r = (9, rs) := by unfold rdoneR; rw [if_neg (by simpa using hok), if_pos c2]
      rw [hR]
      refine c_reg ?_
      refine l_as rfl ?_
      refine l_end ?_
      exact c_ret (ret1 rfl rfl (fun w' hw => ⟨rfl, _, hsame hw⟩))
    ·
      refine c_skipC ?_
      refine c_seq ?_
      refine c_reg ?_
      refine l_mv rfl ?_
      refine l_ne rfl rfl rfl ?_
      refine l_end ?_
      refine c_dec rfl (fun c3 => ?_) (fun c3 => ?_)
      ·
        have hR : rdoneR rs r = ((findR rs r.session r.seq).2, rs) := by unfold rdoneR; rw [if_neg (by simpa using hok), if_neg c2, if_neg c3]
        rw [hR]
        refine c_reg ?_
        refine l_mv rfl ?_
        refine l_as rfl ?_
        refine l_end ?_
        exact c_ret (ret1 rfl rfl (fun w' hw => ⟨rfl, _, hsame hw⟩))
      ·
        have hR : rdoneR rs r = (0, insR r rs) := by unfold rdoneR; rw [if_neg (by simpa using hok), if_neg c2, if_pos (by omega)]
        rw [hR]
        have hlen := fun k (_ : k ≤ rs.length) => insS_len r (rs.take k) ([], false)
        refine c_skipC ?_
        refine c_addnil 26 6 ?_
        refine c_reg ?_
        refine l_as rfl ?_
        refine l_end ?_
        refine c_reg ?_
        refine l_as rfl ?_
        refine l_end ?_
        refine c_seq ?_
        refine c_reg ?_
        refine l_as rfl ?_
        refine l_end ?_
        refine c_block ?_
        refine c_loop4 (fun (k : Nat) (o : Value) (out : List RepD) (p : Bool) => [(0, .pointer (some ⟨c, 0, none⟩)), (3, .pointer (some ⟨b3, 0, none⟩)), (7, o), (8, .bool (decide (p = true))), (9, .int .i64 k)]) (fun (k : Nat) (o : Value) (out : List RepD) (p : Bool) => k ≤ rs.length ∧ (rs.take k).foldl (insS r) ([], false) = (out, p)) (fun (k : Nat) (o : Value) (out : List RepD) (p : Bool) => [Res.row c TRefc [.slice a rs.length cap], Res.row b3 26 r.cells, Res.vec 26 6 o out.length (flatR out)]) (fun (k : Nat) (o : Value) (out : List RepD) (p : Bool) => rs.length - k) (fun w' hw => ⟨0, .slice none 0 0, [], false, ⟨rfl, rfl, rfl, rfl, rfl, trivial⟩, ⟨Nat.zero_le _, rfl⟩, hw.sel [0, 1, 3] rfl (by decide)⟩) (fun k o out p g hΦ => ?_)
        obtain ⟨hk1, hk2⟩ := hΦ
        have hol : out.length ≤ k + 1 := by have := hlen k hk1; rw [hk2] at this; simp at this; omega
        refine c_seq ?_
        refine c_reg ?_
        refine l_mv rfl ?_
        refine l_mv rfl ?_
        refine l_nck rfl rfl ?_
        refine l_fld (o := 0) rfl (by kernel_rfl) rfl ?_
        refine l_ldo 0 rfl rfl rfl (by kernel_rfl) rfl ?_
        refine l_len (by kernel_rfl) rfl rfl ?_
        refine l_lss rfl rfl rfl ?_
        refine l_end ?_
        refine c_dec rfl (fun c4 => ?_) (fun c4 => ?_)
        ·
          have hk : k < rs.length := by omega
          obtain ⟨x, hx⟩ : ∃ x, rs[k]? = some x := ⟨_, List.getElem?_eq_getElem hk⟩
          obtain ⟨b, off, rfl⟩ := ha (by omega)
          have hbc : b ∉ [c] := hap b (by simp [blkS_of (show 0 < cap by omega)])
          have hel := hsl.elt (g := RepD.cells) (sz := 6) (fun _ => rfl) hx
          refine c_skipC ?_
          refine c_seq ?_
          refine c_block ?_
          refine c_seq ?_
          refine c_quiets (by kernel_rfl) (by kernel_rfl) ?_
          refine q_val rfl (v_mv) ?_
          refine q_val rfl (v_notp rfl) ?_
          refine q_val rfl (v_mv) ?_
          refine q_band 11 2 [49, 48, 47, 46, 45, 44, 43, 42, 41, 40, 39] (((r.session : Int) ≤ x.session)) rfl rfl rfl rfl rfl rfl trivial rfl (fun h13_2 => ?_) (fun g13_14 => ?_)
          ·
            refine q_on rfl (gT h13_2) ?_
            refine q_val rfl (v_mv) ?_
            refine q_on rfl (gT h13_2) ?_
            refine q_val rfl (v_nck rfl) ?_
            refine q_on rfl (gT h13_2) ?_
            refine q_val rfl (v_fld (o := 0) rfl (by kernel_rfl)) ?_
            refine q_on rfl (gT h13_2) ?_
            refine q_val rfl (v_ldo 0 rfl rfl rfl (by kernel_rfl)) ?_
            refine q_on rfl (gT h13_2) ?_
            refine q_val rfl (v_mv) ?_
            refine q_on rfl (gT h13_2) ?_
            refine q_val rfl (v_idx (sz := 6) rfl rfl (by kernel_rfl) rfl hk) ?_
            refine q_on rfl (gT h13_2) ?_
            refine q_val rfl (v_fld (o := 0) rfl (by kernel_rfl)) ?_
            refine q_on rfl (gT h13_2) ?_
            refine q_val rfl (v_ldq rfl (hel 0 _ rfl) hbc (by kernel_rfl)) ?_
            refine q_on rfl (gT h13_2) ?_
            refine q_val rfl (v_fld (o := 0) rfl (by kernel_rfl)) ?_
            refine q_on rfl (gT h13_2) ?_
            refine q_val rfl (v_ldo 1 rfl rfl rfl (by kernel_rfl)) ?_
            refine q_on rfl (gT h13_2) ?_
            refine q_val rfl (v_geq rfl rfl) ?_
            exact q_nil (fun w' hw => ⟨(by repeat (first | exact Out.refl _ _ | refine Out.upd rfl ?_ | refine Out.msk rfl ?_)), rfl, hw⟩)
          refine q_end ?_
          refine c_dec rfl (fun c5 => ?_) (fun c5 => ?_)
          ·
            refine c_reg ?_
            refine l_mv rfl ?_
            refine l_ldr (cs := r.cells) 1 rfl rfl (by kernel_rfl) rfl ?_
            refine l_bsl (e := 26) (sz := 6) (vs := [repV r]) (by kernel_rfl) rfl rfl (by simp [Value.cells]) (by decide) rfl (fun b53 => ?_)
            refine l_app (e := 26) (sz := 6) (by' := 48) 2 (by kernel_rfl) rfl rfl rfl (fun w' hw => Vec.sl (hw.holds 3 _ rfl)) (by simp [Value.cells]) (by simp [Value.cells, RepD.cells, vu, cell1]) (by omega) (by rw [maxLen_eq]; omega) rfl (fun v54 => ?_)
            refine l_as rfl ?_
            refine l_end ?_
            refine c_last ?_
            refine l_as rfl ?_
            refine l_end ?_
            refine c_quiets (by kernel_rfl) (by kernel_rfl) ?_
            refine q_val rfl (v_mv) ?_
            refine q_val rfl (v_nck rfl) ?_
            refine q_val rfl (v_fld (o := 0) rfl (by kernel_rfl)) ?_
            refine q_val rfl (v_ldo 0 rfl rfl rfl (by kernel_rfl)) ?_
            refine q_val rfl (v_mv) ?_
            refine q_val rfl (v_idx (sz := 6) rfl rfl (by kernel_rfl) rfl hk) ?_
            refine q_val rfl (v_fld (o := 0) rfl (by kernel_rfl)) ?_
            refine q_val rfl (v_ldq rfl (hel 0 _ rfl) hbc (by kernel_rfl)) ?_
            refine q_val rfl (v_fld (o := 0) rfl (by kernel_rfl)) ?_
            refine q_val rfl (v_ldo 1 rfl rfl rfl (by kernel_rfl)) ?_
            refine q_val rfl (v_ne rfl rfl) ?_
            refine q_end ?_
            refine c_dec rfl (fun c6 => ?_) (fun c6 => ?_)
            ·
              refine c_last ?_
              refine l_mv rfl ?_
              refine l_mv rfl ?_
              refine l_nck rfl rfl ?_
              refine l_fld (o := 0) rfl (by kernel_rfl) rfl ?_
              refine l_ldo 0 rfl rfl rfl (by kernel_rfl) rfl ?_
              refine l_mv rfl ?_
              refine l_idx (sz := 6) rfl rfl (by kernel_rfl) rfl hk rfl ?_
              refine l_ldqN rfl (by kernel_rfl) hel hbc rfl ?_
              refine l_bsl (e := 26) (sz := 6) (vs := [repV x]) (by kernel_rfl) rfl rfl (by simp [Value.cells]) (by decide) rfl (fun b74 => ?_)
              refine l_app (e := 26) (sz := 6) (by' := 48) 2 (by kernel_rfl) rfl rfl rfl (fun w' hw => Vec.sl (hw.holds 4 _ rfl)) (by simp [Value.cells]) (by simp [Value.cells, RepD.cells, vu, cell1]) (by omega) (by rw [maxLen_eq]; omega) rfl (fun v75 => ?_)
              refine l_as rfl ?_
              refine l_end ?_
              refine c_last ?_
              refine l_mv rfl ?_
              refine l_add rfl rfl (wi64 (by omega)) rfl ?_
              refine l_as rfl ?_
              exact l_nil (fun w' hw => ⟨k + 1, v75, out ++ [r] ++ [x], true, ⟨rfl, rfl, rfl, rfl, rfl, trivial⟩, ⟨hk, by rw [take_at hx, List.foldl_append, hk2]; have h1 : p = false := (by simpa using c5.1); have h2 : x.session ≠ r.session := (by omega); have h3 : r.session ≤ x.session := (by omega); simp [insS, h1, h2, h3]⟩, by simpa [flatR, repV, Value.cells] using hw.sel [0, 1, 2] rfl (by decide), by omega⟩)
            ·
              refine c_skipC ?_
              refine c_last ?_
              refine l_mv rfl ?_
              refine l_add rfl rfl (wi64 (by omega)) rfl ?_
              refine l_as rfl ?_
              exact l_nil (fun w' hw => ⟨k + 1, v54, out ++ [r], true, ⟨rfl, rfl, rfl, rfl, rfl, trivial⟩, ⟨hk, by rw [take_at hx, List.foldl_append, hk2]; have h1 : p = false := (by simpa using c5.1); have h2 : x.session = r.session := (by omega); have h3 : r.session ≤ x.session := (by omega); simp [insS, h1, h2]⟩, by simpa [flatR, repV, Value.cells] using hw.sel [0, 1, 2] rfl (by decide), by omega⟩)
          ·
            refine c_skipC ?_
            refine c_quiets (by kernel_rfl) (by kernel_rfl) ?_
            refine q_val rfl (v_mv) ?_
            refine q_val rfl (v_nck rfl) ?_
            refine q_val rfl (v_fld (o := 0) rfl (by kernel_rfl)) ?_
            refine q_val rfl (v_ldo 0 rfl rfl rfl (by kernel_rfl)) ?_
            refine q_val rfl (v_mv) ?_
            refine q_val rfl (v_idx (sz := 6) rfl rfl (by kernel_rfl) rfl hk) ?_
            refine q_val rfl (v_fld (o := 0) rfl (by kernel_rfl)) ?_
            refine q_val rfl (v_ldq rfl (hel 0 _ rfl) hbc (by kernel_rfl)) ?_
            refine q_val rfl (v_fld (o := 0) rfl (by kernel_rfl)) ?_
            refine q_val rfl (v_ldo 1 rfl rfl rfl (by kernel_rfl)) ?_
            refine q_val rfl (v_ne rfl rfl) ?_
            refine q_end ?_
            refine c_dec rfl (fun c7 => ?_) (fun c7 => ?_)
            ·
              refine c_last ?_
              refine l_mv rfl ?_
              refine l_mv rfl ?_
              refine l_nck rfl rfl ?_
              refine l_fld (o := 0) rfl (by kernel_rfl) rfl ?_
              refine l_ldo 0 rfl rfl rfl (by kernel_rfl) rfl ?_
              refine l_mv rfl ?_
              refine l_idx (sz := 6) rfl rfl (by kernel_rfl) rfl hk rfl ?_
              refine l_ldqN rfl (by kernel_rfl) hel hbc rfl ?_
              refine l_bsl (e := 26) (sz := 6) (vs := [repV x]) (by kernel_rfl) rfl rfl (by simp [Value.cells]) (by decide) rfl (fun b74 => ?_)
              refine l_app (e := 26) (sz := 6) (by' := 48) 2 (by kernel_rfl) rfl rfl rfl (fun w' hw => Vec.sl (hw.holds 3 _ rfl)) (by simp [Value.cells]) (by simp [Value.cells, RepD.cells, vu, cell1]) (by omega) (by rw [maxLen_eq]; omega) rfl (fun v75 => ?_)
              refine l_as rfl ?_
              refine l_end ?_
              refine c_last ?_
              refine l_mv rfl ?_
              refine l_add rfl rfl (wi64 (by omega)) rfl ?_
              refine l_as rfl ?_
              exact l_nil (fun w' hw => ⟨k + 1, v75, out ++ [x], p, ⟨rfl, rfl, rfl, rfl, rfl, trivial⟩, ⟨hk, by rw [take_at hx, List.foldl_append, hk2]; have h1 : ¬ (p = false ∧ r.session ≤ x.session) := fun h => c5 ⟨by simp [h.1], by omega⟩; have h2 : x.session ≠ r.session := (by omega); simp only [List.foldl_cons, List.foldl_nil, insS, if_neg h1, if_pos h2]⟩, by simpa [flatR, repV, Value.cells] using hw.sel [0, 1, 2] rfl (by decide), by omega⟩)
            ·
              refine c_skipC ?_
              refine c_last ?_
              refine l_mv rfl ?_
              refine l_add rfl rfl (wi64 (by omega)) rfl ?_
              refine l_as rfl ?_
              exact l_nil (fun w' hw => ⟨k + 1, o, out, p, ⟨rfl, rfl, rfl, rfl, rfl, trivial⟩, ⟨hk, by rw [take_at hx, List.foldl_append, hk2]; have h1 : ¬ (p = false ∧ r.session ≤ x.session) := fun h => c5 ⟨by simp [h.1], by omega⟩; have h2 : ¬ x.session ≠ r.session := (by omega); simp only [List.foldl_cons, List.foldl_nil, insS, if_neg h1, if_neg h2]⟩, hw, by omega⟩)
        ·
          have hkk : k = rs.length := by omega
          rw [List.take_of_length_le (by omega)] at hk2
          refine c_exitC rfl ?_
          refine c_seq ?_
          refine c_reg ?_
          refine l_mv rfl ?_
          refine l_notp rfl rfl ?_
          refine l_end ?_
          refine c_dec rfl (fun c8 => ?_) (fun c8 => ?_)
          ·
            have hI : insR r rs = out ++ [r] := by unfold insR; rw [hk2]; simpa using c8
            rw [hI]
            refine c_last ?_
            refine l_mv rfl ?_
            refine l_ldr (cs := r.cells) 1 rfl rfl (by kernel_rfl) rfl ?_
            refine l_bsl (e := 26) (sz := 6) (vs := [repV r]) (by kernel_rfl) rfl rfl (by simp [Value.cells]) (by decide) rfl (fun b80 => ?_)
            refine l_app (e := 26) (sz := 6) (by' := 48) 2 (by kernel_rfl) rfl rfl rfl (fun w' hw => Vec.sl (hw.holds 3 _ rfl)) (by simp [Value.cells]) (by simp [Value.cells, RepD.cells, vu, cell1]) (by omega) (by rw [maxLen_eq]; omega) rfl (fun v81 => ?_)
            refine l_as rfl ?_
            refine l_end ?_
            refine c_reg ?_
            refine l_mv rfl ?_
            refine l_mv rfl ?_
            refine l_nck rfl rfl ?_
            refine l_fld (o := 0) rfl (by kernel_rfl) rfl ?_
            intro w1 hw1
            have hc1 := Own.cell1Vec (i := 2) rfl hw1
            refine (?_ : CL _ _ _ _ _ _ (Own w [c] _)) w1 hw1
            refine l_st 0 rfl rfl rfl (by kernel_rfl) hc1 (by simp) ?_
            refine l_end ?_
            refine c_reg ?_
            refine l_as rfl ?_
            refine l_end ?_
            exact c_ret (ret1 rfl rfl (fun w' hw => ⟨rfl, _, Own.joinBoth (i := 0) (j := 1) (L := [Res.row c TRefc [v81], Res.sl v81 (out ++ [r]).length (flatR (out ++ [r]))]) (by decide) rfl rfl (by have h : Own w ([c] ++ blkS (.slice a rs.length cap)) [Res.row c TRefc [v81], Res.sl v81 (out.length + 1) (flatR out ++ List.flatMap (fun v => v.cells.toList) [repV r])] w' := Own.wider (fun b' hb' => List.mem_append_left _ hb') ((hw.vecSl (i := 2) rfl).sel [0, 2] rfl (by decide)); simpa [flatR, repV, Value.cells] using h)⟩))
          ·
            have hI : insR r rs = out := by unfold insR; rw [hk2]; simpa using c8
            rw [hI]
            refine c_skipC ?_
            refine c_reg ?_
            refine l_mv rfl ?_
            refine l_mv rfl ?_
            refine l_nck rfl rfl ?_
            refine l_fld (o := 0) rfl (by kernel_rfl) rfl ?_
            intro w1 hw1
            have hc1 := Own.cell1Vec (i := 2) rfl hw1
            refine (?_ : CL _ _ _ _ _ _ (Own w [c] _)) w1 hw1
            refine l_st 0 rfl rfl rfl (by kernel_rfl) hc1 (by simp) ?_
            refine l_end ?_
            refine c_reg ?_
            refine l_as rfl ?_
            refine l_end ?_
            exact c_ret (ret1 rfl rfl (fun w' hw => ⟨rfl, _, Own.joinBoth (i := 0) (j := 1) (L := [Res.row c TRefc [o], Res.sl o out.length (flatR out)]) (by decide) rfl rfl (Own.wider (fun b' hb' => List.mem_append_left _ hb') ((hw.vecSl (i := 2) rfl).sel [0, 2] rfl (by decide)))⟩))

end Go.Proofs.Ytokbpgipdcfakaa
