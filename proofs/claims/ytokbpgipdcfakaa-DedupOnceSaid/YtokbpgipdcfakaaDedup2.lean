/-
  THE WALKS OF dedup's Done, and of the reference's Find and Done.
-/
import Derived.Test.YtokbpgipdcfakaaDedup
set_option linter.unusedVariables false
set_option maxRecDepth 10000
namespace Go.Proofs.Ytokbpgipdcfakaa
open Go Go.Sc Go.Proofs

theorem repCells_length (r : RepD) : r.cells.length = 6 := rfl
theorem repFlat : flatT Try.prog 26 = some [(0, some (some .u64)), (1, some (some .u64)), (2, some (some .i64)), (3, some (some .u64)), (4, some (some .i64)), (5, some (some .i64))] := by kernel_rfl
theorem repEq (r s : RepD) : eqL [(0, some (some .u64)), (1, some (some .u64)), (2, some (some .i64)), (3, some (some .u64)), (4, some (some .i64)), (5, some (some .i64))] r.cells s.cells = decide (r = s) := by
  obtain ⟨a, b, c, d, e, f⟩ := r
  obtain ⟨a', b', c', d', e', f'⟩ := s
  simp [eqL, RepD.cells, eqC, vu, RepD.mk.injEq, Bool.decide_and]
  have h : ∀ m n : Nat, decide ((m : Int) = n) = decide (m = n) := fun m n => decide_eq_decide.2 (by omega)
  simp only [h]

/-- A reply is kept: at the place of its session's elder one, or behind all. -/
def putR (r : RepD) : List RepD → List RepD
  | [] => [r]
  | x :: xs => if r.session = x.session then r :: xs else x :: putR r xs
theorem putK_cons {κ : Type} [DecidableEq κ] (k : κ) (v : Value) (x : κ) (u : Value) (kv : List (κ × Value)) : putK k v ((x, u) :: kv) = if k = x then (k, v) :: kv else (x, u) :: putK k v kv := by
  have sh : ∀ (kv : List (κ × Value)) (i : Nat), idxK k kv (i + 1) = (idxK k kv i).map (fun q => (q.1 + 1, q.2)) := by
    intro kv
    induction kv with
    | nil => intro i; rfl
    | cons q kv ih =>
      intro i
      obtain ⟨y, z⟩ := q
      simp only [idxK]
      split
      · rfl
      · exact ih (i + 1)
  unfold putK
  simp only [idxK]
  by_cases h : k = x
  · simp [h]
  · simp only [h, if_false, sh]
    cases idxK k kv 0 <;> simp
theorem putK_calls (r : RepD) : ∀ rs : List RepD, putK r.session (repV r) (callsKV rs) = callsKV (putR r rs)
  | [] => rfl
  | x :: rs => by
    simp only [callsKV, List.map_cons, putR]
    rw [putK_cons]
    split
    · simp
    · simp only [List.map_cons]
      rw [← callsKV, ← callsKV, putK_calls r rs]

def doneR (rs : List RepD) (r : RepD) : Int × List RepD :=
  if ¬ r.ok then (2, rs) else
  if (findR rs r.session r.seq).2 = 8 then (0, putR r rs) else
  if (findR rs r.session r.seq).2 = 0 then (9, rs) else ((findR rs r.session r.seq).2, rs)

theorem done_spec (c m : Nat) (rs : List RepD) (r : RepD) (hr : r.wf) (w : World) (hc : (Res.calls c m rs).φ w) :
    Rets Try.prog 9 #[.pointer (some ⟨c, 0, none⟩), repV r] w fun v w' => v = .int .i64 (doneR rs r).1 ∧ Own w ([c] ++ [m]) [Res.calls c m (doneR rs r).2] w' := by
  have hst := Own.start1 hc
  have hcell : ∀ {S L w' rs'}, Own w S (Res.calls c m rs' :: L) w' → w'.cell? ⟨c, 0, none⟩ = some (.map (some m)) := fun h => (h.holds 0 _ rfl).1.cell rfl
  refine fn_enter (args := [.pointer (some ⟨c, 0, none⟩), repV r]) Try.func9 rfl Try.ntmps9 rfl hst ?_
  refine c_reg ?_
  refine l_box rfl rfl (fun b3 => ?_)
  refine l_as rfl ?_
  refine l_end ?_
  refine c_seq ?_
  refine c_reg ?_
  refine l_mv rfl ?_
  refine l_nilp (by kernel_rfl) rfl rfl rfl ?_
  refine l_end ?_
  refine c_no rfl ?_
  refine c_skipC ?_
  refine c_seq ?_
  refine c_reg ?_
  refine l_ldr (cs := r.cells) 1 rfl rfl (by kernel_rfl) rfl ?_
  refine l_call (by kernel_rfl) rfl rfl (fun w' hw => ?_)
  refine (msgReply_spec r hr w').mono ?_
  rintro _ w1 ⟨sl, e, bs, rfl, hO, h1, h2⟩
  refine (?_ : CL _ _ _ _ _ _ (Own w ([c] ++ [m]) _)) w1 (hw.frame0 hO)
  refine l_mv rfl ?_
  refine l_ext (vs := [sl, .int .i64 e]) rfl rfl rfl ?_
  refine l_ext (vs := [sl, .int .i64 e]) rfl rfl rfl ?_
  refine l_as rfl ?_
  refine l_as rfl ?_
  refine l_end ?_
  refine c_reg ?_
  refine l_mv rfl ?_
  refine l_ne rfl rfl rfl ?_
  refine l_end ?_
  refine c_dec rfl (fun c2 => ?_) (fun c2 => ?_)
  ·
    have hok : ¬ r.ok := fun h => c2 (h1 h).1
    have hD : doneR rs r = (2, rs) := by unfold doneR; rw [if_pos hok]
    rw [hD]
    refine c_reg ?_
    refine l_as rfl ?_
    refine l_end ?_
    exact c_ret (ret1 rfl rfl (fun w' hw => ⟨rfl, hw.one 0 rfl⟩))
  ·
    have hok : r.ok := Decidable.not_not.1 fun h => by have := (h2 h).1; omega
    refine c_skipC ?_
    refine c_reg ?_
    refine l_mv rfl ?_
    refine l_fld (o := 0) rfl (by kernel_rfl) rfl ?_
    refine l_ldo 1 rfl rfl rfl (by kernel_rfl) rfl ?_
    refine l_fld (o := 1) rfl (by kernel_rfl) rfl ?_
    refine l_ldo 1 rfl rfl rfl (by kernel_rfl) rfl ?_
    refine l_call (by kernel_rfl) rfl rfl (fun w' hw => ?_)
    refine (find_spec c m rs r.session r.seq w' (hw.holds 0 _ rfl)).mono ?_
    rintro _ w1 ⟨rfl, hO⟩
    refine (?_ : CL _ _ _ _ _ _ (Own w ([c] ++ [m]) _)) w1 (hw.frame0 hO)
    refine l_mv rfl ?_
    refine l_ext (vs := [repV (findR rs r.session r.seq).1, .int .i64 (findR rs r.session r.seq).2]) rfl rfl rfl ?_
    refine l_ext (vs := [repV (findR rs r.session r.seq).1, .int .i64 (findR rs r.session r.seq).2]) rfl rfl rfl ?_
    refine l_new (v := .agg #[.int .u64 0, .int .u64 0, .int .i64 0, .int .u64 0, .int .i64 0, .int .i64 0]) (by kernel_rfl) rfl (fun b7 => ?_)
    refine l_stN (vs := (findR rs r.session r.seq).1.cells) 3 rfl rfl rfl (by kernel_rfl) (by simp [RepD.cells, vu, cell1]) (by simp [repV, Value.cells, RepD.cells]) ?_
    refine l_as rfl ?_
    refine l_end ?_
    refine c_reg ?_
    refine l_mv rfl ?_
    refine l_end ?_
    refine c_block ?_
    refine c_reg ?_
    refine l_eq rfl rfl rfl ?_
    refine l_as rfl ?_
    refine l_end ?_
    refine c_dec rfl (fun c3 => ?_) (fun c3 => ?_)
    ·
      have hD : doneR rs r = (0, putR r rs) := by unfold doneR; rw [if_neg (by simpa using hok), if_pos c3]
      rw [hD]
      refine c_seq ?_
      refine c_held (fun w' => w'.cell? ⟨c, 0, none⟩ = some (.map (some m)) ∧ ∀ i u, r.cells[i]? = some u → w'.cell? ⟨b3, 0 + i, none⟩ = some u) (by kernel_rfl) (fun w' hw => (fun (hw : Own w ([c] ++ [m]) _ _) => And.intro (hcell hw) (Own.rowCells (i := 1) rfl _ hw)) hw.drawn) (fun w' hw => ?_)
      replace hw := hw.drawn
      have hS := And.intro (hcell hw) (Own.rowCells (i := 1) rfl _ hw)
      refine h_take 0 rfl (by kernel_rfl) (by kernel_rfl) (by kernel_rfl) (v_mv) rfl hS ?_
      refine h_take 1 rfl (by kernel_rfl) (by kernel_rfl) (by kernel_rfl) (v_nck rfl) rfl hS ?_
      refine h_take 2 rfl (by kernel_rfl) (by kernel_rfl) (by kernel_rfl) (v_fld (o := 0) rfl (by kernel_rfl)) rfl hS ?_
      refine h_take 3 rfl (by kernel_rfl) (by kernel_rfl) (by kernel_rfl) (v_ld rfl (by kernel_rfl) (fun w h => h.1)) rfl hS ?_
      refine h_take 4 rfl (by kernel_rfl) (by kernel_rfl) (by kernel_rfl) (v_fld (o := 0) rfl (by kernel_rfl)) rfl hS ?_
      refine h_take 5 rfl (by kernel_rfl) (by kernel_rfl) (by kernel_rfl) (v_ld rfl (by kernel_rfl) (fun w h => h.2 0 _ rfl)) rfl hS ?_
      refine h_take 6 rfl (by kernel_rfl) (by kernel_rfl) (by kernel_rfl) (v_ldN (cs := r.cells) rfl (by kernel_rfl) (fun w h => h.2)) rfl hS ?_
      have hsp := hw.splitBoth (i := 0) rfl
      refine h_mup (v := repV r) (k := r.session) 7 4 (by kernel_rfl) rfl keyU mapCalls rfl rfl rfl hsp rfl (fun w2 hO2 => ?_)
      rw [putK_calls] at hO2
      replace hw : Own w ([c] ++ [m]) [Res.calls c m (putR r rs), Res.row b3 26 r.cells] w2 := Own.joinBoth (L := [Res.row c TCalls [.map (some m)], Res.map vu m (callsKV (putR r rs)), Res.row b3 26 r.cells]) (i := 0) (j := 1) (by decide) rfl rfl (hO2.sel [0, 4, 1] rfl (by decide))
      refine ⟨⟨hcell hw, Own.rowCells (i := 1) rfl _ hw⟩, ?_⟩
      refine h_done (by kernel_rfl) ?_
      refine (?_ : C _ _ _ _ _ _ _ (Own w ([c] ++ [m]) _)) _ hw
      refine c_reg ?_
      refine l_as rfl ?_
      refine l_end ?_
      exact c_ret (ret1 rfl rfl (fun w' hw => ⟨rfl, hw.one 0 rfl⟩))
    ·
      refine c_reg ?_
      refine l_eq rfl rfl rfl ?_
      refine l_as rfl ?_
      refine l_end ?_
      refine c_dec rfl (fun c4 => ?_) (fun c4 => ?_)
      ·
        have hD : doneR rs r = (9, rs) := by unfold doneR; rw [if_neg (by simpa using hok), if_neg c3, if_pos c4]
        rw [hD]
        refine c_reg ?_
        refine l_as rfl ?_
        refine l_end ?_
        exact c_ret (ret1 rfl rfl (fun w' hw => ⟨rfl, hw.one 0 rfl⟩))
      ·
        have hD : doneR rs r = ((findR rs r.session r.seq).2, rs) := by unfold doneR; rw [if_neg (by simpa using hok), if_neg c3, if_neg c4]
        rw [hD]
        refine c_reg ?_
        refine l_mv rfl ?_
        refine l_as rfl ?_
        refine l_end ?_
        exact c_ret (ret1 rfl rfl (fun w' hw => ⟨rfl, hw.one 0 rfl⟩))

end Go.Proofs.Ytokbpgipdcfakaa
