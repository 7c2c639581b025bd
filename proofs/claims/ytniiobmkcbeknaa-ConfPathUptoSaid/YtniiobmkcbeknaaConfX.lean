/-
  THE WALKS OF the reference's changes, and of four laws: Changes, Meets, Back, Path.
-/
import Derived.Test.YtniiobmkcbeknaaConfW
set_option linter.unusedVariables false
set_option maxRecDepth 10000
namespace Go.Proofs.Ytniiobmkcbeknaa
open Go Go.Sc Go.Proofs

def WI (l : List Int) (id : Int) (k : Nat) (put : Bool) (ol : List Int) : Prop := (put = false ∧ ol = l.take k ∧ ∀ x ∈ l.take k, x ≤ id) ∨ (put = true ∧ ol = withR (l.take k) id ∧ ∃ x ∈ l.take k, id < x)
theorem WI.a {l : List Int} {id : Int} {k : Nat} {put : Bool} {ol : List Int} (h : WI l id k put ol) (hk : k < l.length) (hp : put = false) (hn : id < nth l k) : WI l id (k + 1) true ((ol ++ [id]) ++ [nth l k]) := by
  rcases h with ⟨_, h1, h2⟩ | ⟨h1, _⟩
  · refine .inr ⟨rfl, ?_, nth l k, by rw [take_nth hk]; simp, hn⟩
    rw [take_nth hk, withR_first h2 hn, h1]; simp
  · rw [hp] at h1; cases h1
theorem WI.b {l : List Int} {id : Int} {k : Nat} {put : Bool} {ol : List Int} (h : WI l id k put ol) (hk : k < l.length) (hn : ¬ (id < nth l k ∧ put = false)) : WI l id (k + 1) put (ol ++ [nth l k]) := by
  rcases h with ⟨h0, h1, h2⟩ | ⟨h0, h1, x, hx, hxn⟩
  · refine .inl ⟨h0, by rw [take_nth hk, h1], fun y hy => ?_⟩
    rw [take_nth hk] at hy
    rcases List.mem_append.1 hy with q | q
    · exact h2 y q
    · simp at q; subst q; have : ¬ id < nth l k := fun q => hn ⟨q, h0⟩; omega
  · refine .inr ⟨h0, by rw [take_nth hk, withR_more ⟨x, hx, hxn⟩, h1], x, by rw [take_nth hk]; exact List.mem_append_left _ hx, hxn⟩
theorem WI.end_ {l : List Int} {id : Int} {k : Nat} {put : Bool} {ol : List Int} (h : WI l id k put ol) (hk : k = l.length) : (put = false → ol ++ [id] = withR l id) ∧ (put = true → ol = withR l id) := by
  subst hk
  unfold WI at h
  rw [List.take_length] at h
  rcases h with ⟨h0, h1, h2⟩ | ⟨h0, h1, h2⟩
  · exact ⟨fun _ => by rw [h1, withR_le h2], fun q => by rw [h0] at q; cases q⟩
  · exact ⟨fun q => (by rw [h0] at q; cases q), fun _ => h1⟩
theorem WI.len {l : List Int} {id : Int} {k : Nat} {put : Bool} {ol : List Int} (h : WI l id k put ol) : ol.length ≤ k + 1 ∧ (put = false → ol.length ≤ k) := by
  rcases h with ⟨h0, h1, _⟩ | ⟨h0, h1, _⟩
  · rw [h1]; simp; omega
  · rw [h1, withR_length]; rw [h0]; simp; omega
theorem rwith_s (v : Value) (l : List Int) (id : Int) (w : World) (hl : LenOk l.length) (hv : Rd w [] (Res.sl v l.length (l.flatMap I1))) : Rets Try.prog 33 #[v, .int .i64 id] w fun u_ w' => ∃ (r : Value), u_ = r ∧ Own w [] [Res.vec 3 1 r (withR l id).length ((withR l id).flatMap I1)] w' := by
  refine fn_enter (args := [v, .int .i64 id]) Try.func33 rfl Try.ntmps33 rfl (Own.start w) ?_
  refine c_reg ?_
  refine l_as rfl ?_
  refine l_end ?_
  refine c_reg ?_
  refine l_as rfl ?_
  refine l_end ?_
  refine c_reg ?_
  refine l_as rfl ?_
  refine l_end ?_
  refine c_seq ?_
  refine c_reg ?_
  refine l_as rfl ?_
  refine l_end ?_
  refine c_block ?_
  refine c_loop4 (fun (k : Nat) (o : Value) (ol : List Int) (put : Bool) => [(0, v), (1, .int .i64 id), (5, o), (6, .bool put), (7, .int .i64 (k : Nat))]) (fun (k : Nat) (o : Value) (ol : List Int) (put : Bool) => k ≤ l.length ∧ WI l id k put ol) (fun (k : Nat) (o : Value) (ol : List Int) (put : Bool) => [Res.vec 3 1 o ol.length (ol.flatMap I1)]) (fun (k : Nat) (o : Value) (ol : List Int) (put : Bool) => l.length - k) (fun w' hw => ⟨0, .slice none 0 0, [], false, ⟨rfl, rfl, rfl, rfl, rfl, trivial⟩, ⟨Nat.zero_le _, .inl ⟨rfl, by simp, by simp⟩⟩, own_nil hw 3 1⟩) (fun k o ol put g hΦ => ?_)
  have hwl := hΦ.2.len
  have hwl1 := hwl.1
  refine c_seq ?_
  refine c_reg ?_
  refine l_mv rfl ?_
  refine l_mv rfl ?_
  refine l_lenS (len := l.length) (cs := (l.flatMap I1)) (by kernel_rfl) rfl (fun w' hw' => Own.rd hv hw') rfl ?_
  refine l_lss rfl rfl rfl ?_
  refine l_end ?_
  refine c_dec rfl (fun c1 => ?_) (fun c1 => ?_)
  ·
    refine c_skipC ?_
    refine c_seq ?_
    refine c_block ?_
    refine c_seq ?_
    refine c_reg ?_
    refine l_mv rfl ?_
    refine l_mv rfl ?_
    refine l_idxS (j := k) (sz := 1) (len := l.length) (cs := (l.flatMap I1)) rfl rfl (by kernel_rfl) (fun w' hw' => Own.rd hv hw') rfl (by omega) rfl ?_
    refine l_ldS (v := v) (off := offV v + k * 1) (k * 1 + 0) (cs := (l.flatMap I1)) rfl (by omega) (fun w' hw' => Own.rd hv hw') (flat_at (sz := 1) (fun _ => rfl) (nth_some (by omega)) (i := 0) rfl) (by kernel_rfl) rfl ?_
    refine l_mv rfl ?_
    refine l_gtr rfl rfl rfl ?_
    refine l_mv rfl ?_
    refine l_band (q := id < (nth l k)) 2 6 [22, 21] ((!put) = true) rfl rfl rfl rfl rfl rfl trivial rfl (fun h6_6 => ?_) (fun g6_9 => ?_)
    ·
      refine l_on rfl (gT h6_6) ?_
      refine l_mv rfl ?_
      refine l_on rfl (gT h6_6) ?_
      refine l_not (b := put) rfl rfl ?_
      exact l_nil (fun w' hw => ⟨(by repeat (first | exact Out.refl _ _ | refine Out.upd rfl ?_ | refine Out.msk rfl ?_)), (bool_dec _), hw⟩)
    refine l_end ?_
    refine c_dec rfl (fun c2 => ?_) (fun c2 => ?_)
    ·
      refine c_reg ?_
      refine l_mv rfl ?_
      refine l_mv rfl ?_
      refine l_bsl (e := 3) (sz := 1) (vs := [.int .i64 id]) (by kernel_rfl) rfl rfl (by simp [Value.cells]) (by decide) rfl (fun b26 => ?_)
      refine l_appF (g := I1) (sz := 1) (by' := 8) (fun _ => rfl) (l := ol) (l' := [id]) (by simp [cell1, I1]) 0 (by kernel_rfl) rfl rfl rfl (fun w' hw' => Vec.sl (Own.holds hw' 1 _ rfl)) (by first | omega | (simp; omega)) (by decide) rfl (fun v27 => ?_)
      refine l_as rfl ?_
      refine l_end ?_
      refine c_last ?_
      refine l_as rfl ?_
      refine l_end ?_
      refine c_last ?_
      refine l_mv rfl ?_
      refine l_mv rfl ?_
      refine l_mv rfl ?_
      refine l_idxS (j := k) (sz := 1) (len := l.length) (cs := (l.flatMap I1)) rfl rfl (by kernel_rfl) (fun w' hw' => Own.rd hv hw') rfl (by omega) rfl ?_
      refine l_ldS (v := v) (off := offV v + k * 1) (k * 1 + 0) (cs := (l.flatMap I1)) rfl (by omega) (fun w' hw' => Own.rd hv hw') (flat_at (sz := 1) (fun _ => rfl) (nth_some (by omega)) (i := 0) rfl) (by kernel_rfl) rfl ?_
      refine l_bsl (e := 3) (sz := 1) (vs := [.int .i64 (nth l k)]) (by kernel_rfl) rfl rfl (by simp [Value.cells]) (by decide) rfl (fun b33 => ?_)
      refine l_appF (g := I1) (sz := 1) (by' := 8) (fun _ => rfl) (l := ol ++ [id]) (l' := [(nth l k)]) (by simp [cell1, I1]) 0 (by kernel_rfl) rfl rfl rfl (fun w' hw' => Vec.sl (Own.holds hw' 2 _ rfl)) (by first | omega | (simp; omega)) (by decide) rfl (fun v34 => ?_)
      refine l_as rfl ?_
      refine l_end ?_
      refine c_last ?_
      refine l_mv rfl ?_
      refine l_add rfl rfl (wi64 (by omega)) rfl ?_
      refine l_as rfl ?_
      exact l_nil (fun w' hw => ⟨k + 1, v34, (ol ++ [id]) ++ [nth l k], true, ⟨rfl, rfl, rfl, rfl, rfl, trivial⟩, ⟨by omega, hΦ.2.a (by omega) (by cases put; rfl; exact absurd c2.2 (by decide)) c2.1⟩, hw.sel [0] rfl (by decide), (by omega)⟩)
    ·
      refine c_skipC ?_
      refine c_last ?_
      refine l_mv rfl ?_
      refine l_mv rfl ?_
      refine l_mv rfl ?_
      refine l_idxS (j := k) (sz := 1) (len := l.length) (cs := (l.flatMap I1)) rfl rfl (by kernel_rfl) (fun w' hw' => Own.rd hv hw') rfl (by omega) rfl ?_
      refine l_ldS (v := v) (off := offV v + k * 1) (k * 1 + 0) (cs := (l.flatMap I1)) rfl (by omega) (fun w' hw' => Own.rd hv hw') (flat_at (sz := 1) (fun _ => rfl) (nth_some (by omega)) (i := 0) rfl) (by kernel_rfl) rfl ?_
      refine l_bsl (e := 3) (sz := 1) (vs := [.int .i64 (nth l k)]) (by kernel_rfl) rfl rfl (by simp [Value.cells]) (by decide) rfl (fun b33 => ?_)
      refine l_appF (g := I1) (sz := 1) (by' := 8) (fun _ => rfl) (l := ol) (l' := [(nth l k)]) (by simp [cell1, I1]) 0 (by kernel_rfl) rfl rfl rfl (fun w' hw' => Vec.sl (Own.holds hw' 1 _ rfl)) (by first | omega | (simp; omega)) (by decide) rfl (fun v34 => ?_)
      refine l_as rfl ?_
      refine l_end ?_
      refine c_last ?_
      refine l_mv rfl ?_
      refine l_add rfl rfl (wi64 (by omega)) rfl ?_
      refine l_as rfl ?_
      exact l_nil (fun w' hw => ⟨k + 1, v34, ol ++ [nth l k], put, ⟨rfl, rfl, rfl, rfl, rfl, trivial⟩, ⟨by omega, hΦ.2.b (by omega) (fun h => c2 ⟨h.1, by rw [h.2]; rfl⟩)⟩, hw.sel [0] rfl (by decide), (by omega)⟩)
  ·
    refine c_exitC rfl ?_
    refine c_seq ?_
    refine c_reg ?_
    refine l_mv rfl ?_
    refine l_not (b := put) rfl rfl ?_
    refine l_end ?_
    refine c_if rfl (fun c3 => ?_) (fun c3 => ?_)
    ·
      refine c_last ?_
      refine l_mv rfl ?_
      refine l_mv rfl ?_
      refine l_bsl (e := 3) (sz := 1) (vs := [.int .i64 id]) (by kernel_rfl) rfl rfl (by simp [Value.cells]) (by decide) rfl (fun b39 => ?_)
      refine l_appF (g := I1) (sz := 1) (by' := 8) (fun _ => rfl) (l := ol) (l' := [id]) (by simp [cell1, I1]) 0 (by kernel_rfl) rfl rfl rfl (fun w' hw' => Vec.sl (Own.holds hw' 1 _ rfl)) (by first | omega | (simp; omega)) (by decide) rfl (fun v40 => ?_)
      refine l_as rfl ?_
      refine l_end ?_
      refine c_reg ?_
      refine l_mv rfl ?_
      refine l_as rfl ?_
      refine l_end ?_
      exact c_ret (ret1 (v := v40) rfl rfl (fun w' hw => ⟨v40, rfl, by have h := hw.one 0 rfl; rw [(hΦ.2.end_ (by omega)).1 (by simpa using c3)] at h; exact h⟩))
    ·
      refine c_skipC ?_
      refine c_reg ?_
      refine l_mv rfl ?_
      refine l_as rfl ?_
      refine l_end ?_
      exact c_ret (ret1 (v := o) rfl rfl (fun w' hw => ⟨o, rfl, by rw [(hΦ.2.end_ (by omega)).2 (by simpa using c3)] at hw; exact hw⟩))
theorem rwithout_s (v : Value) (l : List Int) (id : Int) (w : World) (hl : LenOk l.length) (hv : Rd w [] (Res.sl v l.length (l.flatMap I1))) : Rets Try.prog 34 #[v, .int .i64 id] w fun u_ w' => ∃ (r : Value), u_ = r ∧ Own w [] [Res.vec 3 1 r (delL l id).length ((delL l id).flatMap I1)] w' := by
  refine fn_enter (args := [v, .int .i64 id]) Try.func34 rfl Try.ntmps34 rfl (Own.start w) ?_
  refine c_reg ?_
  refine l_as rfl ?_
  refine l_end ?_
  refine c_reg ?_
  refine l_as rfl ?_
  refine l_end ?_
  refine c_seq ?_
  refine c_reg ?_
  refine l_as rfl ?_
  refine l_end ?_
  refine c_block ?_
  refine c_loop3 (fun (k : Nat) (o : Value) (ol : List Int) => [(0, v), (1, .int .i64 id), (5, o), (6, .int .i64 (k : Nat))]) (fun (k : Nat) (o : Value) (ol : List Int) => k ≤ l.length ∧ ol.length ≤ k ∧ ol = delL (l.take k) id) (fun (k : Nat) (o : Value) (ol : List Int) => [Res.vec 3 1 o ol.length (ol.flatMap I1)]) (fun (k : Nat) (o : Value) (ol : List Int) => l.length - k) (fun w' hw => ⟨0, .slice none 0 0, [], ⟨rfl, rfl, rfl, rfl, trivial⟩, ⟨Nat.zero_le _, by simp, by simp [delL]⟩, own_nil hw 3 1⟩) (fun k o ol g hΦ => ?_)
  refine c_seq ?_
  refine c_reg ?_
  refine l_mv rfl ?_
  refine l_mv rfl ?_
  refine l_lenS (len := l.length) (cs := (l.flatMap I1)) (by kernel_rfl) rfl (fun w' hw' => Own.rd hv hw') rfl ?_
  refine l_lss rfl rfl rfl ?_
  refine l_end ?_
  refine c_dec rfl (fun c1 => ?_) (fun c1 => ?_)
  ·
    refine c_skipC ?_
    refine c_seq ?_
    refine c_block ?_
    refine c_reg ?_
    refine l_mv rfl ?_
    refine l_mv rfl ?_
    refine l_idxS (j := k) (sz := 1) (len := l.length) (cs := (l.flatMap I1)) rfl rfl (by kernel_rfl) (fun w' hw' => Own.rd hv hw') rfl (by omega) rfl ?_
    refine l_ldS (v := v) (off := offV v + k * 1) (k * 1 + 0) (cs := (l.flatMap I1)) rfl (by omega) (fun w' hw' => Own.rd hv hw') (flat_at (sz := 1) (fun _ => rfl) (nth_some (by omega)) (i := 0) rfl) (by kernel_rfl) rfl ?_
    refine l_mv rfl ?_
    refine l_ne rfl rfl rfl ?_
    refine l_end ?_
    refine c_dec rfl (fun c2 => ?_) (fun c2 => ?_)
    ·
      refine c_last ?_
      refine l_mv rfl ?_
      refine l_mv rfl ?_
      refine l_mv rfl ?_
      refine l_idxS (j := k) (sz := 1) (len := l.length) (cs := (l.flatMap I1)) rfl rfl (by kernel_rfl) (fun w' hw' => Own.rd hv hw') rfl (by omega) rfl ?_
      refine l_ldS (v := v) (off := offV v + k * 1) (k * 1 + 0) (cs := (l.flatMap I1)) rfl (by omega) (fun w' hw' => Own.rd hv hw') (flat_at (sz := 1) (fun _ => rfl) (nth_some (by omega)) (i := 0) rfl) (by kernel_rfl) rfl ?_
      refine l_bsl (e := 3) (sz := 1) (vs := [.int .i64 (nth l k)]) (by kernel_rfl) rfl rfl (by simp [Value.cells]) (by decide) rfl (fun b24 => ?_)
      refine l_appF (g := I1) (sz := 1) (by' := 8) (fun _ => rfl) (l := ol) (l' := [(nth l k)]) (by simp [cell1, I1]) 0 (by kernel_rfl) rfl rfl rfl (fun w' hw' => Vec.sl (Own.holds hw' 1 _ rfl)) (by first | omega | (simp; omega)) (by decide) rfl (fun v25 => ?_)
      refine l_as rfl ?_
      refine l_end ?_
      refine c_last ?_
      refine l_mv rfl ?_
      refine l_add rfl rfl (wi64 (by omega)) rfl ?_
      refine l_as rfl ?_
      exact l_nil (fun w' hw => ⟨k + 1, v25, ol ++ [nth l k], ⟨rfl, rfl, rfl, rfl, trivial⟩, ⟨by omega, by simp; omega, by rw [delL_step (by omega), if_neg c2, hΦ.2.2]⟩, hw.sel [0] rfl (by decide), (by omega)⟩)
    ·
      refine c_skipC ?_
      refine c_last ?_
      refine l_mv rfl ?_
      refine l_add rfl rfl (wi64 (by omega)) rfl ?_
      refine l_as rfl ?_
      exact l_nil (fun w' hw => ⟨k + 1, o, ol, ⟨rfl, rfl, rfl, rfl, trivial⟩, ⟨by omega, by omega, by rw [delL_step (by omega), if_pos (Decidable.not_not.1 c2), List.append_nil, hΦ.2.2]⟩, hw, (by omega)⟩)
  ·
    refine c_exitC rfl ?_
    refine c_reg ?_
    refine l_mv rfl ?_
    refine l_as rfl ?_
    refine l_end ?_
    exact c_ret (ret1 (v := o) rfl rfl (fun w' hw => ⟨o, rfl, by have h := hΦ.2.2; rw [List.take_of_length_le (by omega)] at h; rw [h] at hw; exact hw⟩))
def Res.opt (b : Bool) (r : Res) : Res := if b then r else Res.star []
theorem opt_rd {w0 w : World} {S : List Nat} {L : List Res} {fr : Bool} {T : TypeId} {a : Value} {n : Nat} {cs : List Value} (i : Nat) (hL : L[i]? = some (Res.opt fr (Res.vec T 1 a n cs))) (h : Own w0 S L w) (hf : fr = true ∨ Rd w [] (Res.sl a n cs)) : Rd w [] (Res.sl a n cs) := by
  cases fr with
  | true => exact h.rdVec0 i hL
  | false => exact hf.elim (fun h => by cases h) id
theorem rchange_s (kind : Int) (c : ConfD) (id : Int) (w : World) (hf : c.few) (hk : 1 ≤ kind ∧ kind ≤ 3) (rd_c : ConfD.rd c w []) : Rets Try.prog 22 #[.int .i64 kind, .agg (ConfD.cells c).toArray, .int .i64 id] w fun u_ w' => ∃ (fr : Bool) (a : Value) (vs : List Int) (b : Value) (ls : List Int) (e : Int), u_ = .tuple #[.agg #[a, b], .int .i64 e] ∧ chg kind c.a id = (⟨vs, ls⟩, e) ∧ (fr = true ∨ (a = c.vv ∧ vs = c.vs)) ∧ Own w [] [(Res.opt fr (Res.vec 3 1 a vs.length (vs.flatMap I1))), Res.vec 3 1 b ls.length (ls.flatMap I1)] w' := by
  have hc := hf.wf
  have hv := hf.vs
  have hl := hf.ls
  refine fn_enter (args := [.int .i64 kind, .agg (ConfD.cells c).toArray, .int .i64 id]) Try.func22 rfl Try.ntmps22 rfl (Own.start w) ?_
  refine c_reg ?_
  refine l_box rfl rfl (fun b4 => ?_)
  refine l_new (v := .agg #[.slice none 0 0, .slice none 0 0]) (by kernel_rfl) rfl (fun b6 => ?_)
  refine l_as rfl ?_
  refine l_end ?_
  refine c_seq ?_
  refine c_reg ?_
  refine l_ldr (cs := (ConfD.cells c)) 0 rfl rfl (by kernel_rfl) rfl ?_
  refine l_call (by kernel_rfl) rfl rfl (fun w' hw => ?_)
  refine (confOK_spec c w' (by first | assumption | omega | (simp <;> omega) | (constructor <;> (first | omega | (simp only [LenOk]; omega) | (simp <;> omega)))) (rd_c.at0 hw)).mono ?_
  rintro _ w1 ⟨rfl, hO⟩
  refine (?_ : CL _ _ _ _ _ _ (Own w [] [Res.row b4 24 (ConfD.cells c), Res.row b6 24 [.slice none 0 0, .slice none 0 0]])) w1 (hw.frame0 hO)
  refine l_notp (q := c.ok) rfl rfl ?_
  refine l_end ?_
  refine c_dec rfl (fun c1 => ?_) (fun c1 => ?_)
  ·
    refine c_reg ?_
    refine l_bld (cs := [.slice none 0 0, .slice none 0 0]) (z := [.slice none 0 0, .slice none 0 0]) (pl := [(0, 1), (1, 1)]) (by kernel_rfl) (by kernel_rfl) rfl ?_
    refine l_stN (cs := [.slice none 0 0, .slice none 0 0]) (vs := [.slice none 0 0, .slice none 0 0]) 1 rfl rfl rfl (by kernel_rfl) (allc_cons rfl (allc_cons rfl allc_nil)) (Nat.le_of_ble_eq_true rfl) ?_
    refine l_as rfl ?_
    refine l_end ?_
    exact c_ret (retc2 (cs := [.slice none 0 0, .slice none 0 0]) (v := .int .i64 2) rfl rfl rfl (by kernel_rfl) (Own.rowCells (i := 1) rfl) (fun w' hw => ⟨true, .slice none 0 0, [], .slice none 0 0, [], 2, rfl, chg_bad (c := c.a) c1, .inl rfl, own_nil (own_nil hw.drop 3 1) 3 1⟩))
  ·
    have hok : c.ok := Decidable.not_not.1 c1
    refine c_skipC ?_
    refine c_seq ?_
    refine c_reg ?_
    refine l_mv rfl ?_
    refine l_lss rfl rfl rfl ?_
    refine l_mv rfl ?_
    refine l_bor (q := id < 1) 2 2 [18, 17] (16 < id) rfl rfl rfl rfl rfl rfl trivial rfl (fun h3_2 => ?_) (fun g3_5 => ?_)
    ·
      refine l_on rfl (gF h3_2) ?_
      refine l_mv rfl ?_
      refine l_on rfl (gF h3_2) ?_
      refine l_gtr rfl rfl rfl ?_
      exact l_nil (fun w' hw => ⟨(by repeat (first | exact Out.refl _ _ | refine Out.upd rfl ?_ | refine Out.msk rfl ?_)), rfl, hw⟩)
    refine l_mv rfl ?_
    refine l_bor (q := (id < 1) ∨ (16 < id)) 2 6 [22, 21] (kind < 1) rfl rfl rfl rfl rfl rfl trivial rfl (fun h3_6 => ?_) (fun g3_9 => ?_)
    ·
      refine l_on rfl (gF h3_6) ?_
      refine l_mv rfl ?_
      refine l_on rfl (gF h3_6) ?_
      refine l_lss rfl rfl rfl ?_
      exact l_nil (fun w' hw => ⟨(by repeat (first | exact Out.refl _ _ | refine Out.upd rfl ?_ | refine Out.msk rfl ?_)), rfl, hw⟩)
    refine l_mv rfl ?_
    refine l_bor (q := ((id < 1) ∨ (16 < id)) ∨ (kind < 1)) 2 10 [26, 25] (3 < kind) rfl rfl rfl rfl rfl rfl trivial rfl (fun h3_10 => ?_) (fun g3_13 => ?_)
    ·
      refine l_on rfl (gF h3_10) ?_
      refine l_mv rfl ?_
      refine l_on rfl (gF h3_10) ?_
      refine l_gtr rfl rfl rfl ?_
      exact l_nil (fun w' hw => ⟨(by repeat (first | exact Out.refl _ _ | refine Out.upd rfl ?_ | refine Out.msk rfl ?_)), rfl, hw⟩)
    refine l_end ?_
    refine c_dec rfl (fun c2 => ?_) (fun c2 => ?_)
    ·
      refine c_reg ?_
      refine l_bld (cs := [.slice none 0 0, .slice none 0 0]) (z := [.slice none 0 0, .slice none 0 0]) (pl := [(0, 1), (1, 1)]) (by kernel_rfl) (by kernel_rfl) rfl ?_
      refine l_stN (cs := [.slice none 0 0, .slice none 0 0]) (vs := [.slice none 0 0, .slice none 0 0]) 1 rfl rfl rfl (by kernel_rfl) (allc_cons rfl (allc_cons rfl allc_nil)) (Nat.le_of_ble_eq_true rfl) ?_
      refine l_as rfl ?_
      refine l_end ?_
      exact c_ret (retc2 (cs := [.slice none 0 0, .slice none 0 0]) (v := .int .i64 1) rfl rfl rfl (by kernel_rfl) (Own.rowCells (i := 1) rfl) (fun w' hw => ⟨true, .slice none 0 0, [], .slice none 0 0, [], 1, rfl, chg_arg (c := c.a) hok (by omega), .inl rfl, own_nil (own_nil hw.drop 3 1) 3 1⟩))
    ·
      have hid : 1 ≤ id ∧ id ≤ 16 := by omega
      refine c_skipC ?_
      refine c_reg ?_
      refine l_fld (o := 0) rfl (by kernel_rfl) rfl ?_
      refine l_ldo 0 (v := c.vv) rfl rfl rfl (by kernel_rfl) rfl ?_
      refine l_mv rfl ?_
      refine l_call (by kernel_rfl) rfl rfl (fun w' hw => ?_)
      refine (has_spec c.vv c.vs id w' (by first | assumption | omega | (simp <;> omega) | (constructor <;> (first | omega | (simp only [LenOk]; omega) | (simp <;> omega)))) (hw.rd0 rd_c.vv)).mono ?_
      rintro _ w1 ⟨rfl, hO⟩
      refine (?_ : CL _ _ _ _ _ _ (Own w [] [Res.row b4 24 (ConfD.cells c), Res.row b6 24 [.slice none 0 0, .slice none 0 0]])) w1 (hw.frame0 hO)
      refine l_as rfl ?_
      refine l_end ?_
      refine c_reg ?_
      refine l_fld (o := 1) rfl (by kernel_rfl) rfl ?_
      refine l_ldo 0 (v := c.lv) rfl rfl rfl (by kernel_rfl) rfl ?_
      refine l_mv rfl ?_
      refine l_call (by kernel_rfl) rfl rfl (fun w' hw => ?_)
      refine (has_spec c.lv c.ls id w' (by first | assumption | omega | (simp <;> omega) | (constructor <;> (first | omega | (simp only [LenOk]; omega) | (simp <;> omega)))) (hw.rd0 rd_c.lv)).mono ?_
      rintro _ w1 ⟨rfl, hO⟩
      refine (?_ : CL _ _ _ _ _ _ (Own w [] [Res.row b4 24 (ConfD.cells c), Res.row b6 24 [.slice none 0 0, .slice none 0 0]])) w1 (hw.frame0 hO)
      refine l_as rfl ?_
      refine l_end ?_
      refine c_seq ?_
      refine c_reg ?_
      refine l_mv rfl ?_
      refine l_end ?_
      refine c_block ?_
      refine c_reg ?_
      refine l_eq rfl rfl rfl ?_
      refine l_as rfl ?_
      refine l_end ?_
      refine c_dec rfl (fun c3 => ?_) (fun c3 => ?_)
      ·
        refine c_seq ?_
        refine c_reg ?_
        refine l_mv rfl ?_
        refine l_mv rfl ?_
        refine l_bor (q := id ∈ c.vs) 1 1 [42] (id ∈ c.ls) rfl rfl rfl rfl rfl rfl trivial rfl (fun h9_1 => ?_) (fun g9_3 => ?_)
        ·
          refine l_on rfl (gF h9_1) ?_
          refine l_mv rfl ?_
          exact l_nil (fun w' hw => ⟨(by repeat (first | exact Out.refl _ _ | refine Out.upd rfl ?_ | refine Out.msk rfl ?_)), rfl, hw⟩)
        refine l_end ?_
        refine c_dec rfl (fun c4 => ?_) (fun c4 => ?_)
        ·
          refine c_reg ?_
          refine l_bld (cs := [.slice none 0 0, .slice none 0 0]) (z := [.slice none 0 0, .slice none 0 0]) (pl := [(0, 1), (1, 1)]) (by kernel_rfl) (by kernel_rfl) rfl ?_
          refine l_stN (cs := [.slice none 0 0, .slice none 0 0]) (vs := [.slice none 0 0, .slice none 0 0]) 1 rfl rfl rfl (by kernel_rfl) (allc_cons rfl (allc_cons rfl allc_nil)) (Nat.le_of_ble_eq_true rfl) ?_
          refine l_as rfl ?_
          refine l_end ?_
          exact c_ret (retc2 (cs := [.slice none 0 0, .slice none 0 0]) (v := .int .i64 9) rfl rfl rfl (by kernel_rfl) (Own.rowCells (i := 1) rfl) (fun w' hw => ⟨true, .slice none 0 0, [], .slice none 0 0, [], 9, rfl, (by rw [c3, chg_1 hok hid, if_pos c4]), .inl rfl, own_nil (own_nil hw.drop 3 1) 3 1⟩))
        ·
          refine c_skipC ?_
          refine c_seq ?_
          refine c_heldo [0] rfl (by decide) (by kernel_rfl) (fun w' hw hS => ?_)
          refine h_take 0 rfl (by kernel_rfl) (by kernel_rfl) (by kernel_rfl) (v_fld (o := 0) rfl (by kernel_rfl)) rfl hS ?_
          refine h_take 1 rfl (by kernel_rfl) (by kernel_rfl) (by kernel_rfl) (v_ldo 0 (v := c.vv) rfl rfl rfl (by kernel_rfl)) rfl hS ?_
          refine h_take 2 rfl (by kernel_rfl) (by kernel_rfl) (by kernel_rfl) (v_fld (o := 1) rfl (by kernel_rfl)) rfl hS ?_
          refine h_take 3 rfl (by kernel_rfl) (by kernel_rfl) (by kernel_rfl) (v_ldo 0 (v := c.lv) rfl rfl rfl (by kernel_rfl)) rfl hS ?_
          refine h_take 4 rfl (by kernel_rfl) (by kernel_rfl) (by kernel_rfl) (v_mv) rfl hS ?_
          refine h_one 5 (by kernel_rfl) rfl hw ?_
          refine l_call (by kernel_rfl) rfl rfl (fun w' hw => ?_)
          refine (rwith_s c.lv c.ls id w' (by first | assumption | omega | (simp <;> omega) | (constructor <;> (first | omega | (simp only [LenOk]; omega) | (simp <;> omega)))) (hw.rd0 rd_c.lv)).mono ?_
          rintro r1_ w1 ⟨_, rfl, hO⟩
          refine (?_ : CL _ _ _ _ _ _ (Own w [] [Res.row b4 24 (ConfD.cells c), Res.row b6 24 [.slice none 0 0, .slice none 0 0], Res.vec 3 1 r1_ (withR c.ls id).length ((withR c.ls id).flatMap I1)])) w1 (hw.frame0 hO)
          refine l_nil (fun w' hw => ?_)
          have hS := hw.sel [0] rfl (by decide)
          refine ⟨hS, ?_⟩
          refine h_one 6 (by kernel_rfl) rfl hw ?_
          refine l_haveO (fun w' hw => Own.cell1Vec (i := 2) rfl hw) (fun hc2_ => ?_)
          refine l_bldc (cs := [c.vv, r1_]) (z := [.slice none 0 0, .slice none 0 0]) (pl := [(0, 1), (1, 1)]) (by kernel_rfl) ⟨(Sl.cell1 (Rd.φ rd_c.vv)), hc2_, trivial⟩ (by kernel_rfl) rfl ?_
          refine l_nil (fun w' hw => ?_)
          have hS := hw.sel [0] rfl (by decide)
          refine ⟨hS, ?_⟩
          refine h_one 7 (by kernel_rfl) rfl hw ?_
          refine l_stN (cs := [.slice none 0 0, .slice none 0 0]) (vs := [c.vv, r1_]) 1 rfl rfl rfl (by kernel_rfl) (allc_cons (Sl.cell1 (Rd.φ rd_c.vv)) (allc_cons hc2_ allc_nil)) (Nat.le_of_ble_eq_true rfl) ?_
          refine l_nil (fun w' hw => ?_)
          have hS := hw.sel [0] rfl (by decide)
          refine ⟨hS, ?_⟩
          refine h_take 8 rfl (by kernel_rfl) (by kernel_rfl) (by kernel_rfl) (v_as) rfl hS ?_
          refine h_done (by kernel_rfl) ?_
          refine (?_ : C _ _ _ _ _ _ _ (Own w [] [Res.row b4 24 (ConfD.cells c), Res.row b6 24 [c.vv, r1_], Res.vec 3 1 r1_ (withR c.ls id).length ((withR c.ls id).flatMap I1)])) _ hw
          exact c_ret (retc2 (cs := [c.vv, r1_]) (v := .int .i64 0) rfl rfl rfl (by kernel_rfl) (Own.rowCells (i := 1) rfl) (fun w' hw => ⟨false, c.vv, c.vs, r1_, withR c.ls id, 0, rfl, (by rw [c3, chg_1 hok hid, if_neg c4]), .inr ⟨rfl, rfl⟩, hw.starNil.sel [3, 2] rfl (by decide)⟩))
      ·
        refine c_reg ?_
        refine l_eq rfl rfl rfl ?_
        refine l_as rfl ?_
        refine l_end ?_
        refine c_dec rfl (fun c5 => ?_) (fun c5 => ?_)
        ·
          refine c_seq ?_
          refine c_reg ?_
          refine l_mv rfl ?_
          refine l_notp (q := id ∈ c.ls) rfl rfl ?_
          refine l_end ?_
          refine c_dec rfl (fun c6 => ?_) (fun c6 => ?_)
          ·
            refine c_reg ?_
            refine l_bld (cs := [.slice none 0 0, .slice none 0 0]) (z := [.slice none 0 0, .slice none 0 0]) (pl := [(0, 1), (1, 1)]) (by kernel_rfl) (by kernel_rfl) rfl ?_
            refine l_stN (cs := [.slice none 0 0, .slice none 0 0]) (vs := [.slice none 0 0, .slice none 0 0]) 1 rfl rfl rfl (by kernel_rfl) (allc_cons rfl (allc_cons rfl allc_nil)) (Nat.le_of_ble_eq_true rfl) ?_
            refine l_as rfl ?_
            refine l_end ?_
            exact c_ret (retc2 (cs := [.slice none 0 0, .slice none 0 0]) (v := .int .i64 8) rfl rfl rfl (by kernel_rfl) (Own.rowCells (i := 1) rfl) (fun w' hw => ⟨true, .slice none 0 0, [], .slice none 0 0, [], 8, rfl, (by rw [c5, chg_2 hok hid, if_neg c6]), .inl rfl, own_nil (own_nil hw.drop 3 1) 3 1⟩))
          ·
            refine c_skipC ?_
            refine c_seq ?_
            refine c_heldo [0] rfl (by decide) (by kernel_rfl) (fun w' hw hS => ?_)
            refine h_take 0 rfl (by kernel_rfl) (by kernel_rfl) (by kernel_rfl) (v_fld (o := 0) rfl (by kernel_rfl)) rfl hS ?_
            refine h_take 1 rfl (by kernel_rfl) (by kernel_rfl) (by kernel_rfl) (v_ldo 0 (v := c.vv) rfl rfl rfl (by kernel_rfl)) rfl hS ?_
            refine h_take 2 rfl (by kernel_rfl) (by kernel_rfl) (by kernel_rfl) (v_mv) rfl hS ?_
            refine h_take 4 rfl (by kernel_rfl) (by kernel_rfl) (by kernel_rfl) (v_fld (o := 1) rfl (by kernel_rfl)) rfl hS ?_
            refine h_take 5 rfl (by kernel_rfl) (by kernel_rfl) (by kernel_rfl) (v_ldo 0 (v := c.lv) rfl rfl rfl (by kernel_rfl)) rfl hS ?_
            refine h_take 6 rfl (by kernel_rfl) (by kernel_rfl) (by kernel_rfl) (v_mv) rfl hS ?_
            refine h_one 3 (by kernel_rfl) rfl hw ?_
            refine l_call (by kernel_rfl) rfl rfl (fun w' hw => ?_)
            refine (rwith_s c.vv c.vs id w' (by first | assumption | omega | (simp <;> omega) | (constructor <;> (first | omega | (simp only [LenOk]; omega) | (simp <;> omega)))) (hw.rd0 rd_c.vv)).mono ?_
            rintro r2_ w1 ⟨_, rfl, hO⟩
            refine (?_ : CL _ _ _ _ _ _ (Own w [] [Res.row b4 24 (ConfD.cells c), Res.row b6 24 [.slice none 0 0, .slice none 0 0], Res.vec 3 1 r2_ (withR c.vs id).length ((withR c.vs id).flatMap I1)])) w1 (hw.frame0 hO)
            refine l_nil (fun w' hw => ?_)
            have hS := hw.sel [0] rfl (by decide)
            refine ⟨hS, ?_⟩
            refine h_one 7 (by kernel_rfl) rfl hw ?_
            refine l_call (by kernel_rfl) rfl rfl (fun w' hw => ?_)
            refine (rwithout_s c.lv c.ls id w' (by first | assumption | omega | (simp <;> omega) | (constructor <;> (first | omega | (simp only [LenOk]; omega) | (simp <;> omega)))) (hw.rd0 rd_c.lv)).mono ?_
            rintro r3_ w1 ⟨_, rfl, hO⟩
            refine (?_ : CL _ _ _ _ _ _ (Own w [] [Res.row b4 24 (ConfD.cells c), Res.row b6 24 [.slice none 0 0, .slice none 0 0], Res.vec 3 1 r2_ (withR c.vs id).length ((withR c.vs id).flatMap I1), Res.vec 3 1 r3_ (delL c.ls id).length ((delL c.ls id).flatMap I1)])) w1 (hw.frame0 hO)
            refine l_nil (fun w' hw => ?_)
            have hS := hw.sel [0] rfl (by decide)
            refine ⟨hS, ?_⟩
            refine h_one 8 (by kernel_rfl) rfl hw ?_
            refine l_haveO (fun w' hw => Own.cell1Vec (i := 2) rfl hw) (fun hc5_ => ?_)
            refine l_haveO (fun w' hw => Own.cell1Vec (i := 3) rfl hw) (fun hc6_ => ?_)
            refine l_bldc (cs := [r2_, r3_]) (z := [.slice none 0 0, .slice none 0 0]) (pl := [(0, 1), (1, 1)]) (by kernel_rfl) ⟨hc5_, hc6_, trivial⟩ (by kernel_rfl) rfl ?_
            refine l_nil (fun w' hw => ?_)
            have hS := hw.sel [0] rfl (by decide)
            refine ⟨hS, ?_⟩
            refine h_one 9 (by kernel_rfl) rfl hw ?_
            refine l_stN (cs := [.slice none 0 0, .slice none 0 0]) (vs := [r2_, r3_]) 1 rfl rfl rfl (by kernel_rfl) (allc_cons hc5_ (allc_cons hc6_ allc_nil)) (Nat.le_of_ble_eq_true rfl) ?_
            refine l_nil (fun w' hw => ?_)
            have hS := hw.sel [0] rfl (by decide)
            refine ⟨hS, ?_⟩
            refine h_take 10 rfl (by kernel_rfl) (by kernel_rfl) (by kernel_rfl) (v_as) rfl hS ?_
            refine h_done (by kernel_rfl) ?_
            refine (?_ : C _ _ _ _ _ _ _ (Own w [] [Res.row b4 24 (ConfD.cells c), Res.row b6 24 [r2_, r3_], Res.vec 3 1 r2_ (withR c.vs id).length ((withR c.vs id).flatMap I1), Res.vec 3 1 r3_ (delL c.ls id).length ((delL c.ls id).flatMap I1)])) _ hw
            exact c_ret (retc2 (cs := [r2_, r3_]) (v := .int .i64 0) rfl rfl rfl (by kernel_rfl) (Own.rowCells (i := 1) rfl) (fun w' hw => ⟨true, r2_, withR c.vs id, r3_, delL c.ls id, 0, rfl, (by rw [c5, chg_2 hok hid, if_pos (Decidable.not_not.1 c6)]), .inl rfl, hw.sel [2, 3] rfl (by decide)⟩))
        ·
          refine c_skipC ?_
          refine c_seq ?_
          refine c_reg ?_
          refine l_mv rfl ?_
          refine l_notp (q := id ∈ c.vs) rfl rfl ?_
          refine l_mv rfl ?_
          refine l_band (q := ¬ (id ∈ c.vs)) 2 2 [70, 69] (¬ (id ∈ c.ls)) rfl rfl rfl rfl rfl rfl trivial rfl (fun h16_2 => ?_) (fun g16_5 => ?_)
          ·
            refine l_on rfl (gT h16_2) ?_
            refine l_mv rfl ?_
            refine l_on rfl (gT h16_2) ?_
            refine l_notp (q := id ∈ c.ls) rfl rfl ?_
            exact l_nil (fun w' hw => ⟨(by repeat (first | exact Out.refl _ _ | refine Out.upd rfl ?_ | refine Out.msk rfl ?_)), rfl, hw⟩)
          refine l_end ?_
          refine c_dec rfl (fun c7 => ?_) (fun c7 => ?_)
          ·
            refine c_reg ?_
            refine l_bld (cs := [.slice none 0 0, .slice none 0 0]) (z := [.slice none 0 0, .slice none 0 0]) (pl := [(0, 1), (1, 1)]) (by kernel_rfl) (by kernel_rfl) rfl ?_
            refine l_stN (cs := [.slice none 0 0, .slice none 0 0]) (vs := [.slice none 0 0, .slice none 0 0]) 1 rfl rfl rfl (by kernel_rfl) (allc_cons rfl (allc_cons rfl allc_nil)) (Nat.le_of_ble_eq_true rfl) ?_
            refine l_as rfl ?_
            refine l_end ?_
            exact c_ret (retc2 (cs := [.slice none 0 0, .slice none 0 0]) (v := .int .i64 8) rfl rfl rfl (by kernel_rfl) (Own.rowCells (i := 1) rfl) (fun w' hw => ⟨true, .slice none 0 0, [], .slice none 0 0, [], 8, rfl, (by rw [chg_3 hok hid c3 c5, if_pos (fun h => h.elim c7.1 c7.2)]), .inl rfl, own_nil (own_nil hw.drop 3 1) 3 1⟩))
          ·
            have hme : id ∈ c.vs ∨ id ∈ c.ls := Decidable.not_not.1 fun h => c7 ⟨fun q => h (.inl q), fun q => h (.inr q)⟩
            refine c_skipC ?_
            refine c_seq ?_
            refine c_reg ?_
            refine l_mv rfl ?_
            refine l_mv rfl ?_
            refine l_band (q := id ∈ c.vs) 4 1 [78, 77, 76, 75] (((c.vs.length : Nat) : Int) = 1) rfl rfl rfl rfl rfl rfl trivial rfl (fun h18_1 => ?_) (fun g18_6 => ?_)
            ·
              refine l_on rfl (gT h18_1) ?_
              refine l_fld (o := 0) rfl (by kernel_rfl) rfl ?_
              refine l_on rfl (gT h18_1) ?_
              refine l_ldo 0 (v := c.vv) rfl rfl rfl (by kernel_rfl) rfl ?_
              refine l_on rfl (gT h18_1) ?_
              refine l_lenS (len := c.vs.length) (cs := (c.vs.flatMap I1)) (by kernel_rfl) rfl (fun w' hw' => Own.rd rd_c.vv hw') rfl ?_
              refine l_on rfl (gT h18_1) ?_
              refine l_eq rfl rfl rfl ?_
              exact l_nil (fun w' hw => ⟨(by repeat (first | exact Out.refl _ _ | refine Out.upd rfl ?_ | refine Out.msk rfl ?_)), rfl, hw⟩)
            refine l_end ?_
            refine c_dec rfl (fun c8 => ?_) (fun c8 => ?_)
            ·
              refine c_reg ?_
              refine l_bld (cs := [.slice none 0 0, .slice none 0 0]) (z := [.slice none 0 0, .slice none 0 0]) (pl := [(0, 1), (1, 1)]) (by kernel_rfl) (by kernel_rfl) rfl ?_
              refine l_stN (cs := [.slice none 0 0, .slice none 0 0]) (vs := [.slice none 0 0, .slice none 0 0]) 1 rfl rfl rfl (by kernel_rfl) (allc_cons rfl (allc_cons rfl allc_nil)) (Nat.le_of_ble_eq_true rfl) ?_
              refine l_as rfl ?_
              refine l_end ?_
              exact c_ret (retc2 (cs := [.slice none 0 0, .slice none 0 0]) (v := .int .i64 15) rfl rfl rfl (by kernel_rfl) (Own.rowCells (i := 1) rfl) (fun w' hw => ⟨true, .slice none 0 0, [], .slice none 0 0, [], 15, rfl, (by rw [chg_3 hok hid c3 c5, if_neg (fun h => h hme), if_pos ⟨c8.1, by have := c8.2; omega⟩]), .inl rfl, own_nil (own_nil hw.drop 3 1) 3 1⟩))
            ·
              refine c_skipC ?_
              refine c_seq ?_
              refine c_heldo [0] rfl (by decide) (by kernel_rfl) (fun w' hw hS => ?_)
              refine h_take 0 rfl (by kernel_rfl) (by kernel_rfl) (by kernel_rfl) (v_fld (o := 0) rfl (by kernel_rfl)) rfl hS ?_
              refine h_take 1 rfl (by kernel_rfl) (by kernel_rfl) (by kernel_rfl) (v_ldo 0 (v := c.vv) rfl rfl rfl (by kernel_rfl)) rfl hS ?_
              refine h_take 2 rfl (by kernel_rfl) (by kernel_rfl) (by kernel_rfl) (v_mv) rfl hS ?_
              refine h_take 4 rfl (by kernel_rfl) (by kernel_rfl) (by kernel_rfl) (v_fld (o := 1) rfl (by kernel_rfl)) rfl hS ?_
              refine h_take 5 rfl (by kernel_rfl) (by kernel_rfl) (by kernel_rfl) (v_ldo 0 (v := c.lv) rfl rfl rfl (by kernel_rfl)) rfl hS ?_
              refine h_take 6 rfl (by kernel_rfl) (by kernel_rfl) (by kernel_rfl) (v_mv) rfl hS ?_
              refine h_one 3 (by kernel_rfl) rfl hw ?_
              refine l_call (by kernel_rfl) rfl rfl (fun w' hw => ?_)
              refine (rwithout_s c.vv c.vs id w' (by first | assumption | omega | (simp <;> omega) | (constructor <;> (first | omega | (simp only [LenOk]; omega) | (simp <;> omega)))) (hw.rd0 rd_c.vv)).mono ?_
              rintro r4_ w1 ⟨_, rfl, hO⟩
              refine (?_ : CL _ _ _ _ _ _ (Own w [] [Res.row b4 24 (ConfD.cells c), Res.row b6 24 [.slice none 0 0, .slice none 0 0], Res.vec 3 1 r4_ (delL c.vs id).length ((delL c.vs id).flatMap I1)])) w1 (hw.frame0 hO)
              refine l_nil (fun w' hw => ?_)
              have hS := hw.sel [0] rfl (by decide)
              refine ⟨hS, ?_⟩
              refine h_one 7 (by kernel_rfl) rfl hw ?_
              refine l_call (by kernel_rfl) rfl rfl (fun w' hw => ?_)
              refine (rwithout_s c.lv c.ls id w' (by first | assumption | omega | (simp <;> omega) | (constructor <;> (first | omega | (simp only [LenOk]; omega) | (simp <;> omega)))) (hw.rd0 rd_c.lv)).mono ?_
              rintro r5_ w1 ⟨_, rfl, hO⟩
              refine (?_ : CL _ _ _ _ _ _ (Own w [] [Res.row b4 24 (ConfD.cells c), Res.row b6 24 [.slice none 0 0, .slice none 0 0], Res.vec 3 1 r4_ (delL c.vs id).length ((delL c.vs id).flatMap I1), Res.vec 3 1 r5_ (delL c.ls id).length ((delL c.ls id).flatMap I1)])) w1 (hw.frame0 hO)
              refine l_nil (fun w' hw => ?_)
              have hS := hw.sel [0] rfl (by decide)
              refine ⟨hS, ?_⟩
              refine h_one 8 (by kernel_rfl) rfl hw ?_
              refine l_haveO (fun w' hw => Own.cell1Vec (i := 2) rfl hw) (fun hc9_ => ?_)
              refine l_haveO (fun w' hw => Own.cell1Vec (i := 3) rfl hw) (fun hc10_ => ?_)
              refine l_bldc (cs := [r4_, r5_]) (z := [.slice none 0 0, .slice none 0 0]) (pl := [(0, 1), (1, 1)]) (by kernel_rfl) ⟨hc9_, hc10_, trivial⟩ (by kernel_rfl) rfl ?_
              refine l_nil (fun w' hw => ?_)
              have hS := hw.sel [0] rfl (by decide)
              refine ⟨hS, ?_⟩
              refine h_one 9 (by kernel_rfl) rfl hw ?_
              refine l_stN (cs := [.slice none 0 0, .slice none 0 0]) (vs := [r4_, r5_]) 1 rfl rfl rfl (by kernel_rfl) (allc_cons hc9_ (allc_cons hc10_ allc_nil)) (Nat.le_of_ble_eq_true rfl) ?_
              refine l_nil (fun w' hw => ?_)
              have hS := hw.sel [0] rfl (by decide)
              refine ⟨hS, ?_⟩
              refine h_take 10 rfl (by kernel_rfl) (by kernel_rfl) (by kernel_rfl) (v_as) rfl hS ?_
              refine h_done (by kernel_rfl) ?_
              refine (?_ : C _ _ _ _ _ _ _ (Own w [] [Res.row b4 24 (ConfD.cells c), Res.row b6 24 [r4_, r5_], Res.vec 3 1 r4_ (delL c.vs id).length ((delL c.vs id).flatMap I1), Res.vec 3 1 r5_ (delL c.ls id).length ((delL c.ls id).flatMap I1)])) _ hw
              exact c_ret (retc2 (cs := [r4_, r5_]) (v := .int .i64 0) rfl rfl rfl (by kernel_rfl) (Own.rowCells (i := 1) rfl) (fun w' hw => ⟨true, r4_, delL c.vs id, r5_, delL c.ls id, 0, rfl, (by rw [chg_3 hok hid c3 c5, if_neg (fun h => h hme), if_neg (fun h => c8 ⟨h.1, by have := h.2; omega⟩)]), .inl rfl, hw.sel [2, 3] rfl (by decide)⟩))
end Go.Proofs.Ytniiobmkcbeknaa
