/-
  ConfPath is true of every input that is not greater than the statement's bound: the program returns, it returns true, and what came in reads as it did. Condition: the bulk that the statement names.
-/
import Derived.Test.YtniiobmkcbeknaaConfX
import Derived.Test.YtniiobmkcbeknaaConfRd
set_option linter.unusedVariables false
set_option maxRecDepth 10000
namespace Go.Proofs.Ytniiobmkcbeknaa
open Go Go.Sc Go.Proofs Go.RowKit Go.ChangeShapes Go.WideShapes

def BytesWf (W : World) (p : Value × List UInt8) : Prop := Rd W [] (Res.sl p.1 p.2.length (p.2.map vb))
theorem rdBytes (W : World) : RdA Try.prog W 46 (fun p : Value × List UInt8 => [p.1]) (BytesWf W) (fun p => p.2.length + 1) :=
  (RdA.slice (sz := 1) Try.underlying46 (by kernel_rfl) (by decide) (fun _ => rfl) (RdA.byte (W := W) Try.underlying5)).map id (fun _ => rfl) (fun p h => Rd.of (by have := h.1; rw [← map_flat] at this; exact this)) (fun p _ => by rw [sum_one]; exact Nat.le_refl _)
theorem del_none {n : Int} {l : List Int} (q : n ∉ l) : delL l n = l := List.filter_eq_self.2 fun x hx => by simp; exact fun e => q (e ▸ hx)
theorem del_cons (a n : Int) (l : List Int) : delL (a :: l) n = if a = n then delL l n else a :: delL l n := by
  unfold delL
  rw [List.filter_cons]
  by_cases h : a = n <;> simp [h]
theorem del_with {l : List Int} {n : Int} (h : n ∉ l) : delL (withR l n) n = l := by
  induction l with
  | nil => simp [withR, delL]
  | cons a l ih =>
    have hna : ¬ a = n := fun q => h (by rw [q]; exact List.mem_cons_self ..)
    have hnl : n ∉ l := fun q => h (List.mem_cons_of_mem _ q)
    unfold withR
    split
    · rw [del_cons, if_pos rfl, del_none h]
    · rw [del_cons, if_neg hna, ih hnl]
theorem del_length {l : List Int} {n : Int} (hs : l.Pairwise (· < ·)) : l.length ≤ (delL l n).length + 1 := by
  induction l with
  | nil => simp
  | cons a l ih =>
    have := ih (List.pairwise_cons.1 hs).2
    rw [del_cons]
    by_cases h : a = n
    · rw [if_pos h, del_none (fun q => by have := (List.pairwise_cons.1 hs).1 n q; omega)]; simp
    · rw [if_neg h]; simp only [List.length_cons]; omega
theorem delL_le (l : List Int) (n : Int) : (delL l n).length ≤ l.length := List.length_filter_le _ _
theorem chg_len {k : Int} {c : ConfD} {id e : Int} {vs ls : List Int} (h : chg k c.a id = (⟨vs, ls⟩, e)) : vs.length ≤ c.vs.length + 1 ∧ ls.length ≤ c.ls.length + 1 := by
  have h1 := delL_le c.vs id
  have h2 := delL_le c.ls id
  have h3 := withR_length c.vs id
  have h4 := withR_length c.ls id
  have hz : ∀ {q : ConfA × Int}, q = (⟨vs, ls⟩, e) → (q.1.vs.length ≤ c.vs.length + 1 ∧ q.1.ls.length ≤ c.ls.length + 1) → vs.length ≤ c.vs.length + 1 ∧ ls.length ≤ c.ls.length + 1 := by rintro _ rfl q; exact q
  refine hz h ?_
  unfold chg
  repeat' split
  all_goals simp only [ConfD.a, List.length_nil]; omega
theorem chg_ok {k : Int} {c : ConfD} {id : Int} {r : ConfA} (h : chg k c.a id = (r, 0)) : c.ok := by
  refine Decidable.byContradiction fun q => ?_
  rw [chg_bad (c := c.a) q] at h
  cases h
theorem few16 {c : ConfD} (h : c.ok) : c.vs.length ≤ 16 ∧ c.ls.length ≤ 16 := ⟨(Rises.few' h.1.1.1).1, (Rises.few' h.1.1.2).1⟩
/-- A change that is made: what comes is sound, nobody else's part is another one, and that one's is. -/
theorem chg_path {k : Int} {c : ConfD} {id : Int} {vs ls : List Int} (h : chg k c.a id = (⟨vs, ls⟩, 0)) : ConfA.ok ⟨vs, ls⟩ ∧ (∀ x, x ≠ id → ((x ∈ c.vs ↔ x ∈ vs) ∧ (x ∈ c.ls ↔ x ∈ ls))) ∧ ¬ ((id ∈ c.vs ↔ id ∈ vs) ∧ ((id ∈ c.vs ∨ id ∈ c.ls) ↔ (id ∈ vs ∨ id ∈ ls))) := by
  have hok := chg_ok h
  unfold chg at h
  rw [if_neg (fun q => q hok)] at h
  split at h; · cases h
  rename_i hid
  have hid : 1 ≤ id ∧ id ≤ 16 := Decidable.not_not.1 hid
  have hcl : c.a.ls = c.ls := rfl
  have hcv : c.a.vs = c.vs := rfl
  rw [hcl, hcv] at h
  split at h
  · split at h; · cases h
    rename_i hn
    have hn1 : id ∉ c.vs := fun q => hn (.inl q)
    have hn2 : id ∉ c.ls := fun q => hn (.inr q)
    cases h
    refine ⟨⟨⟨⟨hok.1.1.1, rises_with hok.1.1.2 hn2 hid⟩, hok.1.2⟩, fun v hv q => ?_⟩, fun x hx => ⟨Iff.rfl, ?_⟩, fun q => hn (q.2.2 (.inr (withR_mem.2 (.inr rfl))))⟩
    · rcases withR_mem.1 q with h | h
      · exact hok.2 v hv h
      · exact hn1 (h ▸ hv)
    · rw [withR_mem]; exact ⟨.inl, fun q => q.elim (fun q => q) (fun q => absurd q hx)⟩
  split at h
  · split at h
    · rename_i hl
      have hn : id ∉ c.vs := fun q => hok.2 id q hl
      cases h
      refine ⟨⟨⟨⟨rises_with hok.1.1.1 hn hid, rises_del hok.1.1.2⟩, by have := withR_length c.vs id; show 0 < (withR c.vs id).length; omega⟩, fun v hv q => ?_⟩, fun x hx => ⟨?_, ?_⟩, fun q => hn (q.1.2 (withR_mem.2 (.inr rfl)))⟩
      · rcases withR_mem.1 hv with h | h
        · exact hok.2 v h (del_mem.1 q).1
        · exact (del_mem.1 q).2 h
      · rw [withR_mem]; exact ⟨.inl, fun q => q.elim (fun q => q) (fun q => absurd q hx)⟩
      · rw [del_mem]; exact ⟨fun q => ⟨q, hx⟩, fun q => q.1⟩
    · cases h
  split at h; · cases h
  rename_i hme
  have hme := Decidable.not_not.1 hme
  split at h; · cases h
  rename_i hone
  cases h
  have hlt := hok.1.1.1.lt
  refine ⟨⟨⟨⟨rises_del hok.1.1.1, rises_del hok.1.1.2⟩, ?_⟩, fun v hv q => hok.2 v (del_mem.1 hv).1 (del_mem.1 q).1⟩, fun x hx => ⟨?_, ?_⟩, fun q => ?_⟩
  · show 0 < (delL c.vs id).length
    have h3 : 0 < c.vs.length := hok.1.2
    by_cases hm : id ∈ c.vs
    · have h1 := del_length (n := id) hlt
      have h2 : c.vs.length ≠ 1 := fun q => hone ⟨hm, q⟩
      omega
    · rw [del_none hm]; exact h3
  · rw [del_mem]; exact ⟨fun q => ⟨q, hx⟩, fun q => q.1⟩
  · rw [del_mem]; exact ⟨fun q => ⟨q, hx⟩, fun q => q.1⟩
  · exact (q.2.1 hme).elim (fun q => (del_mem.1 q).2 rfl) (fun q => (del_mem.1 q).2 rfl)
theorem chg_path' {k : Int} {c : ConfD} {id e : Int} {vs ls : List Int} (h : chg k c.a id = (⟨vs, ls⟩, e)) (he : e = 0) : ConfA.ok ⟨vs, ls⟩ ∧ (∀ x, x ≠ id → ((x ∈ c.vs ↔ x ∈ vs) ∧ (x ∈ c.ls ↔ x ∈ ls))) ∧ ¬ ((id ∈ c.vs ↔ id ∈ vs) ∧ ((id ∈ c.vs ∨ id ∈ c.ls) ↔ (id ∈ vs ∨ id ∈ ls))) := chg_path (he ▸ h)
theorem strip {p q a b : Prop} (hp : p) (hq : q) (h : (p ∧ a) ↔ (q ∧ b)) : a ↔ b := ⟨fun x => (h.1 ⟨hp, x⟩).2, fun x => (h.2 ⟨hq, x⟩).2⟩
theorem confPath_s (c : ConfD) (kv : Value) (ks : List UInt8) (iv : Value) (is : List Int) (w : World) (hf : c.few) (hkl : LenOk ks.length) (hil : LenOk is.length) (hk : Rd w [] (Res.sl kv ks.length (ks.map vb))) (hi : Rd w [] (Res.sl iv is.length (is.flatMap I1))) (rd_c : ConfD.rd c w []) : Rets Try.prog 8 #[.agg (ConfD.cells c).toArray, kv, iv] w fun u_ w' => u_ = .bool true ∧ Own w [] [] w' := by
  have hv := hf.vs
  have hl := hf.ls
  refine fn_enter (args := [.agg (ConfD.cells c).toArray, kv, iv]) Try.func8 rfl Try.ntmps8 rfl (Own.start w) ?_
  refine c_reg ?_
  refine l_box rfl rfl (fun b3 => ?_)
  refine l_as rfl ?_
  refine l_end ?_
  refine c_seq ?_
  refine c_reg ?_
  refine l_call (by kernel_rfl) rfl rfl (fun w' hw => ?_)
  refine (answers_s w').mono ?_
  rintro _ w1 ⟨rfl, hO⟩
  refine (?_ : CL _ _ _ _ _ _ (Own w [] [Res.row b3 24 (ConfD.cells c)])) w1 (hw.frame0 hO)
  refine l_not (b := true) rfl rfl ?_
  refine l_mv rfl ?_
  refine l_on rfl rfl ?_
  refine l_ldr (cs := (ConfD.cells c)) 0 rfl rfl (by kernel_rfl) rfl ?_
  refine l_on rfl rfl ?_
  refine l_call (by kernel_rfl) rfl rfl (fun w' hw => ?_)
  refine (confOK_spec c w' (by first | assumption | omega | (simp <;> omega) | (constructor <;> (first | omega | (simp only [LenOk]; omega) | (simp <;> omega)))) (rd_c.at0 hw)).mono ?_
  rintro _ w1 ⟨rfl, hO⟩
  refine (?_ : CL _ _ _ _ _ _ (Own w [] [Res.row b3 24 (ConfD.cells c)])) w1 (hw.frame0 hO)
  refine l_on rfl rfl ?_
  refine l_notp (q := c.ok) rfl rfl ?_
  refine l_pickF rfl rfl ?_
  refine l_end ?_
  refine c_dec rfl (fun c1 => ?_) (fun c1 => ?_)
  ·
    refine c_reg ?_
    refine l_call (by kernel_rfl) rfl rfl (fun w' hw => ?_)
    refine (answers_s w').mono ?_
    rintro _ w1 ⟨rfl, hO⟩
    refine (?_ : CL _ _ _ _ _ _ (Own w [] [Res.row b3 24 (ConfD.cells c)])) w1 (hw.frame0 hO)
    refine l_as rfl ?_
    refine l_end ?_
    exact c_ret (ret1 (v := .bool true) rfl rfl (fun w' hw => ⟨rfl, hw.drop⟩))
  ·
    refine c_skipC ?_
    refine c_seq ?_
    refine c_reg ?_
    refine l_as rfl ?_
    refine l_end ?_
    refine c_block ?_
    refine c_loop4 (fun (i : Nat) (cc : ConfD) (f1 f2 : Bool) => [(1, kv), (2, iv), (3, .pointer (some ⟨b3, 0, none⟩)), (7, .int .i64 (i : Nat))]) (fun (i : Nat) (cc : ConfD) (f1 f2 : Bool) => (i ≤ 60 ∧ cc.ok) ∧ (f1 = true ∨ cc.vv = c.vv ∧ cc.vs = c.vs) ∧ (f2 = true ∨ cc.lv = c.lv ∧ cc.ls = c.ls)) (fun (i : Nat) (cc : ConfD) (f1 f2 : Bool) => [Res.row b3 24 (ConfD.cells cc), (Res.opt f1 (Res.vec 3 1 cc.vv cc.vs.length (cc.vs.flatMap I1))), (Res.opt f2 (Res.vec 3 1 cc.lv cc.ls.length (cc.ls.flatMap I1)))]) (fun (i : Nat) (cc : ConfD) (f1 f2 : Bool) => 60 - i) (fun w' hw => ⟨0, c, false, false, ⟨rfl, rfl, rfl, rfl, trivial⟩, ⟨⟨Nat.zero_le _, Decidable.not_not.1 c1⟩, .inr ⟨rfl, rfl⟩, .inr ⟨rfl, rfl⟩⟩, hw.starNil.starNil.sel [0, 1, 2] rfl (by decide)⟩) (fun i cc f1 f2 g hΦ => ?_)
    have hi1 := hΦ.1.1
    have hok1 := hΦ.1.2
    have hr1 := hΦ.2.1
    have hr2 := hΦ.2.2
    have hfc := few_of hΦ.1.2
    have hfv := hfc.vs
    have hfl := hfc.ls
    refine c_seq ?_
    refine c_reg ?_
    refine l_mv rfl ?_
    refine l_mv rfl ?_
    refine l_lenS (len := ks.length) (cs := (ks.map vb)) (by kernel_rfl) rfl (fun w' hw' => Own.rd hk hw') rfl ?_
    refine l_lss rfl rfl rfl ?_
    refine l_mv rfl ?_
    refine l_band (q := ((i : Nat) : Int) < ((ks.length : Nat) : Int)) 4 4 [27, 26, 25, 24] (((i : Nat) : Int) < ((is.length : Nat) : Int)) rfl rfl rfl rfl rfl rfl trivial rfl (fun h4_4 => ?_) (fun g4_9 => ?_)
    ·
      refine l_on rfl (gT h4_4) ?_
      refine l_mv rfl ?_
      refine l_on rfl (gT h4_4) ?_
      refine l_mv rfl ?_
      refine l_on rfl (gT h4_4) ?_
      refine l_lenS (len := is.length) (cs := (is.flatMap I1)) (by kernel_rfl) rfl (fun w' hw' => Own.rd hi hw') rfl ?_
      refine l_on rfl (gT h4_4) ?_
      refine l_lss rfl rfl rfl ?_
      exact l_nil (fun w' hw => ⟨(by repeat (first | exact Out.refl _ _ | refine Out.upd rfl ?_ | refine Out.msk rfl ?_)), rfl, hw⟩)
    refine l_mv rfl ?_
    refine l_band (q := (((i : Nat) : Int) < ((ks.length : Nat) : Int)) ∧ (((i : Nat) : Int) < ((is.length : Nat) : Int))) 2 10 [31, 30] (((i : Nat) : Int) < 60) rfl rfl rfl rfl rfl rfl trivial rfl (fun h4_10 => ?_) (fun g4_13 => ?_)
    ·
      refine l_on rfl (gT h4_10) ?_
      refine l_mv rfl ?_
      refine l_on rfl (gT h4_10) ?_
      refine l_lss rfl rfl rfl ?_
      exact l_nil (fun w' hw => ⟨(by repeat (first | exact Out.refl _ _ | refine Out.upd rfl ?_ | refine Out.msk rfl ?_)), rfl, hw⟩)
    refine l_end ?_
    refine c_dec rfl (fun c2 => ?_) (fun c2 => ?_)
    ·
      refine c_skipC ?_
      refine c_seq ?_
      refine c_block ?_
      refine c_seq ?_
      refine c_heldo [0, 1, 2] rfl (by decide) (by kernel_rfl) (fun w' hw hS => ?_)
      refine h_take 0 rfl (by kernel_rfl) (by kernel_rfl) (by kernel_rfl) (v_mv) rfl hS ?_
      refine h_take 1 rfl (by kernel_rfl) (by kernel_rfl) (by kernel_rfl) (v_mv) rfl hS ?_
      refine h_take 2 rfl (by kernel_rfl) (by kernel_rfl) (by kernel_rfl) (v_idxS (j := i) (sz := 1) (len := ks.length) (cs := (ks.map vb)) rfl rfl (by kernel_rfl) (fun w' hw' => Own.rd hk hw') rfl (by omega)) rfl hS ?_
      refine h_take 3 rfl (by kernel_rfl) (by kernel_rfl) (by kernel_rfl) (v_ldS (v := kv) (off := offV kv + i * 1) i (cs := (ks.map vb)) rfl (by omega) (fun w' hw' => Own.rd hk hw') (by rw [List.getElem?_map, (nth_some (by omega))]; rfl) (by kernel_rfl)) rfl hS ?_
      refine h_take 4 rfl (by kernel_rfl) (by kernel_rfl) (by kernel_rfl) (v_rem (c := ((((nth ks i).toNat) % 3 : Nat) : Int)) rfl rfl (by omega) rfl) rfl hS ?_
      refine h_take 5 rfl (by kernel_rfl) (by kernel_rfl) (by kernel_rfl) (v_cvt (by kernel_rfl) rfl (wi64 (by omega)) (by kernel_rfl)) rfl hS ?_
      refine h_take 6 rfl (by kernel_rfl) (by kernel_rfl) (by kernel_rfl) (v_add rfl rfl (wi64 (by omega))) rfl hS ?_
      refine h_take 7 rfl (by kernel_rfl) (by kernel_rfl) (by kernel_rfl) (v_ldr (cs := (ConfD.cells cc)) 0 rfl rfl (by kernel_rfl)) rfl hS ?_
      refine h_take 8 rfl (by kernel_rfl) (by kernel_rfl) (by kernel_rfl) (v_mv) rfl hS ?_
      refine h_take 9 rfl (by kernel_rfl) (by kernel_rfl) (by kernel_rfl) (v_mv) rfl hS ?_
      refine h_take 10 rfl (by kernel_rfl) (by kernel_rfl) (by kernel_rfl) (v_idxS (j := i) (sz := 1) (len := is.length) (cs := (is.flatMap I1)) rfl rfl (by kernel_rfl) (fun w' hw' => Own.rd hi hw') rfl (by omega)) rfl hS ?_
      refine h_take 11 rfl (by kernel_rfl) (by kernel_rfl) (by kernel_rfl) (v_ldS (v := iv) (off := offV iv + i * 1) (i * 1 + 0) (cs := (is.flatMap I1)) rfl (by omega) (fun w' hw' => Own.rd hi hw') (flat_at (sz := 1) (fun _ => rfl) (nth_some (by omega)) (i := 0) rfl) (by kernel_rfl)) rfl hS ?_
      refine h_pick2 (i := 12) (j := 16) (by kernel_rfl) ?_ ?_
      ·
        refine pk_of 12 rfl hw ?_
        refine l_call (by kernel_rfl) rfl rfl (fun w' hw => ?_)
        refine (change_s (((((nth ks i).toNat) % 3) + 1 : Nat) : Int) cc (nth is i) w' (by first | assumption | omega | (simp <;> omega) | (constructor <;> (first | omega | (simp only [LenOk]; omega) | (simp <;> omega)))) (by first | assumption | omega | (simp <;> omega) | (constructor <;> (first | omega | (simp only [LenOk]; omega) | (simp <;> omega)))) ⟨(opt_rd 1 rfl hw (hr1.elim .inl (fun h => .inr (by rw [h.1, h.2]; exact hw.rd0 rd_c.vv)))), (opt_rd 2 rfl hw (hr2.elim .inl (fun h => .inr (by rw [h.1, h.2]; exact hw.rd0 rd_c.lv))))⟩).mono ?_
        rintro _ w1 ⟨a1_, vs2_, b3_, ls4_, e5_, rfl, hf6_12, hO⟩
        have hln := chg_len hf6_12
        have hfw := few16 hok1
        have hp := chg_path' hf6_12
        refine (?_ : CL _ _ _ _ _ _ (Own w [] [Res.row b3 24 (ConfD.cells cc), (Res.opt f1 (Res.vec 3 1 cc.vv cc.vs.length (cc.vs.flatMap I1))), (Res.opt f2 (Res.vec 3 1 cc.lv cc.ls.length (cc.ls.flatMap I1))), Res.vec 3 1 a1_ vs2_.length (vs2_.flatMap I1), Res.vec 3 1 b3_ ls4_.length (ls4_.flatMap I1)])) w1 (hw.frame0 hO)
        refine l_nil (fun w' hw => ?_)
        have hS := hw.sel [0, 1, 2] rfl (by decide)
        refine ⟨hS, ?_⟩
        refine h_take 13 rfl (by kernel_rfl) (by kernel_rfl) (by kernel_rfl) (v_mv) rfl hS ?_
        refine h_take 14 rfl (by kernel_rfl) (by kernel_rfl) (by kernel_rfl) (v_ext (vs := [.agg #[a1_, b3_], .int .i64 e5_]) rfl rfl) rfl hS ?_
        refine h_take 15 rfl (by kernel_rfl) (by kernel_rfl) (by kernel_rfl) (v_ext (vs := [.agg #[a1_, b3_], .int .i64 e5_]) rfl rfl) rfl hS ?_
        refine h_one 16 (by kernel_rfl) rfl hw ?_
        refine l_new (v := .agg #[.slice none 0 0, .slice none 0 0]) (by kernel_rfl) rfl (fun b8 => ?_)
        refine l_nil (fun w' hw => ?_)
        have hS := hw.sel [0, 1, 2] rfl (by decide)
        refine ⟨hS, ?_⟩
        refine h_one 17 (by kernel_rfl) rfl hw ?_
        refine l_haveO (fun w' hw => Own.cell1Vec (i := 3) rfl hw) (fun hc1_ => ?_)
        refine l_haveO (fun w' hw => Own.cell1Vec (i := 4) rfl hw) (fun hc2_ => ?_)
        refine l_stN (cs := [.slice none 0 0, .slice none 0 0]) (vs := [a1_, b3_]) 5 rfl rfl rfl (by kernel_rfl) (allc_cons hc1_ (allc_cons hc2_ allc_nil)) (Nat.le_of_ble_eq_true rfl) ?_
        refine l_nil (fun w' hw => ?_)
        have hS := hw.sel [0, 1, 2] rfl (by decide)
        refine ⟨hS, ?_⟩
        refine h_take 18 rfl (by kernel_rfl) (by kernel_rfl) (by kernel_rfl) (v_as) rfl hS ?_
        refine h_done (by kernel_rfl) ?_
        refine (?_ : C _ _ _ _ _ _ _ (Own w [] [Res.row b3 24 (ConfD.cells cc), (Res.opt f1 (Res.vec 3 1 cc.vv cc.vs.length (cc.vs.flatMap I1))), (Res.opt f2 (Res.vec 3 1 cc.lv cc.ls.length (cc.ls.flatMap I1))), Res.vec 3 1 a1_ vs2_.length (vs2_.flatMap I1), Res.vec 3 1 b3_ ls4_.length (ls4_.flatMap I1), Res.row b8 24 [a1_, b3_]])) _ hw
        refine c_seq ?_
        refine c_reg ?_
        refine l_mv rfl ?_
        refine l_ne rfl rfl rfl ?_
        refine l_end ?_
        refine c_dec rfl (fun c3 => ?_) (fun c3 => ?_)
        ·
          refine c_exitC rfl ?_
          refine c_last ?_
          refine l_mv rfl ?_
          refine l_add rfl rfl (wi64 (by omega)) rfl ?_
          refine l_as rfl ?_
          exact l_nil (fun w' hw => ⟨i + 1, cc, f1, f2, ⟨rfl, rfl, rfl, rfl, trivial⟩, ⟨⟨by omega, hok1⟩, hr1, hr2⟩, hw.sel [0,1,2] rfl (by decide), (by omega)⟩)
        ·
          have hP := hp (Decidable.not_not.1 c3)
          refine c_skipC ?_
          refine c_seq ?_
          refine c_reg ?_
          refine l_ldr (cs := [a1_, b3_]) 5 rfl rfl (by kernel_rfl) rfl ?_
          refine l_call (by kernel_rfl) rfl rfl (fun w' hw => ?_)
          refine (check_s ({ vv := a1_, vs := vs2_, lv := b3_, ls := ls4_ } : ConfD) w' (by first | assumption | omega | (simp <;> omega) | (constructor <;> (first | omega | (simp only [LenOk]; omega) | (simp <;> omega)))) ⟨(hw.rdVec0 3 rfl), (hw.rdVec0 4 rfl)⟩).mono ?_
          rintro _ w1 ⟨rfl, hO⟩
          refine (?_ : CL _ _ _ _ _ _ (Own w [] [Res.row b3 24 (ConfD.cells cc), (Res.opt f1 (Res.vec 3 1 cc.vv cc.vs.length (cc.vs.flatMap I1))), (Res.opt f2 (Res.vec 3 1 cc.lv cc.ls.length (cc.ls.flatMap I1))), Res.vec 3 1 a1_ vs2_.length (vs2_.flatMap I1), Res.vec 3 1 b3_ ls4_.length (ls4_.flatMap I1), Res.row b8 24 [a1_, b3_]])) w1 (hw.frame0 hO)
          refine l_ne rfl rfl rfl ?_
          refine l_mv rfl ?_
          refine l_bor (q := (errOf ({ vv := a1_, vs := vs2_, lv := b3_, ls := ls4_ } : ConfD).ok) ≠ 0) 4 3 [60, 59, 58, 57] (((vs2_.length : Nat) : Int) = 0) rfl rfl rfl rfl rfl rfl trivial rfl (fun h8_3 => ?_) (fun g8_8 => ?_)
          ·
            refine l_on rfl (gF h8_3) ?_
            refine l_fld (o := 0) rfl (by kernel_rfl) rfl ?_
            refine l_on rfl (gF h8_3) ?_
            refine l_ldo 5 (v := a1_) rfl rfl rfl (by kernel_rfl) rfl ?_
            refine l_on rfl (gF h8_3) ?_
            refine l_lenS (len := vs2_.length) (cs := (vs2_.flatMap I1)) (by kernel_rfl) rfl (fun w' hw' => Vec.sl (Own.holds hw' 3 _ rfl)) rfl ?_
            refine l_on rfl (gF h8_3) ?_
            refine l_eq rfl rfl rfl ?_
            exact l_nil (fun w' hw => ⟨(by repeat (first | exact Out.refl _ _ | refine Out.upd rfl ?_ | refine Out.msk rfl ?_)), rfl, hw⟩)
          refine l_end ?_
          refine c_dec rfl (fun c4 => ?_) (fun c4 => ?_)
          ·
            exact absurd c4 (fun q => q.elim (fun q => q (errOf_zero.2 hP.1)) (fun q => by have := hP.1.1.2; simp only at this; omega))
          ·
            refine c_skipC ?_
            refine c_seq ?_
            refine c_reg ?_
            refine l_as rfl ?_
            refine l_end ?_
            refine c_block ?_
            refine c_loop1 (fun (j : Nat) => [(1, kv), (2, iv), (3, .pointer (some ⟨b3, 0, none⟩)), (7, .int .i64 (i : Nat)), (8, .pointer (some ⟨b8, 0, none⟩)), (10, .int .i64 (j : Nat))]) (fun (j : Nat) => 1 ≤ j ∧ j ≤ 17) (fun (j : Nat) => [Res.row b3 24 (ConfD.cells cc), (Res.opt f1 (Res.vec 3 1 cc.vv cc.vs.length (cc.vs.flatMap I1))), (Res.opt f2 (Res.vec 3 1 cc.lv cc.ls.length (cc.ls.flatMap I1))), Res.vec 3 1 a1_ vs2_.length (vs2_.flatMap I1), Res.vec 3 1 b3_ ls4_.length (ls4_.flatMap I1), Res.row b8 24 [a1_, b3_]]) (fun (j : Nat) => 17 - j) (fun w' hw => ⟨1, ⟨rfl, rfl, rfl, rfl, rfl, rfl, trivial⟩, ⟨by omega, by omega⟩, hw⟩) (fun j g hΦ => ?_)
            refine c_seq ?_
            refine c_reg ?_
            refine l_mv rfl ?_
            refine l_leq rfl rfl rfl ?_
            refine l_end ?_
            refine c_dec rfl (fun c5 => ?_) (fun c5 => ?_)
            ·
              refine c_skipC ?_
              refine c_seq ?_
              refine c_block ?_
              refine c_seq ?_
              refine c_heldo [0, 1, 2, 3, 4, 5] rfl (by decide) (by kernel_rfl) (fun w' hw hS => ?_)
              refine h_take 0 rfl (by kernel_rfl) (by kernel_rfl) (by kernel_rfl) (v_mv) rfl hS ?_
              refine h_take 1 rfl (by kernel_rfl) (by kernel_rfl) (by kernel_rfl) (v_mv) rfl hS ?_
              refine h_take 2 rfl (by kernel_rfl) (by kernel_rfl) (by kernel_rfl) (v_mv) rfl hS ?_
              refine h_take 3 rfl (by kernel_rfl) (by kernel_rfl) (by kernel_rfl) (v_idxS (j := i) (sz := 1) (len := is.length) (cs := (is.flatMap I1)) rfl rfl (by kernel_rfl) (fun w' hw' => Own.rd hi hw') rfl (by omega)) rfl hS ?_
              refine h_take 4 rfl (by kernel_rfl) (by kernel_rfl) (by kernel_rfl) (v_ldS (v := iv) (off := offV iv + i * 1) (i * 1 + 0) (cs := (is.flatMap I1)) rfl (by omega) (fun w' hw' => Own.rd hi hw') (flat_at (sz := 1) (fun _ => rfl) (nth_some (by omega)) (i := 0) rfl) (by kernel_rfl)) rfl hS ?_
              refine h_take 5 rfl (by kernel_rfl) (by kernel_rfl) (by kernel_rfl) (v_ne rfl rfl) rfl hS ?_
              refine h_take 6 rfl (by kernel_rfl) (by kernel_rfl) (by kernel_rfl) (v_mv) rfl hS ?_
              by_cases g13_6 : ((j : Nat) : Int) ≠ (nth is i)
              ·
                refine h_takeg 7 rfl rfl (gT g13_6) (by kernel_rfl) (by kernel_rfl) (by kernel_rfl) (v_ldr (cs := (ConfD.cells cc)) 0 rfl rfl (by kernel_rfl)) rfl hS ?_
                refine h_takeg 8 rfl rfl (gT g13_6) (by kernel_rfl) (by kernel_rfl) (by kernel_rfl) (v_mv) rfl hS ?_
                refine h_takeg 10 rfl rfl (gT g13_6) (by kernel_rfl) (by kernel_rfl) (by kernel_rfl) (v_ldr (cs := [a1_, b3_]) 5 rfl rfl (by kernel_rfl)) rfl hS ?_
                refine h_takeg 11 rfl rfl (gT g13_6) (by kernel_rfl) (by kernel_rfl) (by kernel_rfl) (v_mv) rfl hS ?_
                refine h_one 9 (by kernel_rfl) rfl hw ?_
                refine l_on rfl (gT g13_6) ?_
                refine l_call (by kernel_rfl) rfl rfl (fun w' hw => ?_)
                refine (rvoter_s cc ((j : Nat) : Int) w' (by first | assumption | omega | (simp <;> omega) | (constructor <;> (first | omega | (simp only [LenOk]; omega) | (simp <;> omega)))) ⟨(opt_rd 1 rfl hw (hr1.elim .inl (fun h => .inr (by rw [h.1, h.2]; exact hw.rd0 rd_c.vv)))), (opt_rd 2 rfl hw (hr2.elim .inl (fun h => .inr (by rw [h.1, h.2]; exact hw.rd0 rd_c.lv))))⟩).mono ?_
                rintro _ w1 ⟨rfl, hO⟩
                refine (?_ : CL _ _ _ _ _ _ (Own w [] [Res.row b3 24 (ConfD.cells cc), (Res.opt f1 (Res.vec 3 1 cc.vv cc.vs.length (cc.vs.flatMap I1))), (Res.opt f2 (Res.vec 3 1 cc.lv cc.ls.length (cc.ls.flatMap I1))), Res.vec 3 1 a1_ vs2_.length (vs2_.flatMap I1), Res.vec 3 1 b3_ ls4_.length (ls4_.flatMap I1), Res.row b8 24 [a1_, b3_]])) w1 (hw.frame0 hO)
                refine l_nil (fun w' hw => ?_)
                have hS := hw.sel [0, 1, 2, 3, 4, 5] rfl (by decide)
                refine ⟨hS, ?_⟩
                refine h_one 12 (by kernel_rfl) rfl hw ?_
                refine l_on rfl (gT g13_6) ?_
                refine l_call (by kernel_rfl) rfl rfl (fun w' hw => ?_)
                refine (rvoter_s ({ vv := a1_, vs := vs2_, lv := b3_, ls := ls4_ } : ConfD) ((j : Nat) : Int) w' (by first | assumption | omega | (simp <;> omega) | (constructor <;> (first | omega | (simp only [LenOk]; omega) | (simp <;> omega)))) ⟨(hw.rdVec0 3 rfl), (hw.rdVec0 4 rfl)⟩).mono ?_
                rintro _ w1 ⟨rfl, hO⟩
                refine (?_ : CL _ _ _ _ _ _ (Own w [] [Res.row b3 24 (ConfD.cells cc), (Res.opt f1 (Res.vec 3 1 cc.vv cc.vs.length (cc.vs.flatMap I1))), (Res.opt f2 (Res.vec 3 1 cc.lv cc.ls.length (cc.ls.flatMap I1))), Res.vec 3 1 a1_ vs2_.length (vs2_.flatMap I1), Res.vec 3 1 b3_ ls4_.length (ls4_.flatMap I1), Res.row b8 24 [a1_, b3_]])) w1 (hw.frame0 hO)
                refine l_nil (fun w' hw => ?_)
                have hS := hw.sel [0, 1, 2, 3, 4, 5] rfl (by decide)
                refine ⟨hS, ?_⟩
                refine h_takeg 13 rfl rfl (gT g13_6) (by kernel_rfl) (by kernel_rfl) (by kernel_rfl) (v_bnep (by kernel_rfl) rfl rfl) rfl hS ?_
                refine h_takeg 14 rfl rfl (gT g13_6) (by kernel_rfl) (by kernel_rfl) (by kernel_rfl) (v_mv) rfl hS ?_
                by_cases g13_14 : ¬ ((cc.ok ∧ ((j : Nat) : Int) ∈ cc.vs) ↔ (({ vv := a1_, vs := vs2_, lv := b3_, ls := ls4_ } : ConfD).ok ∧ ((j : Nat) : Int) ∈ ({ vv := a1_, vs := vs2_, lv := b3_, ls := ls4_ } : ConfD).vs))
                ·
                  refine h_offg 15 rfl rfl (gT g13_14) rfl (by kernel_rfl) (by kernel_rfl) (by kernel_rfl) rfl hS ?_
                  refine h_offg 16 rfl rfl (gT g13_14) rfl (by kernel_rfl) (by kernel_rfl) (by kernel_rfl) rfl hS ?_
                  refine h_offg 17 rfl rfl (gT g13_14) rfl (by kernel_rfl) (by kernel_rfl) (by kernel_rfl) rfl hS ?_
                  refine h_offg 18 rfl rfl (gT g13_14) rfl (by kernel_rfl) (by kernel_rfl) (by kernel_rfl) rfl hS ?_
                  refine h_offg 19 rfl rfl (gT g13_14) rfl (by kernel_rfl) (by kernel_rfl) (by kernel_rfl) rfl hS ?_
                  refine h_offg 20 rfl rfl (gT g13_14) rfl (by kernel_rfl) (by kernel_rfl) (by kernel_rfl) rfl hS ?_
                  refine h_offg 21 rfl rfl (gT g13_14) rfl (by kernel_rfl) (by kernel_rfl) (by kernel_rfl) rfl hS ?_
                  refine h_takeg 22 rfl rfl (gT g13_6) (by kernel_rfl) (by kernel_rfl) (by kernel_rfl) (v_pickT (gT g13_14)) rfl hS ?_
                  refine h_take 23 rfl (by kernel_rfl) (by kernel_rfl) (by kernel_rfl) (v_pickT (gT g13_6)) rfl hS ?_
                  refine h_done (by kernel_rfl) ?_
                  refine (?_ : C _ _ _ _ _ _ _ (Own w [] [Res.row b3 24 (ConfD.cells cc), (Res.opt f1 (Res.vec 3 1 cc.vv cc.vs.length (cc.vs.flatMap I1))), (Res.opt f2 (Res.vec 3 1 cc.lv cc.ls.length (cc.ls.flatMap I1))), Res.vec 3 1 a1_ vs2_.length (vs2_.flatMap I1), Res.vec 3 1 b3_ ls4_.length (ls4_.flatMap I1), Res.row b8 24 [a1_, b3_]])) _ hw
                  refine c_yes rfl ?_
                  refine c_reg ?_
                  refine l_as rfl ?_
                  refine l_end ?_
                  exact c_ret (ret1 (v := .bool false) rfl rfl (fun w' hw => ⟨(absurd (and_congr (iff_of_true hok1 hP.1) (hP.2.1 _ g13_6).1) g13_14), hw.drop⟩))
                ·
                  refine h_takeg 15 rfl rfl (gF g13_14) (by kernel_rfl) (by kernel_rfl) (by kernel_rfl) (v_ldr (cs := (ConfD.cells cc)) 0 rfl rfl (by kernel_rfl)) rfl hS ?_
                  refine h_takeg 16 rfl rfl (gF g13_14) (by kernel_rfl) (by kernel_rfl) (by kernel_rfl) (v_mv) rfl hS ?_
                  refine h_takeg 18 rfl rfl (gF g13_14) (by kernel_rfl) (by kernel_rfl) (by kernel_rfl) (v_ldr (cs := [a1_, b3_]) 5 rfl rfl (by kernel_rfl)) rfl hS ?_
                  refine h_takeg 19 rfl rfl (gF g13_14) (by kernel_rfl) (by kernel_rfl) (by kernel_rfl) (v_mv) rfl hS ?_
                  refine h_one 17 (by kernel_rfl) rfl hw ?_
                  refine l_on rfl (gF g13_14) ?_
                  refine l_call (by kernel_rfl) rfl rfl (fun w' hw => ?_)
                  refine (rmember_s cc ((j : Nat) : Int) w' (by first | assumption | omega | (simp <;> omega) | (constructor <;> (first | omega | (simp only [LenOk]; omega) | (simp <;> omega)))) ⟨(opt_rd 1 rfl hw (hr1.elim .inl (fun h => .inr (by rw [h.1, h.2]; exact hw.rd0 rd_c.vv)))), (opt_rd 2 rfl hw (hr2.elim .inl (fun h => .inr (by rw [h.1, h.2]; exact hw.rd0 rd_c.lv))))⟩).mono ?_
                  rintro _ w1 ⟨rfl, hO⟩
                  refine (?_ : CL _ _ _ _ _ _ (Own w [] [Res.row b3 24 (ConfD.cells cc), (Res.opt f1 (Res.vec 3 1 cc.vv cc.vs.length (cc.vs.flatMap I1))), (Res.opt f2 (Res.vec 3 1 cc.lv cc.ls.length (cc.ls.flatMap I1))), Res.vec 3 1 a1_ vs2_.length (vs2_.flatMap I1), Res.vec 3 1 b3_ ls4_.length (ls4_.flatMap I1), Res.row b8 24 [a1_, b3_]])) w1 (hw.frame0 hO)
                  refine l_nil (fun w' hw => ?_)
                  have hS := hw.sel [0, 1, 2, 3, 4, 5] rfl (by decide)
                  refine ⟨hS, ?_⟩
                  refine h_one 20 (by kernel_rfl) rfl hw ?_
                  refine l_on rfl (gF g13_14) ?_
                  refine l_call (by kernel_rfl) rfl rfl (fun w' hw => ?_)
                  refine (rmember_s ({ vv := a1_, vs := vs2_, lv := b3_, ls := ls4_ } : ConfD) ((j : Nat) : Int) w' (by first | assumption | omega | (simp <;> omega) | (constructor <;> (first | omega | (simp only [LenOk]; omega) | (simp <;> omega)))) ⟨(hw.rdVec0 3 rfl), (hw.rdVec0 4 rfl)⟩).mono ?_
                  rintro _ w1 ⟨rfl, hO⟩
                  refine (?_ : CL _ _ _ _ _ _ (Own w [] [Res.row b3 24 (ConfD.cells cc), (Res.opt f1 (Res.vec 3 1 cc.vv cc.vs.length (cc.vs.flatMap I1))), (Res.opt f2 (Res.vec 3 1 cc.lv cc.ls.length (cc.ls.flatMap I1))), Res.vec 3 1 a1_ vs2_.length (vs2_.flatMap I1), Res.vec 3 1 b3_ ls4_.length (ls4_.flatMap I1), Res.row b8 24 [a1_, b3_]])) w1 (hw.frame0 hO)
                  refine l_nil (fun w' hw => ?_)
                  have hS := hw.sel [0, 1, 2, 3, 4, 5] rfl (by decide)
                  refine ⟨hS, ?_⟩
                  refine h_takeg 21 rfl rfl (gF g13_14) (by kernel_rfl) (by kernel_rfl) (by kernel_rfl) (v_bnep (by kernel_rfl) rfl rfl) rfl hS ?_
                  refine h_takeg 22 rfl rfl (gT g13_6) (by kernel_rfl) (by kernel_rfl) (by kernel_rfl) (v_pickF (gF g13_14)) rfl hS ?_
                  refine h_take 23 rfl (by kernel_rfl) (by kernel_rfl) (by kernel_rfl) (v_pickT (gT g13_6)) rfl hS ?_
                  refine h_done (by kernel_rfl) ?_
                  refine (?_ : C _ _ _ _ _ _ _ (Own w [] [Res.row b3 24 (ConfD.cells cc), (Res.opt f1 (Res.vec 3 1 cc.vv cc.vs.length (cc.vs.flatMap I1))), (Res.opt f2 (Res.vec 3 1 cc.lv cc.ls.length (cc.ls.flatMap I1))), Res.vec 3 1 a1_ vs2_.length (vs2_.flatMap I1), Res.vec 3 1 b3_ ls4_.length (ls4_.flatMap I1), Res.row b8 24 [a1_, b3_]])) _ hw
                  refine c_dec rfl (fun c7 => ?_) (fun c7 => ?_)
                  ·
                    refine c_reg ?_
                    refine l_as rfl ?_
                    refine l_end ?_
                    exact c_ret (ret1 (v := .bool false) rfl rfl (fun w' hw => ⟨(absurd (and_congr (iff_of_true hok1 hP.1) (or_congr (hP.2.1 _ g13_6).1 (hP.2.1 _ g13_6).2)) c7), hw.drop⟩))
                  ·
                    refine c_skipC ?_
                    refine c_last ?_
                    refine l_mv rfl ?_
                    refine l_add rfl rfl (wi64 (by omega)) rfl ?_
                    refine l_as rfl ?_
                    exact l_nil (fun w' hw => ⟨j + 1, ⟨rfl, rfl, rfl, rfl, rfl, rfl, trivial⟩, (by omega), hw, (by omega)⟩)
              ·
                refine h_offg 7 rfl rfl (gF g13_6) rfl (by kernel_rfl) (by kernel_rfl) (by kernel_rfl) rfl hS ?_
                refine h_offg 8 rfl rfl (gF g13_6) rfl (by kernel_rfl) (by kernel_rfl) (by kernel_rfl) rfl hS ?_
                refine h_offg 9 rfl rfl (gF g13_6) rfl (by kernel_rfl) (by kernel_rfl) (by kernel_rfl) rfl hS ?_
                refine h_offg 10 rfl rfl (gF g13_6) rfl (by kernel_rfl) (by kernel_rfl) (by kernel_rfl) rfl hS ?_
                refine h_offg 11 rfl rfl (gF g13_6) rfl (by kernel_rfl) (by kernel_rfl) (by kernel_rfl) rfl hS ?_
                refine h_offg 12 rfl rfl (gF g13_6) rfl (by kernel_rfl) (by kernel_rfl) (by kernel_rfl) rfl hS ?_
                refine h_offg 13 rfl rfl (gF g13_6) rfl (by kernel_rfl) (by kernel_rfl) (by kernel_rfl) rfl hS ?_
                refine h_offg 14 rfl rfl (gF g13_6) rfl (by kernel_rfl) (by kernel_rfl) (by kernel_rfl) rfl hS ?_
                refine h_offu 15 rfl rfl rfl (by kernel_rfl) (by kernel_rfl) (by kernel_rfl) rfl hS ?_
                refine h_offu 16 rfl rfl rfl (by kernel_rfl) (by kernel_rfl) (by kernel_rfl) rfl hS ?_
                refine h_offu 17 rfl rfl rfl (by kernel_rfl) (by kernel_rfl) (by kernel_rfl) rfl hS ?_
                refine h_offu 18 rfl rfl rfl (by kernel_rfl) (by kernel_rfl) (by kernel_rfl) rfl hS ?_
                refine h_offu 19 rfl rfl rfl (by kernel_rfl) (by kernel_rfl) (by kernel_rfl) rfl hS ?_
                refine h_offu 20 rfl rfl rfl (by kernel_rfl) (by kernel_rfl) (by kernel_rfl) rfl hS ?_
                refine h_offu 21 rfl rfl rfl (by kernel_rfl) (by kernel_rfl) (by kernel_rfl) rfl hS ?_
                refine h_offg 22 rfl rfl (gF g13_6) rfl (by kernel_rfl) (by kernel_rfl) (by kernel_rfl) rfl hS ?_
                refine h_take 23 rfl (by kernel_rfl) (by kernel_rfl) (by kernel_rfl) (v_pickF (gF g13_6)) rfl hS ?_
                refine h_done (by kernel_rfl) ?_
                refine (?_ : C _ _ _ _ _ _ _ (Own w [] [Res.row b3 24 (ConfD.cells cc), (Res.opt f1 (Res.vec 3 1 cc.vv cc.vs.length (cc.vs.flatMap I1))), (Res.opt f2 (Res.vec 3 1 cc.lv cc.ls.length (cc.ls.flatMap I1))), Res.vec 3 1 a1_ vs2_.length (vs2_.flatMap I1), Res.vec 3 1 b3_ ls4_.length (ls4_.flatMap I1), Res.row b8 24 [a1_, b3_]])) _ hw
                refine c_no rfl ?_
                refine c_skipC ?_
                refine c_last ?_
                refine l_mv rfl ?_
                refine l_add rfl rfl (wi64 (by omega)) rfl ?_
                refine l_as rfl ?_
                exact l_nil (fun w' hw => ⟨j + 1, ⟨rfl, rfl, rfl, rfl, rfl, rfl, trivial⟩, (by omega), hw, (by omega)⟩)
            ·
              refine c_exitC rfl ?_
              refine c_seq ?_
              refine c_seq ?_
              refine c_heldo [0, 1, 2, 3, 4, 5] rfl (by decide) (by kernel_rfl) (fun w' hw hS => ?_)
              refine h_take 0 rfl (by kernel_rfl) (by kernel_rfl) (by kernel_rfl) (v_ldr (cs := (ConfD.cells cc)) 0 rfl rfl (by kernel_rfl)) rfl hS ?_
              refine h_take 1 rfl (by kernel_rfl) (by kernel_rfl) (by kernel_rfl) (v_mv) rfl hS ?_
              refine h_take 2 rfl (by kernel_rfl) (by kernel_rfl) (by kernel_rfl) (v_mv) rfl hS ?_
              refine h_take 3 rfl (by kernel_rfl) (by kernel_rfl) (by kernel_rfl) (v_idxS (j := i) (sz := 1) (len := is.length) (cs := (is.flatMap I1)) rfl rfl (by kernel_rfl) (fun w' hw' => Own.rd hi hw') rfl (by omega)) rfl hS ?_
              refine h_take 4 rfl (by kernel_rfl) (by kernel_rfl) (by kernel_rfl) (v_ldS (v := iv) (off := offV iv + i * 1) (i * 1 + 0) (cs := (is.flatMap I1)) rfl (by omega) (fun w' hw' => Own.rd hi hw') (flat_at (sz := 1) (fun _ => rfl) (nth_some (by omega)) (i := 0) rfl) (by kernel_rfl)) rfl hS ?_
              refine h_take 6 rfl (by kernel_rfl) (by kernel_rfl) (by kernel_rfl) (v_ldr (cs := [a1_, b3_]) 5 rfl rfl (by kernel_rfl)) rfl hS ?_
              refine h_take 7 rfl (by kernel_rfl) (by kernel_rfl) (by kernel_rfl) (v_mv) rfl hS ?_
              refine h_take 8 rfl (by kernel_rfl) (by kernel_rfl) (by kernel_rfl) (v_mv) rfl hS ?_
              refine h_take 9 rfl (by kernel_rfl) (by kernel_rfl) (by kernel_rfl) (v_idxS (j := i) (sz := 1) (len := is.length) (cs := (is.flatMap I1)) rfl rfl (by kernel_rfl) (fun w' hw' => Own.rd hi hw') rfl (by omega)) rfl hS ?_
              refine h_take 10 rfl (by kernel_rfl) (by kernel_rfl) (by kernel_rfl) (v_ldS (v := iv) (off := offV iv + i * 1) (i * 1 + 0) (cs := (is.flatMap I1)) rfl (by omega) (fun w' hw' => Own.rd hi hw') (flat_at (sz := 1) (fun _ => rfl) (nth_some (by omega)) (i := 0) rfl) (by kernel_rfl)) rfl hS ?_
              refine h_one 5 (by kernel_rfl) rfl hw ?_
              refine l_call (by kernel_rfl) rfl rfl (fun w' hw => ?_)
              refine (rvoter_s cc (nth is i) w' (by first | assumption | omega | (simp <;> omega) | (constructor <;> (first | omega | (simp only [LenOk]; omega) | (simp <;> omega)))) ⟨(opt_rd 1 rfl hw (hr1.elim .inl (fun h => .inr (by rw [h.1, h.2]; exact hw.rd0 rd_c.vv)))), (opt_rd 2 rfl hw (hr2.elim .inl (fun h => .inr (by rw [h.1, h.2]; exact hw.rd0 rd_c.lv))))⟩).mono ?_
              rintro _ w1 ⟨rfl, hO⟩
              refine (?_ : CL _ _ _ _ _ _ (Own w [] [Res.row b3 24 (ConfD.cells cc), (Res.opt f1 (Res.vec 3 1 cc.vv cc.vs.length (cc.vs.flatMap I1))), (Res.opt f2 (Res.vec 3 1 cc.lv cc.ls.length (cc.ls.flatMap I1))), Res.vec 3 1 a1_ vs2_.length (vs2_.flatMap I1), Res.vec 3 1 b3_ ls4_.length (ls4_.flatMap I1), Res.row b8 24 [a1_, b3_]])) w1 (hw.frame0 hO)
              refine l_nil (fun w' hw => ?_)
              have hS := hw.sel [0, 1, 2, 3, 4, 5] rfl (by decide)
              refine ⟨hS, ?_⟩
              refine h_one 11 (by kernel_rfl) rfl hw ?_
              refine l_call (by kernel_rfl) rfl rfl (fun w' hw => ?_)
              refine (rvoter_s ({ vv := a1_, vs := vs2_, lv := b3_, ls := ls4_ } : ConfD) (nth is i) w' (by first | assumption | omega | (simp <;> omega) | (constructor <;> (first | omega | (simp only [LenOk]; omega) | (simp <;> omega)))) ⟨(hw.rdVec0 3 rfl), (hw.rdVec0 4 rfl)⟩).mono ?_
              rintro _ w1 ⟨rfl, hO⟩
              refine (?_ : CL _ _ _ _ _ _ (Own w [] [Res.row b3 24 (ConfD.cells cc), (Res.opt f1 (Res.vec 3 1 cc.vv cc.vs.length (cc.vs.flatMap I1))), (Res.opt f2 (Res.vec 3 1 cc.lv cc.ls.length (cc.ls.flatMap I1))), Res.vec 3 1 a1_ vs2_.length (vs2_.flatMap I1), Res.vec 3 1 b3_ ls4_.length (ls4_.flatMap I1), Res.row b8 24 [a1_, b3_]])) w1 (hw.frame0 hO)
              refine l_nil (fun w' hw => ?_)
              have hS := hw.sel [0, 1, 2, 3, 4, 5] rfl (by decide)
              refine ⟨hS, ?_⟩
              refine h_take 12 rfl (by kernel_rfl) (by kernel_rfl) (by kernel_rfl) (v_beqp (by kernel_rfl) rfl rfl) rfl hS ?_
              refine h_take 13 rfl (by kernel_rfl) (by kernel_rfl) (by kernel_rfl) (v_mv) rfl hS ?_
              by_cases g15_13 : (cc.ok ∧ (nth is i) ∈ cc.vs) ↔ (({ vv := a1_, vs := vs2_, lv := b3_, ls := ls4_ } : ConfD).ok ∧ (nth is i) ∈ ({ vv := a1_, vs := vs2_, lv := b3_, ls := ls4_ } : ConfD).vs)
              ·
                refine h_takeg 14 rfl rfl (gT g15_13) (by kernel_rfl) (by kernel_rfl) (by kernel_rfl) (v_ldr (cs := (ConfD.cells cc)) 0 rfl rfl (by kernel_rfl)) rfl hS ?_
                refine h_takeg 15 rfl rfl (gT g15_13) (by kernel_rfl) (by kernel_rfl) (by kernel_rfl) (v_mv) rfl hS ?_
                refine h_takeg 16 rfl rfl (gT g15_13) (by kernel_rfl) (by kernel_rfl) (by kernel_rfl) (v_mv) rfl hS ?_
                refine h_takeg 17 rfl rfl (gT g15_13) (by kernel_rfl) (by kernel_rfl) (by kernel_rfl) (v_idxS (j := i) (sz := 1) (len := is.length) (cs := (is.flatMap I1)) rfl rfl (by kernel_rfl) (fun w' hw' => Own.rd hi hw') rfl (by omega)) rfl hS ?_
                refine h_takeg 18 rfl rfl (gT g15_13) (by kernel_rfl) (by kernel_rfl) (by kernel_rfl) (v_ldS (v := iv) (off := offV iv + i * 1) (i * 1 + 0) (cs := (is.flatMap I1)) rfl (by omega) (fun w' hw' => Own.rd hi hw') (flat_at (sz := 1) (fun _ => rfl) (nth_some (by omega)) (i := 0) rfl) (by kernel_rfl)) rfl hS ?_
                refine h_takeg 20 rfl rfl (gT g15_13) (by kernel_rfl) (by kernel_rfl) (by kernel_rfl) (v_ldr (cs := [a1_, b3_]) 5 rfl rfl (by kernel_rfl)) rfl hS ?_
                refine h_takeg 21 rfl rfl (gT g15_13) (by kernel_rfl) (by kernel_rfl) (by kernel_rfl) (v_mv) rfl hS ?_
                refine h_takeg 22 rfl rfl (gT g15_13) (by kernel_rfl) (by kernel_rfl) (by kernel_rfl) (v_mv) rfl hS ?_
                refine h_takeg 23 rfl rfl (gT g15_13) (by kernel_rfl) (by kernel_rfl) (by kernel_rfl) (v_idxS (j := i) (sz := 1) (len := is.length) (cs := (is.flatMap I1)) rfl rfl (by kernel_rfl) (fun w' hw' => Own.rd hi hw') rfl (by omega)) rfl hS ?_
                refine h_takeg 24 rfl rfl (gT g15_13) (by kernel_rfl) (by kernel_rfl) (by kernel_rfl) (v_ldS (v := iv) (off := offV iv + i * 1) (i * 1 + 0) (cs := (is.flatMap I1)) rfl (by omega) (fun w' hw' => Own.rd hi hw') (flat_at (sz := 1) (fun _ => rfl) (nth_some (by omega)) (i := 0) rfl) (by kernel_rfl)) rfl hS ?_
                refine h_one 19 (by kernel_rfl) rfl hw ?_
                refine l_on rfl (gT g15_13) ?_
                refine l_call (by kernel_rfl) rfl rfl (fun w' hw => ?_)
                refine (rmember_s cc (nth is i) w' (by first | assumption | omega | (simp <;> omega) | (constructor <;> (first | omega | (simp only [LenOk]; omega) | (simp <;> omega)))) ⟨(opt_rd 1 rfl hw (hr1.elim .inl (fun h => .inr (by rw [h.1, h.2]; exact hw.rd0 rd_c.vv)))), (opt_rd 2 rfl hw (hr2.elim .inl (fun h => .inr (by rw [h.1, h.2]; exact hw.rd0 rd_c.lv))))⟩).mono ?_
                rintro _ w1 ⟨rfl, hO⟩
                refine (?_ : CL _ _ _ _ _ _ (Own w [] [Res.row b3 24 (ConfD.cells cc), (Res.opt f1 (Res.vec 3 1 cc.vv cc.vs.length (cc.vs.flatMap I1))), (Res.opt f2 (Res.vec 3 1 cc.lv cc.ls.length (cc.ls.flatMap I1))), Res.vec 3 1 a1_ vs2_.length (vs2_.flatMap I1), Res.vec 3 1 b3_ ls4_.length (ls4_.flatMap I1), Res.row b8 24 [a1_, b3_]])) w1 (hw.frame0 hO)
                refine l_nil (fun w' hw => ?_)
                have hS := hw.sel [0, 1, 2, 3, 4, 5] rfl (by decide)
                refine ⟨hS, ?_⟩
                refine h_one 25 (by kernel_rfl) rfl hw ?_
                refine l_on rfl (gT g15_13) ?_
                refine l_call (by kernel_rfl) rfl rfl (fun w' hw => ?_)
                refine (rmember_s ({ vv := a1_, vs := vs2_, lv := b3_, ls := ls4_ } : ConfD) (nth is i) w' (by first | assumption | omega | (simp <;> omega) | (constructor <;> (first | omega | (simp only [LenOk]; omega) | (simp <;> omega)))) ⟨(hw.rdVec0 3 rfl), (hw.rdVec0 4 rfl)⟩).mono ?_
                rintro _ w1 ⟨rfl, hO⟩
                refine (?_ : CL _ _ _ _ _ _ (Own w [] [Res.row b3 24 (ConfD.cells cc), (Res.opt f1 (Res.vec 3 1 cc.vv cc.vs.length (cc.vs.flatMap I1))), (Res.opt f2 (Res.vec 3 1 cc.lv cc.ls.length (cc.ls.flatMap I1))), Res.vec 3 1 a1_ vs2_.length (vs2_.flatMap I1), Res.vec 3 1 b3_ ls4_.length (ls4_.flatMap I1), Res.row b8 24 [a1_, b3_]])) w1 (hw.frame0 hO)
                refine l_nil (fun w' hw => ?_)
                have hS := hw.sel [0, 1, 2, 3, 4, 5] rfl (by decide)
                refine ⟨hS, ?_⟩
                refine h_takeg 26 rfl rfl (gT g15_13) (by kernel_rfl) (by kernel_rfl) (by kernel_rfl) (v_beqp (by kernel_rfl) rfl rfl) rfl hS ?_
                refine h_take 27 rfl (by kernel_rfl) (by kernel_rfl) (by kernel_rfl) (v_pickT (gT g15_13)) rfl hS ?_
                refine h_done (by kernel_rfl) ?_
                refine (?_ : C _ _ _ _ _ _ _ (Own w [] [Res.row b3 24 (ConfD.cells cc), (Res.opt f1 (Res.vec 3 1 cc.vv cc.vs.length (cc.vs.flatMap I1))), (Res.opt f2 (Res.vec 3 1 cc.lv cc.ls.length (cc.ls.flatMap I1))), Res.vec 3 1 a1_ vs2_.length (vs2_.flatMap I1), Res.vec 3 1 b3_ ls4_.length (ls4_.flatMap I1), Res.row b8 24 [a1_, b3_]])) _ hw
                refine c_dec rfl (fun c9 => ?_) (fun c9 => ?_)
                ·
                  refine c_reg ?_
                  refine l_as rfl ?_
                  refine l_end ?_
                  exact c_ret (ret1 (v := .bool false) rfl rfl (fun w' hw => ⟨(absurd ⟨strip hok1 hP.1 g15_13, strip hok1 hP.1 c9⟩ hP.2.2), hw.drop⟩))
                ·
                  refine c_skipC ?_
                  refine c_last ?_
                  refine l_ldr (cs := [a1_, b3_]) 5 rfl rfl (by kernel_rfl) rfl ?_
                  refine l_stN (cs := (ConfD.cells cc)) (vs := [a1_, b3_]) 0 rfl rfl rfl (by kernel_rfl) (allc_cons hc1_ (allc_cons hc2_ allc_nil)) (Nat.le_of_ble_eq_true rfl) ?_
                  refine l_end ?_
                  refine c_last ?_
                  refine l_mv rfl ?_
                  refine l_add rfl rfl (wi64 (by omega)) rfl ?_
                  refine l_as rfl ?_
                  exact l_nil (fun w' hw => ⟨i + 1, ⟨a1_, vs2_, b3_, ls4_⟩, true, true, ⟨rfl, rfl, rfl, rfl, trivial⟩, ⟨⟨by omega, hP.1⟩, .inl rfl, .inl rfl⟩, hw.sel [0,3,4] rfl (by decide), (by omega)⟩)
              ·
                refine h_offg 14 rfl rfl (gF g15_13) rfl (by kernel_rfl) (by kernel_rfl) (by kernel_rfl) rfl hS ?_
                refine h_offg 15 rfl rfl (gF g15_13) rfl (by kernel_rfl) (by kernel_rfl) (by kernel_rfl) rfl hS ?_
                refine h_offg 16 rfl rfl (gF g15_13) rfl (by kernel_rfl) (by kernel_rfl) (by kernel_rfl) rfl hS ?_
                refine h_offg 17 rfl rfl (gF g15_13) rfl (by kernel_rfl) (by kernel_rfl) (by kernel_rfl) rfl hS ?_
                refine h_offg 18 rfl rfl (gF g15_13) rfl (by kernel_rfl) (by kernel_rfl) (by kernel_rfl) rfl hS ?_
                refine h_offg 19 rfl rfl (gF g15_13) rfl (by kernel_rfl) (by kernel_rfl) (by kernel_rfl) rfl hS ?_
                refine h_offg 20 rfl rfl (gF g15_13) rfl (by kernel_rfl) (by kernel_rfl) (by kernel_rfl) rfl hS ?_
                refine h_offg 21 rfl rfl (gF g15_13) rfl (by kernel_rfl) (by kernel_rfl) (by kernel_rfl) rfl hS ?_
                refine h_offg 22 rfl rfl (gF g15_13) rfl (by kernel_rfl) (by kernel_rfl) (by kernel_rfl) rfl hS ?_
                refine h_offg 23 rfl rfl (gF g15_13) rfl (by kernel_rfl) (by kernel_rfl) (by kernel_rfl) rfl hS ?_
                refine h_offg 24 rfl rfl (gF g15_13) rfl (by kernel_rfl) (by kernel_rfl) (by kernel_rfl) rfl hS ?_
                refine h_offg 25 rfl rfl (gF g15_13) rfl (by kernel_rfl) (by kernel_rfl) (by kernel_rfl) rfl hS ?_
                refine h_offg 26 rfl rfl (gF g15_13) rfl (by kernel_rfl) (by kernel_rfl) (by kernel_rfl) rfl hS ?_
                refine h_take 27 rfl (by kernel_rfl) (by kernel_rfl) (by kernel_rfl) (v_pickF (gF g15_13)) rfl hS ?_
                refine h_done (by kernel_rfl) ?_
                refine (?_ : C _ _ _ _ _ _ _ (Own w [] [Res.row b3 24 (ConfD.cells cc), (Res.opt f1 (Res.vec 3 1 cc.vv cc.vs.length (cc.vs.flatMap I1))), (Res.opt f2 (Res.vec 3 1 cc.lv cc.ls.length (cc.ls.flatMap I1))), Res.vec 3 1 a1_ vs2_.length (vs2_.flatMap I1), Res.vec 3 1 b3_ ls4_.length (ls4_.flatMap I1), Res.row b8 24 [a1_, b3_]])) _ hw
                refine c_no rfl ?_
                refine c_skipC ?_
                refine c_last ?_
                refine l_ldr (cs := [a1_, b3_]) 5 rfl rfl (by kernel_rfl) rfl ?_
                refine l_stN (cs := (ConfD.cells cc)) (vs := [a1_, b3_]) 0 rfl rfl rfl (by kernel_rfl) (allc_cons hc1_ (allc_cons hc2_ allc_nil)) (Nat.le_of_ble_eq_true rfl) ?_
                refine l_end ?_
                refine c_last ?_
                refine l_mv rfl ?_
                refine l_add rfl rfl (wi64 (by omega)) rfl ?_
                refine l_as rfl ?_
                exact l_nil (fun w' hw => ⟨i + 1, ⟨a1_, vs2_, b3_, ls4_⟩, true, true, ⟨rfl, rfl, rfl, rfl, trivial⟩, ⟨⟨by omega, hP.1⟩, .inl rfl, .inl rfl⟩, hw.sel [0,3,4] rfl (by decide), (by omega)⟩)
      ·
        refine pk_of 16 rfl hw ?_
        refine l_new (v := .agg #[.slice none 0 0, .slice none 0 0]) (by kernel_rfl) rfl (fun b8 => ?_)
        refine l_nil (fun w' hw => ?_)
        have hS := hw.sel [0, 1, 2] rfl (by decide)
        refine ⟨hS, ?_⟩
        refine h_one 12 (by kernel_rfl) rfl hw ?_
        refine l_call (by kernel_rfl) rfl rfl (fun w' hw => ?_)
        refine (change_s (((((nth ks i).toNat) % 3) + 1 : Nat) : Int) cc (nth is i) w' (by first | assumption | omega | (simp <;> omega) | (constructor <;> (first | omega | (simp only [LenOk]; omega) | (simp <;> omega)))) (by first | assumption | omega | (simp <;> omega) | (constructor <;> (first | omega | (simp only [LenOk]; omega) | (simp <;> omega)))) ⟨(opt_rd 1 rfl hw (hr1.elim .inl (fun h => .inr (by rw [h.1, h.2]; exact hw.rd0 rd_c.vv)))), (opt_rd 2 rfl hw (hr2.elim .inl (fun h => .inr (by rw [h.1, h.2]; exact hw.rd0 rd_c.lv))))⟩).mono ?_
        rintro _ w1 ⟨a6_, vs7_, b8_, ls9_, e10_, rfl, hf6_12, hO⟩
        have hln := chg_len hf6_12
        have hfw := few16 hok1
        have hp := chg_path' hf6_12
        refine (?_ : CL _ _ _ _ _ _ (Own w [] [Res.row b3 24 (ConfD.cells cc), (Res.opt f1 (Res.vec 3 1 cc.vv cc.vs.length (cc.vs.flatMap I1))), (Res.opt f2 (Res.vec 3 1 cc.lv cc.ls.length (cc.ls.flatMap I1))), Res.row b8 24 [.slice none 0 0, .slice none 0 0], Res.vec 3 1 a6_ vs7_.length (vs7_.flatMap I1), Res.vec 3 1 b8_ ls9_.length (ls9_.flatMap I1)])) w1 (hw.frame0 hO)
        refine l_nil (fun w' hw => ?_)
        have hS := hw.sel [0, 1, 2] rfl (by decide)
        refine ⟨hS, ?_⟩
        refine h_take 13 rfl (by kernel_rfl) (by kernel_rfl) (by kernel_rfl) (v_mv) rfl hS ?_
        refine h_take 14 rfl (by kernel_rfl) (by kernel_rfl) (by kernel_rfl) (v_ext (vs := [.agg #[a6_, b8_], .int .i64 e10_]) rfl rfl) rfl hS ?_
        refine h_take 15 rfl (by kernel_rfl) (by kernel_rfl) (by kernel_rfl) (v_ext (vs := [.agg #[a6_, b8_], .int .i64 e10_]) rfl rfl) rfl hS ?_
        refine h_one 17 (by kernel_rfl) rfl hw ?_
        refine l_haveO (fun w' hw => Own.cell1Vec (i := 4) rfl hw) (fun hc3_ => ?_)
        refine l_haveO (fun w' hw => Own.cell1Vec (i := 5) rfl hw) (fun hc4_ => ?_)
        refine l_stN (cs := [.slice none 0 0, .slice none 0 0]) (vs := [a6_, b8_]) 3 rfl rfl rfl (by kernel_rfl) (allc_cons hc3_ (allc_cons hc4_ allc_nil)) (Nat.le_of_ble_eq_true rfl) ?_
        refine l_nil (fun w' hw => ?_)
        have hS := hw.sel [0, 1, 2] rfl (by decide)
        refine ⟨hS, ?_⟩
        refine h_take 18 rfl (by kernel_rfl) (by kernel_rfl) (by kernel_rfl) (v_as) rfl hS ?_
        refine h_done (by kernel_rfl) ?_
        refine (?_ : C _ _ _ _ _ _ _ (Own w [] [Res.row b3 24 (ConfD.cells cc), (Res.opt f1 (Res.vec 3 1 cc.vv cc.vs.length (cc.vs.flatMap I1))), (Res.opt f2 (Res.vec 3 1 cc.lv cc.ls.length (cc.ls.flatMap I1))), Res.row b8 24 [a6_, b8_], Res.vec 3 1 a6_ vs7_.length (vs7_.flatMap I1), Res.vec 3 1 b8_ ls9_.length (ls9_.flatMap I1)])) _ hw
        refine c_seq ?_
        refine c_reg ?_
        refine l_mv rfl ?_
        refine l_ne rfl rfl rfl ?_
        refine l_end ?_
        refine c_dec rfl (fun c11 => ?_) (fun c11 => ?_)
        ·
          refine c_exitC rfl ?_
          refine c_last ?_
          refine l_mv rfl ?_
          refine l_add rfl rfl (wi64 (by omega)) rfl ?_
          refine l_as rfl ?_
          exact l_nil (fun w' hw => ⟨i + 1, cc, f1, f2, ⟨rfl, rfl, rfl, rfl, trivial⟩, ⟨⟨by omega, hok1⟩, hr1, hr2⟩, hw.sel [0,1,2] rfl (by decide), (by omega)⟩)
        ·
          have hP := hp (Decidable.not_not.1 c11)
          refine c_skipC ?_
          refine c_seq ?_
          refine c_reg ?_
          refine l_ldr (cs := [a6_, b8_]) 3 rfl rfl (by kernel_rfl) rfl ?_
          refine l_call (by kernel_rfl) rfl rfl (fun w' hw => ?_)
          refine (check_s ({ vv := a6_, vs := vs7_, lv := b8_, ls := ls9_ } : ConfD) w' (by first | assumption | omega | (simp <;> omega) | (constructor <;> (first | omega | (simp only [LenOk]; omega) | (simp <;> omega)))) ⟨(hw.rdVec0 4 rfl), (hw.rdVec0 5 rfl)⟩).mono ?_
          rintro _ w1 ⟨rfl, hO⟩
          refine (?_ : CL _ _ _ _ _ _ (Own w [] [Res.row b3 24 (ConfD.cells cc), (Res.opt f1 (Res.vec 3 1 cc.vv cc.vs.length (cc.vs.flatMap I1))), (Res.opt f2 (Res.vec 3 1 cc.lv cc.ls.length (cc.ls.flatMap I1))), Res.row b8 24 [a6_, b8_], Res.vec 3 1 a6_ vs7_.length (vs7_.flatMap I1), Res.vec 3 1 b8_ ls9_.length (ls9_.flatMap I1)])) w1 (hw.frame0 hO)
          refine l_ne rfl rfl rfl ?_
          refine l_mv rfl ?_
          refine l_bor (q := (errOf ({ vv := a6_, vs := vs7_, lv := b8_, ls := ls9_ } : ConfD).ok) ≠ 0) 4 3 [60, 59, 58, 57] (((vs7_.length : Nat) : Int) = 0) rfl rfl rfl rfl rfl rfl trivial rfl (fun h8_3 => ?_) (fun g8_8 => ?_)
          ·
            refine l_on rfl (gF h8_3) ?_
            refine l_fld (o := 0) rfl (by kernel_rfl) rfl ?_
            refine l_on rfl (gF h8_3) ?_
            refine l_ldo 3 (v := a6_) rfl rfl rfl (by kernel_rfl) rfl ?_
            refine l_on rfl (gF h8_3) ?_
            refine l_lenS (len := vs7_.length) (cs := (vs7_.flatMap I1)) (by kernel_rfl) rfl (fun w' hw' => Vec.sl (Own.holds hw' 4 _ rfl)) rfl ?_
            refine l_on rfl (gF h8_3) ?_
            refine l_eq rfl rfl rfl ?_
            exact l_nil (fun w' hw => ⟨(by repeat (first | exact Out.refl _ _ | refine Out.upd rfl ?_ | refine Out.msk rfl ?_)), rfl, hw⟩)
          refine l_end ?_
          refine c_dec rfl (fun c12 => ?_) (fun c12 => ?_)
          ·
            exact absurd c12 (fun q => q.elim (fun q => q (errOf_zero.2 hP.1)) (fun q => by have := hP.1.1.2; simp only at this; omega))
          ·
            refine c_skipC ?_
            refine c_seq ?_
            refine c_reg ?_
            refine l_as rfl ?_
            refine l_end ?_
            refine c_block ?_
            refine c_loop1 (fun (j : Nat) => [(1, kv), (2, iv), (3, .pointer (some ⟨b3, 0, none⟩)), (7, .int .i64 (i : Nat)), (8, .pointer (some ⟨b8, 0, none⟩)), (10, .int .i64 (j : Nat))]) (fun (j : Nat) => 1 ≤ j ∧ j ≤ 17) (fun (j : Nat) => [Res.row b3 24 (ConfD.cells cc), (Res.opt f1 (Res.vec 3 1 cc.vv cc.vs.length (cc.vs.flatMap I1))), (Res.opt f2 (Res.vec 3 1 cc.lv cc.ls.length (cc.ls.flatMap I1))), Res.row b8 24 [a6_, b8_], Res.vec 3 1 a6_ vs7_.length (vs7_.flatMap I1), Res.vec 3 1 b8_ ls9_.length (ls9_.flatMap I1)]) (fun (j : Nat) => 17 - j) (fun w' hw => ⟨1, ⟨rfl, rfl, rfl, rfl, rfl, rfl, trivial⟩, ⟨by omega, by omega⟩, hw⟩) (fun j g hΦ => ?_)
            refine c_seq ?_
            refine c_reg ?_
            refine l_mv rfl ?_
            refine l_leq rfl rfl rfl ?_
            refine l_end ?_
            refine c_dec rfl (fun c13 => ?_) (fun c13 => ?_)
            ·
              refine c_skipC ?_
              refine c_seq ?_
              refine c_block ?_
              refine c_seq ?_
              refine c_heldo [0, 1, 2, 3, 4, 5] rfl (by decide) (by kernel_rfl) (fun w' hw hS => ?_)
              refine h_take 0 rfl (by kernel_rfl) (by kernel_rfl) (by kernel_rfl) (v_mv) rfl hS ?_
              refine h_take 1 rfl (by kernel_rfl) (by kernel_rfl) (by kernel_rfl) (v_mv) rfl hS ?_
              refine h_take 2 rfl (by kernel_rfl) (by kernel_rfl) (by kernel_rfl) (v_mv) rfl hS ?_
              refine h_take 3 rfl (by kernel_rfl) (by kernel_rfl) (by kernel_rfl) (v_idxS (j := i) (sz := 1) (len := is.length) (cs := (is.flatMap I1)) rfl rfl (by kernel_rfl) (fun w' hw' => Own.rd hi hw') rfl (by omega)) rfl hS ?_
              refine h_take 4 rfl (by kernel_rfl) (by kernel_rfl) (by kernel_rfl) (v_ldS (v := iv) (off := offV iv + i * 1) (i * 1 + 0) (cs := (is.flatMap I1)) rfl (by omega) (fun w' hw' => Own.rd hi hw') (flat_at (sz := 1) (fun _ => rfl) (nth_some (by omega)) (i := 0) rfl) (by kernel_rfl)) rfl hS ?_
              refine h_take 5 rfl (by kernel_rfl) (by kernel_rfl) (by kernel_rfl) (v_ne rfl rfl) rfl hS ?_
              refine h_take 6 rfl (by kernel_rfl) (by kernel_rfl) (by kernel_rfl) (v_mv) rfl hS ?_
              by_cases g13_6 : ((j : Nat) : Int) ≠ (nth is i)
              ·
                refine h_takeg 7 rfl rfl (gT g13_6) (by kernel_rfl) (by kernel_rfl) (by kernel_rfl) (v_ldr (cs := (ConfD.cells cc)) 0 rfl rfl (by kernel_rfl)) rfl hS ?_
                refine h_takeg 8 rfl rfl (gT g13_6) (by kernel_rfl) (by kernel_rfl) (by kernel_rfl) (v_mv) rfl hS ?_
                refine h_takeg 10 rfl rfl (gT g13_6) (by kernel_rfl) (by kernel_rfl) (by kernel_rfl) (v_ldr (cs := [a6_, b8_]) 3 rfl rfl (by kernel_rfl)) rfl hS ?_
                refine h_takeg 11 rfl rfl (gT g13_6) (by kernel_rfl) (by kernel_rfl) (by kernel_rfl) (v_mv) rfl hS ?_
                refine h_one 9 (by kernel_rfl) rfl hw ?_
                refine l_on rfl (gT g13_6) ?_
                refine l_call (by kernel_rfl) rfl rfl (fun w' hw => ?_)
                refine (rvoter_s cc ((j : Nat) : Int) w' (by first | assumption | omega | (simp <;> omega) | (constructor <;> (first | omega | (simp only [LenOk]; omega) | (simp <;> omega)))) ⟨(opt_rd 1 rfl hw (hr1.elim .inl (fun h => .inr (by rw [h.1, h.2]; exact hw.rd0 rd_c.vv)))), (opt_rd 2 rfl hw (hr2.elim .inl (fun h => .inr (by rw [h.1, h.2]; exact hw.rd0 rd_c.lv))))⟩).mono ?_
                rintro _ w1 ⟨rfl, hO⟩
                refine (?_ : CL _ _ _ _ _ _ (Own w [] [Res.row b3 24 (ConfD.cells cc), (Res.opt f1 (Res.vec 3 1 cc.vv cc.vs.length (cc.vs.flatMap I1))), (Res.opt f2 (Res.vec 3 1 cc.lv cc.ls.length (cc.ls.flatMap I1))), Res.row b8 24 [a6_, b8_], Res.vec 3 1 a6_ vs7_.length (vs7_.flatMap I1), Res.vec 3 1 b8_ ls9_.length (ls9_.flatMap I1)])) w1 (hw.frame0 hO)
                refine l_nil (fun w' hw => ?_)
                have hS := hw.sel [0, 1, 2, 3, 4, 5] rfl (by decide)
                refine ⟨hS, ?_⟩
                refine h_one 12 (by kernel_rfl) rfl hw ?_
                refine l_on rfl (gT g13_6) ?_
                refine l_call (by kernel_rfl) rfl rfl (fun w' hw => ?_)
                refine (rvoter_s ({ vv := a6_, vs := vs7_, lv := b8_, ls := ls9_ } : ConfD) ((j : Nat) : Int) w' (by first | assumption | omega | (simp <;> omega) | (constructor <;> (first | omega | (simp only [LenOk]; omega) | (simp <;> omega)))) ⟨(hw.rdVec0 4 rfl), (hw.rdVec0 5 rfl)⟩).mono ?_
                rintro _ w1 ⟨rfl, hO⟩
                refine (?_ : CL _ _ _ _ _ _ (Own w [] [Res.row b3 24 (ConfD.cells cc), (Res.opt f1 (Res.vec 3 1 cc.vv cc.vs.length (cc.vs.flatMap I1))), (Res.opt f2 (Res.vec 3 1 cc.lv cc.ls.length (cc.ls.flatMap I1))), Res.row b8 24 [a6_, b8_], Res.vec 3 1 a6_ vs7_.length (vs7_.flatMap I1), Res.vec 3 1 b8_ ls9_.length (ls9_.flatMap I1)])) w1 (hw.frame0 hO)
                refine l_nil (fun w' hw => ?_)
                have hS := hw.sel [0, 1, 2, 3, 4, 5] rfl (by decide)
                refine ⟨hS, ?_⟩
                refine h_takeg 13 rfl rfl (gT g13_6) (by kernel_rfl) (by kernel_rfl) (by kernel_rfl) (v_bnep (by kernel_rfl) rfl rfl) rfl hS ?_
                refine h_takeg 14 rfl rfl (gT g13_6) (by kernel_rfl) (by kernel_rfl) (by kernel_rfl) (v_mv) rfl hS ?_
                by_cases g13_14 : ¬ ((cc.ok ∧ ((j : Nat) : Int) ∈ cc.vs) ↔ (({ vv := a6_, vs := vs7_, lv := b8_, ls := ls9_ } : ConfD).ok ∧ ((j : Nat) : Int) ∈ ({ vv := a6_, vs := vs7_, lv := b8_, ls := ls9_ } : ConfD).vs))
                ·
                  refine h_offg 15 rfl rfl (gT g13_14) rfl (by kernel_rfl) (by kernel_rfl) (by kernel_rfl) rfl hS ?_
                  refine h_offg 16 rfl rfl (gT g13_14) rfl (by kernel_rfl) (by kernel_rfl) (by kernel_rfl) rfl hS ?_
                  refine h_offg 17 rfl rfl (gT g13_14) rfl (by kernel_rfl) (by kernel_rfl) (by kernel_rfl) rfl hS ?_
                  refine h_offg 18 rfl rfl (gT g13_14) rfl (by kernel_rfl) (by kernel_rfl) (by kernel_rfl) rfl hS ?_
                  refine h_offg 19 rfl rfl (gT g13_14) rfl (by kernel_rfl) (by kernel_rfl) (by kernel_rfl) rfl hS ?_
                  refine h_offg 20 rfl rfl (gT g13_14) rfl (by kernel_rfl) (by kernel_rfl) (by kernel_rfl) rfl hS ?_
                  refine h_offg 21 rfl rfl (gT g13_14) rfl (by kernel_rfl) (by kernel_rfl) (by kernel_rfl) rfl hS ?_
                  refine h_takeg 22 rfl rfl (gT g13_6) (by kernel_rfl) (by kernel_rfl) (by kernel_rfl) (v_pickT (gT g13_14)) rfl hS ?_
                  refine h_take 23 rfl (by kernel_rfl) (by kernel_rfl) (by kernel_rfl) (v_pickT (gT g13_6)) rfl hS ?_
                  refine h_done (by kernel_rfl) ?_
                  refine (?_ : C _ _ _ _ _ _ _ (Own w [] [Res.row b3 24 (ConfD.cells cc), (Res.opt f1 (Res.vec 3 1 cc.vv cc.vs.length (cc.vs.flatMap I1))), (Res.opt f2 (Res.vec 3 1 cc.lv cc.ls.length (cc.ls.flatMap I1))), Res.row b8 24 [a6_, b8_], Res.vec 3 1 a6_ vs7_.length (vs7_.flatMap I1), Res.vec 3 1 b8_ ls9_.length (ls9_.flatMap I1)])) _ hw
                  refine c_yes rfl ?_
                  refine c_reg ?_
                  refine l_as rfl ?_
                  refine l_end ?_
                  exact c_ret (ret1 (v := .bool false) rfl rfl (fun w' hw => ⟨(absurd (and_congr (iff_of_true hok1 hP.1) (hP.2.1 _ g13_6).1) g13_14), hw.drop⟩))
                ·
                  refine h_takeg 15 rfl rfl (gF g13_14) (by kernel_rfl) (by kernel_rfl) (by kernel_rfl) (v_ldr (cs := (ConfD.cells cc)) 0 rfl rfl (by kernel_rfl)) rfl hS ?_
                  refine h_takeg 16 rfl rfl (gF g13_14) (by kernel_rfl) (by kernel_rfl) (by kernel_rfl) (v_mv) rfl hS ?_
                  refine h_takeg 18 rfl rfl (gF g13_14) (by kernel_rfl) (by kernel_rfl) (by kernel_rfl) (v_ldr (cs := [a6_, b8_]) 3 rfl rfl (by kernel_rfl)) rfl hS ?_
                  refine h_takeg 19 rfl rfl (gF g13_14) (by kernel_rfl) (by kernel_rfl) (by kernel_rfl) (v_mv) rfl hS ?_
                  refine h_one 17 (by kernel_rfl) rfl hw ?_
                  refine l_on rfl (gF g13_14) ?_
                  refine l_call (by kernel_rfl) rfl rfl (fun w' hw => ?_)
                  refine (rmember_s cc ((j : Nat) : Int) w' (by first | assumption | omega | (simp <;> omega) | (constructor <;> (first | omega | (simp only [LenOk]; omega) | (simp <;> omega)))) ⟨(opt_rd 1 rfl hw (hr1.elim .inl (fun h => .inr (by rw [h.1, h.2]; exact hw.rd0 rd_c.vv)))), (opt_rd 2 rfl hw (hr2.elim .inl (fun h => .inr (by rw [h.1, h.2]; exact hw.rd0 rd_c.lv))))⟩).mono ?_
                  rintro _ w1 ⟨rfl, hO⟩
                  refine (?_ : CL _ _ _ _ _ _ (Own w [] [Res.row b3 24 (ConfD.cells cc), (Res.opt f1 (Res.vec 3 1 cc.vv cc.vs.length (cc.vs.flatMap I1))), (Res.opt f2 (Res.vec 3 1 cc.lv cc.ls.length (cc.ls.flatMap I1))), Res.row b8 24 [a6_, b8_], Res.vec 3 1 a6_ vs7_.length (vs7_.flatMap I1), Res.vec 3 1 b8_ ls9_.length (ls9_.flatMap I1)])) w1 (hw.frame0 hO)
                  refine l_nil (fun w' hw => ?_)
                  have hS := hw.sel [0, 1, 2, 3, 4, 5] rfl (by decide)
                  refine ⟨hS, ?_⟩
                  refine h_one 20 (by kernel_rfl) rfl hw ?_
                  refine l_on rfl (gF g13_14) ?_
                  refine l_call (by kernel_rfl) rfl rfl (fun w' hw => ?_)
                  refine (rmember_s ({ vv := a6_, vs := vs7_, lv := b8_, ls := ls9_ } : ConfD) ((j : Nat) : Int) w' (by first | assumption | omega | (simp <;> omega) | (constructor <;> (first | omega | (simp only [LenOk]; omega) | (simp <;> omega)))) ⟨(hw.rdVec0 4 rfl), (hw.rdVec0 5 rfl)⟩).mono ?_
                  rintro _ w1 ⟨rfl, hO⟩
                  refine (?_ : CL _ _ _ _ _ _ (Own w [] [Res.row b3 24 (ConfD.cells cc), (Res.opt f1 (Res.vec 3 1 cc.vv cc.vs.length (cc.vs.flatMap I1))), (Res.opt f2 (Res.vec 3 1 cc.lv cc.ls.length (cc.ls.flatMap I1))), Res.row b8 24 [a6_, b8_], Res.vec 3 1 a6_ vs7_.length (vs7_.flatMap I1), Res.vec 3 1 b8_ ls9_.length (ls9_.flatMap I1)])) w1 (hw.frame0 hO)
                  refine l_nil (fun w' hw => ?_)
                  have hS := hw.sel [0, 1, 2, 3, 4, 5] rfl (by decide)
                  refine ⟨hS, ?_⟩
                  refine h_takeg 21 rfl rfl (gF g13_14) (by kernel_rfl) (by kernel_rfl) (by kernel_rfl) (v_bnep (by kernel_rfl) rfl rfl) rfl hS ?_
                  refine h_takeg 22 rfl rfl (gT g13_6) (by kernel_rfl) (by kernel_rfl) (by kernel_rfl) (v_pickF (gF g13_14)) rfl hS ?_
                  refine h_take 23 rfl (by kernel_rfl) (by kernel_rfl) (by kernel_rfl) (v_pickT (gT g13_6)) rfl hS ?_
                  refine h_done (by kernel_rfl) ?_
                  refine (?_ : C _ _ _ _ _ _ _ (Own w [] [Res.row b3 24 (ConfD.cells cc), (Res.opt f1 (Res.vec 3 1 cc.vv cc.vs.length (cc.vs.flatMap I1))), (Res.opt f2 (Res.vec 3 1 cc.lv cc.ls.length (cc.ls.flatMap I1))), Res.row b8 24 [a6_, b8_], Res.vec 3 1 a6_ vs7_.length (vs7_.flatMap I1), Res.vec 3 1 b8_ ls9_.length (ls9_.flatMap I1)])) _ hw
                  refine c_dec rfl (fun c15 => ?_) (fun c15 => ?_)
                  ·
                    refine c_reg ?_
                    refine l_as rfl ?_
                    refine l_end ?_
                    exact c_ret (ret1 (v := .bool false) rfl rfl (fun w' hw => ⟨(absurd (and_congr (iff_of_true hok1 hP.1) (or_congr (hP.2.1 _ g13_6).1 (hP.2.1 _ g13_6).2)) c15), hw.drop⟩))
                  ·
                    refine c_skipC ?_
                    refine c_last ?_
                    refine l_mv rfl ?_
                    refine l_add rfl rfl (wi64 (by omega)) rfl ?_
                    refine l_as rfl ?_
                    exact l_nil (fun w' hw => ⟨j + 1, ⟨rfl, rfl, rfl, rfl, rfl, rfl, trivial⟩, (by omega), hw, (by omega)⟩)
              ·
                refine h_offg 7 rfl rfl (gF g13_6) rfl (by kernel_rfl) (by kernel_rfl) (by kernel_rfl) rfl hS ?_
                refine h_offg 8 rfl rfl (gF g13_6) rfl (by kernel_rfl) (by kernel_rfl) (by kernel_rfl) rfl hS ?_
                refine h_offg 9 rfl rfl (gF g13_6) rfl (by kernel_rfl) (by kernel_rfl) (by kernel_rfl) rfl hS ?_
                refine h_offg 10 rfl rfl (gF g13_6) rfl (by kernel_rfl) (by kernel_rfl) (by kernel_rfl) rfl hS ?_
                refine h_offg 11 rfl rfl (gF g13_6) rfl (by kernel_rfl) (by kernel_rfl) (by kernel_rfl) rfl hS ?_
                refine h_offg 12 rfl rfl (gF g13_6) rfl (by kernel_rfl) (by kernel_rfl) (by kernel_rfl) rfl hS ?_
                refine h_offg 13 rfl rfl (gF g13_6) rfl (by kernel_rfl) (by kernel_rfl) (by kernel_rfl) rfl hS ?_
                refine h_offg 14 rfl rfl (gF g13_6) rfl (by kernel_rfl) (by kernel_rfl) (by kernel_rfl) rfl hS ?_
                refine h_offu 15 rfl rfl rfl (by kernel_rfl) (by kernel_rfl) (by kernel_rfl) rfl hS ?_
                refine h_offu 16 rfl rfl rfl (by kernel_rfl) (by kernel_rfl) (by kernel_rfl) rfl hS ?_
                refine h_offu 17 rfl rfl rfl (by kernel_rfl) (by kernel_rfl) (by kernel_rfl) rfl hS ?_
                refine h_offu 18 rfl rfl rfl (by kernel_rfl) (by kernel_rfl) (by kernel_rfl) rfl hS ?_
                refine h_offu 19 rfl rfl rfl (by kernel_rfl) (by kernel_rfl) (by kernel_rfl) rfl hS ?_
                refine h_offu 20 rfl rfl rfl (by kernel_rfl) (by kernel_rfl) (by kernel_rfl) rfl hS ?_
                refine h_offu 21 rfl rfl rfl (by kernel_rfl) (by kernel_rfl) (by kernel_rfl) rfl hS ?_
                refine h_offg 22 rfl rfl (gF g13_6) rfl (by kernel_rfl) (by kernel_rfl) (by kernel_rfl) rfl hS ?_
                refine h_take 23 rfl (by kernel_rfl) (by kernel_rfl) (by kernel_rfl) (v_pickF (gF g13_6)) rfl hS ?_
                refine h_done (by kernel_rfl) ?_
                refine (?_ : C _ _ _ _ _ _ _ (Own w [] [Res.row b3 24 (ConfD.cells cc), (Res.opt f1 (Res.vec 3 1 cc.vv cc.vs.length (cc.vs.flatMap I1))), (Res.opt f2 (Res.vec 3 1 cc.lv cc.ls.length (cc.ls.flatMap I1))), Res.row b8 24 [a6_, b8_], Res.vec 3 1 a6_ vs7_.length (vs7_.flatMap I1), Res.vec 3 1 b8_ ls9_.length (ls9_.flatMap I1)])) _ hw
                refine c_no rfl ?_
                refine c_skipC ?_
                refine c_last ?_
                refine l_mv rfl ?_
                refine l_add rfl rfl (wi64 (by omega)) rfl ?_
                refine l_as rfl ?_
                exact l_nil (fun w' hw => ⟨j + 1, ⟨rfl, rfl, rfl, rfl, rfl, rfl, trivial⟩, (by omega), hw, (by omega)⟩)
            ·
              refine c_exitC rfl ?_
              refine c_seq ?_
              refine c_seq ?_
              refine c_heldo [0, 1, 2, 3, 4, 5] rfl (by decide) (by kernel_rfl) (fun w' hw hS => ?_)
              refine h_take 0 rfl (by kernel_rfl) (by kernel_rfl) (by kernel_rfl) (v_ldr (cs := (ConfD.cells cc)) 0 rfl rfl (by kernel_rfl)) rfl hS ?_
              refine h_take 1 rfl (by kernel_rfl) (by kernel_rfl) (by kernel_rfl) (v_mv) rfl hS ?_
              refine h_take 2 rfl (by kernel_rfl) (by kernel_rfl) (by kernel_rfl) (v_mv) rfl hS ?_
              refine h_take 3 rfl (by kernel_rfl) (by kernel_rfl) (by kernel_rfl) (v_idxS (j := i) (sz := 1) (len := is.length) (cs := (is.flatMap I1)) rfl rfl (by kernel_rfl) (fun w' hw' => Own.rd hi hw') rfl (by omega)) rfl hS ?_
              refine h_take 4 rfl (by kernel_rfl) (by kernel_rfl) (by kernel_rfl) (v_ldS (v := iv) (off := offV iv + i * 1) (i * 1 + 0) (cs := (is.flatMap I1)) rfl (by omega) (fun w' hw' => Own.rd hi hw') (flat_at (sz := 1) (fun _ => rfl) (nth_some (by omega)) (i := 0) rfl) (by kernel_rfl)) rfl hS ?_
              refine h_take 6 rfl (by kernel_rfl) (by kernel_rfl) (by kernel_rfl) (v_ldr (cs := [a6_, b8_]) 3 rfl rfl (by kernel_rfl)) rfl hS ?_
              refine h_take 7 rfl (by kernel_rfl) (by kernel_rfl) (by kernel_rfl) (v_mv) rfl hS ?_
              refine h_take 8 rfl (by kernel_rfl) (by kernel_rfl) (by kernel_rfl) (v_mv) rfl hS ?_
              refine h_take 9 rfl (by kernel_rfl) (by kernel_rfl) (by kernel_rfl) (v_idxS (j := i) (sz := 1) (len := is.length) (cs := (is.flatMap I1)) rfl rfl (by kernel_rfl) (fun w' hw' => Own.rd hi hw') rfl (by omega)) rfl hS ?_
              refine h_take 10 rfl (by kernel_rfl) (by kernel_rfl) (by kernel_rfl) (v_ldS (v := iv) (off := offV iv + i * 1) (i * 1 + 0) (cs := (is.flatMap I1)) rfl (by omega) (fun w' hw' => Own.rd hi hw') (flat_at (sz := 1) (fun _ => rfl) (nth_some (by omega)) (i := 0) rfl) (by kernel_rfl)) rfl hS ?_
              refine h_one 5 (by kernel_rfl) rfl hw ?_
              refine l_call (by kernel_rfl) rfl rfl (fun w' hw => ?_)
              refine (rvoter_s cc (nth is i) w' (by first | assumption | omega | (simp <;> omega) | (constructor <;> (first | omega | (simp only [LenOk]; omega) | (simp <;> omega)))) ⟨(opt_rd 1 rfl hw (hr1.elim .inl (fun h => .inr (by rw [h.1, h.2]; exact hw.rd0 rd_c.vv)))), (opt_rd 2 rfl hw (hr2.elim .inl (fun h => .inr (by rw [h.1, h.2]; exact hw.rd0 rd_c.lv))))⟩).mono ?_
              rintro _ w1 ⟨rfl, hO⟩
              refine (?_ : CL _ _ _ _ _ _ (Own w [] [Res.row b3 24 (ConfD.cells cc), (Res.opt f1 (Res.vec 3 1 cc.vv cc.vs.length (cc.vs.flatMap I1))), (Res.opt f2 (Res.vec 3 1 cc.lv cc.ls.length (cc.ls.flatMap I1))), Res.row b8 24 [a6_, b8_], Res.vec 3 1 a6_ vs7_.length (vs7_.flatMap I1), Res.vec 3 1 b8_ ls9_.length (ls9_.flatMap I1)])) w1 (hw.frame0 hO)
              refine l_nil (fun w' hw => ?_)
              have hS := hw.sel [0, 1, 2, 3, 4, 5] rfl (by decide)
              refine ⟨hS, ?_⟩
              refine h_one 11 (by kernel_rfl) rfl hw ?_
              refine l_call (by kernel_rfl) rfl rfl (fun w' hw => ?_)
              refine (rvoter_s ({ vv := a6_, vs := vs7_, lv := b8_, ls := ls9_ } : ConfD) (nth is i) w' (by first | assumption | omega | (simp <;> omega) | (constructor <;> (first | omega | (simp only [LenOk]; omega) | (simp <;> omega)))) ⟨(hw.rdVec0 4 rfl), (hw.rdVec0 5 rfl)⟩).mono ?_
              rintro _ w1 ⟨rfl, hO⟩
              refine (?_ : CL _ _ _ _ _ _ (Own w [] [Res.row b3 24 (ConfD.cells cc), (Res.opt f1 (Res.vec 3 1 cc.vv cc.vs.length (cc.vs.flatMap I1))), (Res.opt f2 (Res.vec 3 1 cc.lv cc.ls.length (cc.ls.flatMap I1))), Res.row b8 24 [a6_, b8_], Res.vec 3 1 a6_ vs7_.length (vs7_.flatMap I1), Res.vec 3 1 b8_ ls9_.length (ls9_.flatMap I1)])) w1 (hw.frame0 hO)
              refine l_nil (fun w' hw => ?_)
              have hS := hw.sel [0, 1, 2, 3, 4, 5] rfl (by decide)
              refine ⟨hS, ?_⟩
              refine h_take 12 rfl (by kernel_rfl) (by kernel_rfl) (by kernel_rfl) (v_beqp (by kernel_rfl) rfl rfl) rfl hS ?_
              refine h_take 13 rfl (by kernel_rfl) (by kernel_rfl) (by kernel_rfl) (v_mv) rfl hS ?_
              by_cases g15_13 : (cc.ok ∧ (nth is i) ∈ cc.vs) ↔ (({ vv := a6_, vs := vs7_, lv := b8_, ls := ls9_ } : ConfD).ok ∧ (nth is i) ∈ ({ vv := a6_, vs := vs7_, lv := b8_, ls := ls9_ } : ConfD).vs)
              ·
                refine h_takeg 14 rfl rfl (gT g15_13) (by kernel_rfl) (by kernel_rfl) (by kernel_rfl) (v_ldr (cs := (ConfD.cells cc)) 0 rfl rfl (by kernel_rfl)) rfl hS ?_
                refine h_takeg 15 rfl rfl (gT g15_13) (by kernel_rfl) (by kernel_rfl) (by kernel_rfl) (v_mv) rfl hS ?_
                refine h_takeg 16 rfl rfl (gT g15_13) (by kernel_rfl) (by kernel_rfl) (by kernel_rfl) (v_mv) rfl hS ?_
                refine h_takeg 17 rfl rfl (gT g15_13) (by kernel_rfl) (by kernel_rfl) (by kernel_rfl) (v_idxS (j := i) (sz := 1) (len := is.length) (cs := (is.flatMap I1)) rfl rfl (by kernel_rfl) (fun w' hw' => Own.rd hi hw') rfl (by omega)) rfl hS ?_
                refine h_takeg 18 rfl rfl (gT g15_13) (by kernel_rfl) (by kernel_rfl) (by kernel_rfl) (v_ldS (v := iv) (off := offV iv + i * 1) (i * 1 + 0) (cs := (is.flatMap I1)) rfl (by omega) (fun w' hw' => Own.rd hi hw') (flat_at (sz := 1) (fun _ => rfl) (nth_some (by omega)) (i := 0) rfl) (by kernel_rfl)) rfl hS ?_
                refine h_takeg 20 rfl rfl (gT g15_13) (by kernel_rfl) (by kernel_rfl) (by kernel_rfl) (v_ldr (cs := [a6_, b8_]) 3 rfl rfl (by kernel_rfl)) rfl hS ?_
                refine h_takeg 21 rfl rfl (gT g15_13) (by kernel_rfl) (by kernel_rfl) (by kernel_rfl) (v_mv) rfl hS ?_
                refine h_takeg 22 rfl rfl (gT g15_13) (by kernel_rfl) (by kernel_rfl) (by kernel_rfl) (v_mv) rfl hS ?_
                refine h_takeg 23 rfl rfl (gT g15_13) (by kernel_rfl) (by kernel_rfl) (by kernel_rfl) (v_idxS (j := i) (sz := 1) (len := is.length) (cs := (is.flatMap I1)) rfl rfl (by kernel_rfl) (fun w' hw' => Own.rd hi hw') rfl (by omega)) rfl hS ?_
                refine h_takeg 24 rfl rfl (gT g15_13) (by kernel_rfl) (by kernel_rfl) (by kernel_rfl) (v_ldS (v := iv) (off := offV iv + i * 1) (i * 1 + 0) (cs := (is.flatMap I1)) rfl (by omega) (fun w' hw' => Own.rd hi hw') (flat_at (sz := 1) (fun _ => rfl) (nth_some (by omega)) (i := 0) rfl) (by kernel_rfl)) rfl hS ?_
                refine h_one 19 (by kernel_rfl) rfl hw ?_
                refine l_on rfl (gT g15_13) ?_
                refine l_call (by kernel_rfl) rfl rfl (fun w' hw => ?_)
                refine (rmember_s cc (nth is i) w' (by first | assumption | omega | (simp <;> omega) | (constructor <;> (first | omega | (simp only [LenOk]; omega) | (simp <;> omega)))) ⟨(opt_rd 1 rfl hw (hr1.elim .inl (fun h => .inr (by rw [h.1, h.2]; exact hw.rd0 rd_c.vv)))), (opt_rd 2 rfl hw (hr2.elim .inl (fun h => .inr (by rw [h.1, h.2]; exact hw.rd0 rd_c.lv))))⟩).mono ?_
                rintro _ w1 ⟨rfl, hO⟩
                refine (?_ : CL _ _ _ _ _ _ (Own w [] [Res.row b3 24 (ConfD.cells cc), (Res.opt f1 (Res.vec 3 1 cc.vv cc.vs.length (cc.vs.flatMap I1))), (Res.opt f2 (Res.vec 3 1 cc.lv cc.ls.length (cc.ls.flatMap I1))), Res.row b8 24 [a6_, b8_], Res.vec 3 1 a6_ vs7_.length (vs7_.flatMap I1), Res.vec 3 1 b8_ ls9_.length (ls9_.flatMap I1)])) w1 (hw.frame0 hO)
                refine l_nil (fun w' hw => ?_)
                have hS := hw.sel [0, 1, 2, 3, 4, 5] rfl (by decide)
                refine ⟨hS, ?_⟩
                refine h_one 25 (by kernel_rfl) rfl hw ?_
                refine l_on rfl (gT g15_13) ?_
                refine l_call (by kernel_rfl) rfl rfl (fun w' hw => ?_)
                refine (rmember_s ({ vv := a6_, vs := vs7_, lv := b8_, ls := ls9_ } : ConfD) (nth is i) w' (by first | assumption | omega | (simp <;> omega) | (constructor <;> (first | omega | (simp only [LenOk]; omega) | (simp <;> omega)))) ⟨(hw.rdVec0 4 rfl), (hw.rdVec0 5 rfl)⟩).mono ?_
                rintro _ w1 ⟨rfl, hO⟩
                refine (?_ : CL _ _ _ _ _ _ (Own w [] [Res.row b3 24 (ConfD.cells cc), (Res.opt f1 (Res.vec 3 1 cc.vv cc.vs.length (cc.vs.flatMap I1))), (Res.opt f2 (Res.vec 3 1 cc.lv cc.ls.length (cc.ls.flatMap I1))), Res.row b8 24 [a6_, b8_], Res.vec 3 1 a6_ vs7_.length (vs7_.flatMap I1), Res.vec 3 1 b8_ ls9_.length (ls9_.flatMap I1)])) w1 (hw.frame0 hO)
                refine l_nil (fun w' hw => ?_)
                have hS := hw.sel [0, 1, 2, 3, 4, 5] rfl (by decide)
                refine ⟨hS, ?_⟩
                refine h_takeg 26 rfl rfl (gT g15_13) (by kernel_rfl) (by kernel_rfl) (by kernel_rfl) (v_beqp (by kernel_rfl) rfl rfl) rfl hS ?_
                refine h_take 27 rfl (by kernel_rfl) (by kernel_rfl) (by kernel_rfl) (v_pickT (gT g15_13)) rfl hS ?_
                refine h_done (by kernel_rfl) ?_
                refine (?_ : C _ _ _ _ _ _ _ (Own w [] [Res.row b3 24 (ConfD.cells cc), (Res.opt f1 (Res.vec 3 1 cc.vv cc.vs.length (cc.vs.flatMap I1))), (Res.opt f2 (Res.vec 3 1 cc.lv cc.ls.length (cc.ls.flatMap I1))), Res.row b8 24 [a6_, b8_], Res.vec 3 1 a6_ vs7_.length (vs7_.flatMap I1), Res.vec 3 1 b8_ ls9_.length (ls9_.flatMap I1)])) _ hw
                refine c_dec rfl (fun c17 => ?_) (fun c17 => ?_)
                ·
                  refine c_reg ?_
                  refine l_as rfl ?_
                  refine l_end ?_
                  exact c_ret (ret1 (v := .bool false) rfl rfl (fun w' hw => ⟨(absurd ⟨strip hok1 hP.1 g15_13, strip hok1 hP.1 c17⟩ hP.2.2), hw.drop⟩))
                ·
                  refine c_skipC ?_
                  refine c_last ?_
                  refine l_ldr (cs := [a6_, b8_]) 3 rfl rfl (by kernel_rfl) rfl ?_
                  refine l_stN (cs := (ConfD.cells cc)) (vs := [a6_, b8_]) 0 rfl rfl rfl (by kernel_rfl) (allc_cons hc3_ (allc_cons hc4_ allc_nil)) (Nat.le_of_ble_eq_true rfl) ?_
                  refine l_end ?_
                  refine c_last ?_
                  refine l_mv rfl ?_
                  refine l_add rfl rfl (wi64 (by omega)) rfl ?_
                  refine l_as rfl ?_
                  exact l_nil (fun w' hw => ⟨i + 1, ⟨a6_, vs7_, b8_, ls9_⟩, true, true, ⟨rfl, rfl, rfl, rfl, trivial⟩, ⟨⟨by omega, hP.1⟩, .inl rfl, .inl rfl⟩, hw.sel [0,4,5] rfl (by decide), (by omega)⟩)
              ·
                refine h_offg 14 rfl rfl (gF g15_13) rfl (by kernel_rfl) (by kernel_rfl) (by kernel_rfl) rfl hS ?_
                refine h_offg 15 rfl rfl (gF g15_13) rfl (by kernel_rfl) (by kernel_rfl) (by kernel_rfl) rfl hS ?_
                refine h_offg 16 rfl rfl (gF g15_13) rfl (by kernel_rfl) (by kernel_rfl) (by kernel_rfl) rfl hS ?_
                refine h_offg 17 rfl rfl (gF g15_13) rfl (by kernel_rfl) (by kernel_rfl) (by kernel_rfl) rfl hS ?_
                refine h_offg 18 rfl rfl (gF g15_13) rfl (by kernel_rfl) (by kernel_rfl) (by kernel_rfl) rfl hS ?_
                refine h_offg 19 rfl rfl (gF g15_13) rfl (by kernel_rfl) (by kernel_rfl) (by kernel_rfl) rfl hS ?_
                refine h_offg 20 rfl rfl (gF g15_13) rfl (by kernel_rfl) (by kernel_rfl) (by kernel_rfl) rfl hS ?_
                refine h_offg 21 rfl rfl (gF g15_13) rfl (by kernel_rfl) (by kernel_rfl) (by kernel_rfl) rfl hS ?_
                refine h_offg 22 rfl rfl (gF g15_13) rfl (by kernel_rfl) (by kernel_rfl) (by kernel_rfl) rfl hS ?_
                refine h_offg 23 rfl rfl (gF g15_13) rfl (by kernel_rfl) (by kernel_rfl) (by kernel_rfl) rfl hS ?_
                refine h_offg 24 rfl rfl (gF g15_13) rfl (by kernel_rfl) (by kernel_rfl) (by kernel_rfl) rfl hS ?_
                refine h_offg 25 rfl rfl (gF g15_13) rfl (by kernel_rfl) (by kernel_rfl) (by kernel_rfl) rfl hS ?_
                refine h_offg 26 rfl rfl (gF g15_13) rfl (by kernel_rfl) (by kernel_rfl) (by kernel_rfl) rfl hS ?_
                refine h_take 27 rfl (by kernel_rfl) (by kernel_rfl) (by kernel_rfl) (v_pickF (gF g15_13)) rfl hS ?_
                refine h_done (by kernel_rfl) ?_
                refine (?_ : C _ _ _ _ _ _ _ (Own w [] [Res.row b3 24 (ConfD.cells cc), (Res.opt f1 (Res.vec 3 1 cc.vv cc.vs.length (cc.vs.flatMap I1))), (Res.opt f2 (Res.vec 3 1 cc.lv cc.ls.length (cc.ls.flatMap I1))), Res.row b8 24 [a6_, b8_], Res.vec 3 1 a6_ vs7_.length (vs7_.flatMap I1), Res.vec 3 1 b8_ ls9_.length (ls9_.flatMap I1)])) _ hw
                refine c_no rfl ?_
                refine c_skipC ?_
                refine c_last ?_
                refine l_ldr (cs := [a6_, b8_]) 3 rfl rfl (by kernel_rfl) rfl ?_
                refine l_stN (cs := (ConfD.cells cc)) (vs := [a6_, b8_]) 0 rfl rfl rfl (by kernel_rfl) (allc_cons hc3_ (allc_cons hc4_ allc_nil)) (Nat.le_of_ble_eq_true rfl) ?_
                refine l_end ?_
                refine c_last ?_
                refine l_mv rfl ?_
                refine l_add rfl rfl (wi64 (by omega)) rfl ?_
                refine l_as rfl ?_
                exact l_nil (fun w' hw => ⟨i + 1, ⟨a6_, vs7_, b8_, ls9_⟩, true, true, ⟨rfl, rfl, rfl, rfl, trivial⟩, ⟨⟨by omega, hP.1⟩, .inl rfl, .inl rfl⟩, hw.sel [0,4,5] rfl (by decide), (by omega)⟩)
    ·
      refine c_exitC rfl ?_
      refine c_reg ?_
      refine l_as rfl ?_
      refine l_end ?_
      exact c_ret (ret1 (v := .bool true) rfl rfl (fun w' hw => ⟨rfl, hw.drop⟩))
namespace confPath
theorem own : ownKnob Try.prog.godebug = none := by kernel_rfl
theorem laidOut : laidOutB Try.prog = true := by kernel_rfl

theorem contract (H : Type) (enc : TypeId × Value → H) (W : World) (base : Nat) (args : Array Value) (ds gs : List (DataW H)) (before : List MemPlace)
    (hval : ∀ (j : Nat) t v, Try.f8.params[j]? = some t → args[j]? = some v → Value.okWide Try.prog W .any base t v)
    (hW : DataW.Whole enc Try.prog Try.f8.params.toList Rows.confPathSpec.vars false W args.toList ds gs before) (hk : Rows.uptoSmall H (ds ++ gs) = true) :
    Calls Try.prog 8 args W fun e W' => ∃ v, e = .returned v ∧ Rows.confPathSpec.post enc Try.prog Try.f8 false true false false W args v W' := by
  have hW' := hW
  obtain ⟨p, q, hA0, hV, rfl, hfz, hnd⟩ := hW
  have hA : DataW.TrodAll enc Try.prog W 0 (fun _ => true) true Try.f8.params.toList args.toList ds p := hA0
  rw [Try.params8] at hA hval
  obtain ⟨v0, vs0, d0, ds0, p0, q0, hargs, rfl, rfl, h0, r0⟩ := trodAll_cons hA
  obtain ⟨v1, vs1, d1, ds1, p1, q1, rfl, rfl, rfl, h1, r1⟩ := trodAll_cons r0
  obtain ⟨v2, vs2, d2, ds2, p2, q2, rfl, rfl, rfl, h2, r2⟩ := trodAll_cons r1
  obtain ⟨rfl, rfl, rfl⟩ := trodAll_nil r2
  obtain rfl : args = #[v0, v1, v2] := by cases args; simp_all
  obtain ⟨rfl, rfl⟩ := trodVars_none hV
  have hB : Rows.uptoBulk d0 + Rows.uptoBulk d1 + Rows.uptoBulk d2 ≤ 1048576 := by
    have := of_decide_eq_true hk
    simp only [List.append_nil, Rows.uptoBulkAll] at this
    omega
  obtain ⟨u0, hf0⟩ := h0
  obtain ⟨a0, e0, w0, z0⟩ := (rdConf W) H enc _ _ _ hf0
  obtain ⟨u1, hf1⟩ := h1
  obtain ⟨a1, e1, w1, z1⟩ := (rdBytes W) H enc _ _ _ hf1
  obtain ⟨u2, hf2⟩ := h2
  obtain ⟨a2, e2, w2, z2⟩ := (rdInts W) H enc _ _ _ hf2
  try dsimp only at z0
  try dsimp only at z1
  try dsimp only at z2
  obtain rfl := arg_struct Try.underlying24 (hval 0 _ v0 rfl rfl) e0
  obtain rfl := arg_slice Try.underlying46 (hval 1 _ v1 rfl rfl) e1
  obtain rfl := arg_slice Try.underlying22 (hval 2 _ v2 rfl rfl) e2
  refine Calls.mono (confPath_s a0 a1.1 a1.2 a2.1 a2.2 W ⟨by omega, by omega⟩ (by show _ ≤ _; omega) (by show _ ≤ _; omega) w1 w2 w0) fun e W' he => ?_
  obtain ⟨v, rfl, rfl, hO⟩ := he
  exact ⟨_, rfl, law_post laidOut rfl (fun ds h => by
    rw [Try.params8] at h
    match ds, h with
    | [_, _, _], _ => rfl) rfl Try.underlying4 (by kernel_rfl) hW' (Own.below hO)⟩

set_option maxRecDepth 100000 in
theorem lifted (os : Os) (started : os.Started) (H : Type) (enc : TypeId × Value → H) (F : Stop.Interp) :
    ReturnsInHanded {} Try.checked os 8 .any ((Rows.OpenSpec.upto Rows.confPathSpec).pre6 enc Try.prog Try.f8 Rows.confPathUptoRow.domain false) (((Rows.OpenSpec.upto Rows.confPathSpec).at F).post enc Try.prog Try.f8 false true false false) := by
  refine returnsInHanded_of_cond (C := Try.checked) (s := Rows.OpenSpec.upto Rows.confPathSpec) (k := Rows.uptoSmall) rfl own started (by kernel_rfl) Try.func8
    (OpenSpec.witness (enc := enc) (C := Try.checked) (s := Rows.OpenSpec.upto Rows.confPathSpec) (k := Rows.uptoSmall) rfl false ⟨#[], #[.agg #[.slice none 0 0, .slice none 0 0], .slice none 0 0, .slice none 0 0], []⟩ 8 (by kernel_rfl) (by kernel_rfl) (by kernel_rfl)
      (x := ([.agg [.nil, .nil], .nil, .nil], [], [])) (by kernel_rfl) rfl (by kernel_rfl)) ?_
  intro W base args ds gs before hval hW _ hk _
  exact contract H enc W base args ds gs before hval hW hk

/-- ConfPath: proved. -/
theorem proved : Rows.ConfPathUptoSaid :=
  OpenClaim.holds_of_cond 8 Try.f8 rfl rfl rfl rfl rfl rfl rfl ⟨rfl, rfl, rfl, rfl, rfl⟩ rfl rfl rfl rfl rfl (by kernel_rfl) Try.func8 (by kernel_rfl)
    (of_decide_eq_true (by kernel_rfl)) (by unfold Func.isWrapper; first | (rw [if_pos (by decide +kernel)]; kernel_rfl) | (rw [if_neg (by decide +kernel)]; exact ⟨rfl, rfl⟩))
    (fun os started H enc _ F => lifted os started H enc F)
end confPath
end Go.Proofs.Ytniiobmkcbeknaa
