/-
  THE WALKS OF a configuration's bytes and error; who votes, who is a member, who is a majority: the program's and the reference's.
-/
import Derived.Test.YtlkoekhjegaimaaGreatOutS
import Derived.Test.YtlkoekhjegaimaaGreatConfA
set_option linter.unusedVariables false
set_option maxRecDepth 10000
namespace Go.Proofs.YtlkoekhjegaimaaGreat
open Go Go.Sc Go.Proofs

def ConfD.enc (c : ConfD) : List UInt8 := idsB c.vs ++ idsB c.ls
/-- Few enough to be written. -/
structure ConfD.few (c : ConfD) : Prop where
  vs : c.vs.length ≤ 1000000000
  ls : c.ls.length ≤ 1000000000
theorem ConfD.few.wf {c : ConfD} (h : c.few) : c.wf := ⟨by have := h.vs; show _ ≤ _; omega, by have := h.ls; show _ ≤ _; omega⟩
theorem u64_sub {ns : List Int} : ∀ n ∈ ns.map u64, n < 18446744073709551616 := fun n hn => by obtain ⟨a, _, rfl⟩ := List.mem_map.1 hn; exact u64_lt a
theorem idsB_length (ns : List Int) : (idsB ns).length ≤ 9 * (ns.length + 1) := by
  have := numsB_length (ns := u64 ns.length :: ns.map u64) (by intro n hn; rcases List.mem_cons.1 hn with rfl | h; exact u64_lt _; exact u64_sub n h)
  simpa [idsB] using this

-- no function slices.Clone[[]int,int]

-- no function scupper/scupperref03.OwnConf

theorem confWrite_s (o : Nat) (sl : Value) (bs : List UInt8) (c : ConfD) (w : World) (hb : bs.length + 9 * (c.vs.length + c.ls.length + 2) ≤ 100000000000) (rd_c : ConfD.rd c w (fps [Res.bv o TOut sl bs])) (hin : Own w (fps [Res.bv o TOut sl bs]) [Res.bv o TOut sl bs] w) : Rets Tryz.prog 85 #[.pointer (some ⟨o, 0, none⟩), .agg (ConfD.cells c).toArray] w fun u_ w' => ∃ (sl' : Value), u_ = .tuple #[] ∧ Own w (fps [Res.bv o TOut sl bs]) [Res.bv o TOut sl' (bs ++ c.enc)] w' := by
  have h0 := idsB_length c.vs
  refine fn_enter (args := [.pointer (some ⟨o, 0, none⟩), .agg (ConfD.cells c).toArray]) Tryz.func85 rfl Tryz.ntmps85 rfl (show Own w (fps [Res.bv o TOut sl bs]) [Res.bv o TOut sl bs] w from hin) ?_
  refine c_reg ?_
  refine l_box rfl rfl (fun b3 => ?_)
  refine l_end ?_
  refine c_reg ?_
  refine l_mv rfl ?_
  refine l_fld (o := 0) rfl (by kernel_rfl) rfl ?_
  refine l_ldo 1 (v := c.vv) rfl rfl rfl (by kernel_rfl) rfl ?_
  refine l_call (by kernel_rfl) rfl rfl (fun w' hw => ?_)
  refine (ids_s o _ _ c.vv c.vs w' (by first | assumption | omega | (simp <;> omega) | (constructor <;> (first | omega | (simp only [LenOk]; omega) | (simp <;> omega)))) (hw.rdTo rd_c.vv [0] rfl) (hw.give [0] rfl (by decide))).mono ?_
  rintro _ w1 ⟨sl'1_, rfl, hO⟩
  refine (?_ : CL _ _ _ _ _ _ (Own w (fps [Res.bv o TOut sl bs]) [Res.row b3 27 (ConfD.cells c), Res.bv o TOut sl'1_ (bs ++ idsB c.vs)])) w1 (hw.frameL [0] rfl hO)
  refine l_end ?_
  refine c_last ?_
  refine l_mv rfl ?_
  refine l_fld (o := 1) rfl (by kernel_rfl) rfl ?_
  refine l_ldo 0 (v := c.lv) rfl rfl rfl (by kernel_rfl) rfl ?_
  refine l_call (by kernel_rfl) rfl rfl (fun w' hw => ?_)
  refine (ids_s o sl'1_ (bs ++ idsB c.vs) c.lv c.ls w' (by first | assumption | omega | (simp <;> omega) | (constructor <;> (first | omega | (simp only [LenOk]; omega) | (simp <;> omega)))) (hw.rdTo rd_c.lv [1] rfl) (hw.give [1] rfl (by decide))).mono ?_
  rintro _ w1 ⟨sl'2_, rfl, hO⟩
  refine (?_ : CL _ _ _ _ _ _ (Own w (fps [Res.bv o TOut sl bs]) [Res.row b3 27 (ConfD.cells c), Res.bv o TOut sl'2_ ((bs ++ idsB c.vs) ++ idsB c.ls)])) w1 (hw.frameL [1] rfl hO)
  exact l_nil (ret0 rfl (fun w' hw => ⟨sl'2_, rfl, by have h := hw.one 1 rfl; simpa [ConfD.enc] using h⟩))

theorem confs_s (w : World) : Rets Tryz.prog 43 #[] w fun u_ w' => u_ = .agg #[.func (.func 80) #[] #[], .func (.func 85) #[] #[], .func (.func 87) #[] #[]] ∧ Own w [] [] w' := by
  refine fn_enter (args := []) Tryz.func43 rfl Tryz.ntmps43 rfl (Own.start w) ?_
  refine c_reg ?_
  refine l_new (v := .agg #[.nilFunc, .nilFunc, .nilFunc]) (by kernel_rfl) rfl (fun b0 => ?_)
  refine l_end ?_
  refine c_reg ?_
  refine l_bld (cs := [.func (.func 80) #[] #[], .func (.func 85) #[] #[], .func (.func 87) #[] #[]]) (z := [.nilFunc, .nilFunc, .nilFunc]) (pl := [(0, 1), (1, 1), (2, 1)]) (by kernel_rfl) (by kernel_rfl) rfl ?_
  refine l_stN (cs := [.nilFunc, .nilFunc, .nilFunc]) (vs := [.func (.func 80) #[] #[], .func (.func 85) #[] #[], .func (.func 87) #[] #[]]) 0 rfl rfl rfl (by kernel_rfl) (allc_cons rfl (allc_cons rfl (allc_cons rfl allc_nil))) (Nat.le_of_ble_eq_true rfl) ?_
  refine l_end ?_
  exact c_ret (retc (cs := [.func (.func 80) #[] #[], .func (.func 85) #[] #[], .func (.func 87) #[] #[]]) rfl rfl (by kernel_rfl) (Own.rowCells (i := 0) rfl) (fun w' hw => ⟨rfl, hw.drop⟩))

-- no function (scupper/msg.kind[scupper/api.Conf]).bytes

-- no function scupper/msg.Conf

-- no function scupper/conf.Check

theorem contains_cs (v : Value) (l : List Int) (n : Int) (w : World) (hl : LenOk l.length) (hv : Rd w [] (Res.sl v l.length (l.flatMap I1))) : Rets Tryz.prog 84 #[v, .int .i64 n] w fun u_ w' => u_ = .bool (decide (n ∈ l)) ∧ Own w [] [] w' := by
  exact contains_spec v l n w hl hv
-- no function scupper/conf.Voter
-- no function scupper/scupperref10.Voter
-- no function scupper/conf.Member
-- no function scupper/scupperref10.Member

/-- How many of a list's are in another one. -/
def cnt (vs ids : List Int) : Nat := (vs.filter (· ∈ ids)).length
theorem cnt_le (vs ids : List Int) : cnt vs ids ≤ vs.length := List.length_filter_le _ _
theorem cnt_snoc (vs ids : List Int) (x : Int) : cnt (vs ++ [x]) ids = cnt vs ids + if x ∈ ids then 1 else 0 := by
  unfold cnt
  rw [List.filter_append, List.length_append]
  by_cases h : x ∈ ids <;> simp [List.filter_cons, h]
def ConfD.quorum (c : ConfD) (ids : List Int) : Prop := c.ok ∧ c.vs.length < 2 * cnt c.vs ids
instance (c : ConfD) (ids : List Int) : Decidable (c.quorum ids) := inferInstanceAs (Decidable (_ ∧ _))

-- no function scupper/conf.Quorum
-- no function scupper/scupperref10.Quorum

-- no function scupper/scupperlaw10.answers
end Go.Proofs.YtlkoekhjegaimaaGreat