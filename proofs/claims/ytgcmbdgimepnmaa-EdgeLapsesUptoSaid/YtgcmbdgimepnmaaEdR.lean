/-
  THE WALKS OF the reference's edge.
-/
import Derived.Test.YtgcmbdgimepnmaaEdW
set_option linter.unusedVariables false
set_option maxRecDepth 10000
namespace Go.Proofs.Ytgcmbdgimepnmaa
open Go Go.Sc Go.Proofs

structure RtuD where
  id : Nat
  key : ByteArray
  amount : Int
  till : Int
  deriving Inhabited
def RtuD.cells (x : RtuD) : List Value := [.int .u64 x.id, .string x.key, .int .i64 x.amount, .int .i64 x.till]
/-- What the reference asks and trusts is of a size. -/
structure RInv (n : Nat) (a : AskD) (seq : Nat) (ts : List RtuD) (ns : List Nat) : Prop where
  wf : a.wf
  seq : seq ≤ n
  tl : ts.length ≤ n
  nl : ns.length ≤ n
  span : a.cmd.op = 2 ∨ a.cmd.op = 3 → 1 ≤ a.cmd.span ∧ a.cmd.span ≤ 1099511627776
theorem RInv.mono {n m : Nat} {a : AskD} {seq : Nat} {ts : List RtuD} {ns : List Nat} (h : RInv n a seq ts ns) (hm : n ≤ m) : RInv m a seq ts ns :=
  ⟨h.wf, Nat.le_trans h.seq hm, Nat.le_trans h.tl hm, Nat.le_trans h.nl hm, h.span⟩
theorem RInv.look {n : Nat} {a a' : AskD} {seq : Nat} {ts : List RtuD} {ns : List Nat} {key : ByteArray} {lazy : Bool} {id : Int} (h : RInv n a seq ts ns) (ha : a' = begA (lookAsk key lazy) id (seq + 1)) (hk : key.size ≤ 64) (hn : n ≤ 100000) : RInv (n + 1) a' (seq + 1) ts ns := by
  have hs := h.seq
  have ht := h.tl
  have hl := h.nl
  subst ha
  refine ⟨begA_wf (lookAsk_wf (by omega)) (by omega), by omega, by omega, by omega, fun q => ?_⟩
  rw [begA_op.1] at q
  have e1 : (lookAsk key lazy).cmd.op = 0 := rfl
  rw [e1] at q; omega
theorem RInv.trust {n : Nat} {a : AskD} {seq : Nat} {ts ts' : List RtuD} {ns : List Nat} (h : RInv n a seq ts ns) (h1 : ts'.length ≤ n + 1) : RInv (n + 1) a seq ts' ns :=
  ⟨h.wf, Nat.le_succ_of_le h.seq, h1, Nat.le_succ_of_le h.nl, h.span⟩
-- no function scupper/scupperref01.Add
theorem ratio_s (t b : Int) (w : World) (ht : 0 ≤ t ∧ t ≤ 1099511627776) (hb : 1000000 ≤ b ∧ b ≤ 1500000) : Rets Try.prog 30 #[.int .i64 t, .int .i64 1000000, .int .i64 b] w fun u_ w' => u_ = .int .i64 (t * 1000000 / b) ∧ Own w [] [] w' := by
  have hk := ratio_ok ht hb
  have q0 := hk.q0
  have q1 := hk.q1
  have qa0 := hk.qa0
  have qa1 := hk.qa1
  have r0 := hk.r0
  have r1 := hk.r1
  have ra0 := hk.ra0
  have ra1 := hk.ra1
  have rb0 := hk.rb0
  have rb1 := hk.rb1
  refine fn_enter (args := [.int .i64 t, .int .i64 1000000, .int .i64 b]) Try.func30 rfl Try.ntmps30 rfl (Own.start w) ?_
  refine c_reg (l_as rfl (l_end (c_quiets (by kernel_rfl) (by kernel_rfl) (q_val rfl (v_mv) (q_val rfl (v_mv) (q_val rfl (v_quo (c := t / b) rfl rfl (by omega) hk.tq) (q_val rfl (v_mv) (q_val rfl (v_mul rfl rfl (wi64 (by omega))) (q_val rfl (v_mv) (q_val rfl (v_mv) (q_val rfl (v_rem (c := t % b) rfl rfl (by omega) hk.tr) (q_val rfl (v_mv) ?_))))))))))))
  refine q_val rfl (v_mul rfl rfl (wi64 (by omega))) (q_val rfl (v_mv) (q_val rfl (v_quo (c := t % b * 1000000 / b) rfl rfl (by omega) hk.tb) (q_val rfl (v_add rfl rfl (wi64 (by omega))) (q_val rfl (v_as) (q_end ?_)))))
  exact c_ret (ret1 (v := .int .i64 (((t / b) * 1000000) + (t % b * 1000000 / b))) rfl rfl (fun w' hw => ⟨(by rw [hk.sum]), hw.drop⟩))
theorem rshrink_s (t rho : Int) (w : World) (h : ¬ badT t rho) : Rets Try.prog 21 #[.int .i64 t, .int .i64 rho] w fun u_ w' => u_ = .int .i64 (shr t rho) ∧ Own w [] [] w' := by
  have hb := h
  unfold badT at hb
  refine fn_enter (args := [.int .i64 t, .int .i64 rho]) Try.func21 rfl Try.ntmps21 rfl (Own.start w) ?_
  refine c_reg (l_as rfl (l_end (c_reg (l_mv rfl (l_mv rfl (l_add rfl rfl (wi64 (by omega)) rfl (l_call (by kernel_rfl) rfl rfl (fun w' hw => (ratio_s t (1000000 + rho) w' (by first | assumption | omega | (simp <;> omega) | (constructor <;> (first | omega | (simp only [LenOk]; omega) | (simp <;> omega)))) (by first | assumption | omega | (simp <;> omega) | (constructor <;> (first | omega | (simp only [LenOk]; omega) | (simp <;> omega))))).mono ?_))))))))
  rintro _ w1 ⟨rfl, hO⟩
  refine (?_ : CL _ _ _ _ _ _ (Own w [] [])) w1 (hw.frame0 hO)
  refine l_as rfl (l_end ?_)
  exact c_ret (ret1 (v := .int .i64 (t * 1000000 / (1000000 + rho))) rfl rfl (fun w' hw => ⟨rfl, hw.drop⟩))
theorem rguard_s (t rho : Int) (w : World) (h : ¬ badT t rho) : Rets Try.prog 11 #[.int .i64 t, .int .i64 rho] w fun u_ w' => u_ = .int .i64 (shr (shr t rho) rho) ∧ Own w [] [] w' := by
  have h2 := (guard_ok h).2.1
  refine fn_enter (args := [.int .i64 t, .int .i64 rho]) Try.func11 rfl Try.ntmps11 rfl (Own.start w) ?_
  refine c_reg (l_as rfl (l_end (c_reg (l_mv rfl (l_mv rfl (l_call (by kernel_rfl) rfl rfl (fun w' hw => (rshrink_s t rho w' (by first | assumption | omega | (simp <;> omega) | (constructor <;> (first | omega | (simp only [LenOk]; omega) | (simp <;> omega))))).mono ?_)))))))
  rintro _ w1 ⟨rfl, hO⟩
  refine (?_ : CL _ _ _ _ _ _ (Own w [] [])) w1 (hw.frame0 hO)
  refine l_mv rfl (l_call (by kernel_rfl) rfl rfl (fun w' hw => (rshrink_s (shr t rho) rho w' (by first | assumption | omega | (simp <;> omega) | (constructor <;> (first | omega | (simp only [LenOk]; omega) | (simp <;> omega))))).mono ?_))
  rintro _ w1 ⟨rfl, hO⟩
  refine (?_ : CL _ _ _ _ _ _ (Own w [] [])) w1 (hw.frame0 hO)
  refine l_as rfl (l_end ?_)
  exact c_ret (ret1 (v := .int .i64 (shr (shr t rho) rho)) rfl rfl (fun w' hw => ⟨rfl, hw.drop⟩))
theorem rbad_s (t rho : Int) (w : World) : Rets Try.prog 6 #[.int .i64 t, .int .i64 rho] w fun u_ w' => u_ = .bool (decide (badT t rho)) ∧ Own w [] [] w' := by
  refine fn_enter (args := [.int .i64 t, .int .i64 rho]) Try.func6 rfl Try.ntmps6 rfl (Own.start w) ?_
  refine c_reg (l_as rfl (l_end (c_reg (l_mv rfl (l_lss rfl rfl rfl (l_mv rfl (l_bor (q := t < 0) 2 2 [9, 8] (1099511627776 < t) rfl rfl rfl rfl rfl rfl trivial rfl (fun h1_2 => ?_) (fun g1_5 => ?_))))))))
  ·
   refine l_on rfl (gF h1_2) (l_mv rfl (l_on rfl (gF h1_2) (l_gtr rfl rfl rfl ?_)))
   exact l_nil (fun w' hw => ⟨(by repeat (first | exact .refl _ _ | refine .upd rfl ?_ | refine .msk rfl ?_)), rfl, hw⟩)
  refine l_mv rfl (l_bor (q := (t < 0) ∨ (1099511627776 < t)) 2 6 [13, 12] (rho < 0) rfl rfl rfl rfl rfl rfl trivial rfl (fun h1_6 => ?_) (fun g1_9 => ?_))
  ·
   refine l_on rfl (gF h1_6) (l_mv rfl (l_on rfl (gF h1_6) (l_lss rfl rfl rfl ?_)))
   exact l_nil (fun w' hw => ⟨(by repeat (first | exact .refl _ _ | refine .upd rfl ?_ | refine .msk rfl ?_)), rfl, hw⟩)
  refine l_mv rfl (l_bor (q := ((t < 0) ∨ (1099511627776 < t)) ∨ (rho < 0)) 2 10 [17, 16] (500000 < rho) rfl rfl rfl rfl rfl rfl trivial rfl (fun h1_10 => ?_) (fun g1_13 => ?_))
  ·
   refine l_on rfl (gF h1_10) (l_mv rfl (l_on rfl (gF h1_10) (l_gtr rfl rfl rfl ?_)))
   exact l_nil (fun w' hw => ⟨(by repeat (first | exact .refl _ _ | refine .upd rfl ?_ | refine .msk rfl ?_)), rfl, hw⟩)
  refine l_as rfl (l_end ?_)
  exact c_ret (ret1 (v := .bool (decide ((((t < 0) ∨ (1099511627776 < t)) ∨ (rho < 0)) ∨ (500000 < rho)))) rfl rfl (fun w' hw => ⟨rfl, hw.drop⟩))
-- no function scupper/scupperref18.New
-- no function scupper/scupperref18.New
-- no function (*scupper/scupperref18.Edge).tick
-- no function (*scupper/scupperref18.Edge).begin
-- no function (*scupper/scupperref18.Edge).Call
-- no function (*scupper/scupperref18.Edge).Look
-- no function (*scupper/scupperref18.Edge).Again
-- no function (*scupper/scupperref18.Edge).trust
-- no function (*scupper/scupperref18.Edge).Take
-- no function (*scupper/scupperref18.Edge).Usable
end Go.Proofs.Ytgcmbdgimepnmaa
