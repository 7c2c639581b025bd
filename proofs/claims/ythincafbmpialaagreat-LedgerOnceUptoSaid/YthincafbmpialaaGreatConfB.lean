/-
  THE WALKS OF a configuration's bytes and error; who votes, who is a member, who is a majority: the program's and the reference's.
-/
import Derived.Test.YthincafbmpialaaGreatRefW
import Derived.Test.YthincafbmpialaaGreatConfA
set_option linter.unusedVariables false
set_option maxRecDepth 10000
namespace Go.Proofs.YthincafbmpialaaGreat
open Go Go.Sc Go.Proofs

def ConfD.enc (c : ConfD) : List UInt8 := idsB c.vs ++ idsB c.ls
/-- Few enough to be written. -/
structure ConfD.few (c : ConfD) : Prop where
  vs : c.vs.length ≤ 1000000000
  ls : c.ls.length ≤ 1000000000
theorem ConfD.few.wf {c : ConfD} (h : c.few) : c.wf := ⟨by have := h.vs; show _ ≤ _; omega, by have := h.ls; show _ ≤ _; omega⟩
theorem u64_sub {ns : List Int} : ∀ n ∈ ns.map u64, n < 18446744073709551616 := fun n hn => by obtain ⟨a, _, rfl⟩ := List.mem_map.1 hn; exact u64_lt a
theorem idsB_length (ns : List Int) : (idsB ns).length ≤ 9 * (ns.length + 1) := by
  have := numsB_length (ns := u64 ns.length :: ns.map u64) (by intro n hn; rcases List.mem_cons.1 hn with rfl | h; exact u64_lt _; exact u64_sub n h)
  simpa [idsB] using this

-- no function slices.Clone[[]int,int]

-- no function scupper/scupperref03.OwnConf

theorem confs_s (w : World) : Rets Tryz.prog 139 #[] w fun u_ w' => u_ = .agg #[.func (.func 173) #[] #[], .func (.func 178) #[] #[], .func (.func 180) #[] #[]] ∧ Own w [] [] w' := by
  refine fn_own Tryz.func139 rfl Tryz.ntmps139 (Own.start w) ?_
  refine c_reg (l_new (v := .agg #[.nilFunc, .nilFunc, .nilFunc]) (by kernel_rfl) rfl (fun b0 => l_end (c_reg (l_bld (cs := [.func (.func 173) #[] #[], .func (.func 178) #[] #[], .func (.func 180) #[] #[]]) (z := [.nilFunc, .nilFunc, .nilFunc]) (pl := [(0, 1), (1, 1), (2, 1)]) (by kernel_rfl) (by kernel_rfl) rfl (a_stN 0 rfl rfl rfl (allc rfl) rfl (l_end ?_))))))
  exact c_ret (retc (cs := [.func (.func 173) #[] #[], .func (.func 178) #[] #[], .func (.func 180) #[] #[]]) rfl rfl (by kernel_rfl) (Own.rowCells (i := 0) rfl) (fun w' hw => ⟨rfl, hw.drop⟩))

-- no function (scupper/msg.kind[scupper/api.Conf]).bytes

-- no function scupper/msg.Conf

-- no function scupper/conf.Check

-- no function scupper/conf.Voter
-- no function scupper/scupperref10.Voter
-- no function scupper/conf.Member
-- no function scupper/scupperref10.Member

/-- How many of a list's are in another one. -/
def cnt (vs ids : List Int) : Nat := (vs.filter (· ∈ ids)).length
def ConfD.quorum (c : ConfD) (ids : List Int) : Prop := c.ok ∧ c.vs.length < 2 * cnt c.vs ids
instance (c : ConfD) (ids : List Int) : Decidable (c.quorum ids) := inferInstanceAs (Decidable (_ ∧ _))

-- no function scupper/conf.Quorum
-- no function scupper/scupperref10.Quorum

-- no function scupper/scupperlaw10.answers
end Go.Proofs.YthincafbmpialaaGreat