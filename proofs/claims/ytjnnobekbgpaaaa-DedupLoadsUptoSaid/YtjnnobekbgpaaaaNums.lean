/-
  THE WALK OF (*msg.out).nums: numbers behind what was written.
-/
import Derived.Test.YtjnnobekbgpaaaaCodec
set_option linter.unusedVariables false
set_option maxRecDepth 10000
namespace Go.Proofs.Ytjnnobekbgpaaaa
open Go Go.Sc Go.Proofs

abbrev TOut : Nat := 78
def vu (n : Nat) : Value := .int .u64 n
theorem map_vu_cell1 (ns : List Nat) : ∀ v ∈ ns.map vu, cell1 v = true := by
  intro v hv
  obtain ⟨c, _, rfl⟩ := List.mem_map.1 hv
  rfl

def numsB (ns : List Nat) : List UInt8 := ns.flatMap num
theorem numsB_length {ns : List Nat} (h : ∀ n ∈ ns, n < 18446744073709551616) : (numsB ns).length ≤ 9 * ns.length := by
  induction ns with
  | nil => simp [numsB]
  | cons n ns ih =>
    have h1 := num_le (h n (by simp))
    have h2 := ih (fun m hm => h m (by simp [hm]))
    simp only [numsB, List.flatMap_cons, List.length_append, List.length_cons] at h2 ⊢
    omega

theorem nums_spec (o : Nat) (sl : Value) (bs : List UInt8) (lv : Value) (ns : List Nat) (w : World) (hbuf : (Res.buf o TOut sl bs).φ w) (hl : Sl w lv ns.length (ns.map vu)) (hap : ∀ b ∈ blkS lv, b ∉ o :: blkS sl)
    (hns : ∀ n ∈ ns, n < 18446744073709551616) (hb : bs.length + 9 * ns.length ≤ 100000000000) :
    Rets Try.prog 33 #[.pointer (some ⟨o, 0, none⟩), lv] w fun v w' => v = .tuple #[] ∧ ∃ sl', Own w (o :: blkS sl) [Res.buf o TOut sl' (bs ++ numsB ns)] w' := by
  have hlen := hl
  obtain ⟨la, lc, hlv⟩ : ∃ a c, lv = .slice a ns.length c := by
    rcases hl with ⟨a, rfl, h0, h1⟩ | ⟨b, off, cap, rfl, h⟩
    · exact ⟨a, 0, by rw [h0]⟩
    · exact ⟨_, _, rfl⟩
  subst hlv
  have hst := (Own.start1 hbuf).splitBuf (i := 0) rfl
  have hn0 : ns.length ≤ 100000000000 := by omega
  refine fn_enter (args := [.pointer (some ⟨o, 0, none⟩), .slice la ns.length lc]) Try.func33 rfl Try.ntmps33 rfl hst ?_
  refine c_reg ?_
  refine l_mv rfl ?_
  refine l_len (by kernel_rfl) rfl rfl ?_
  refine l_mv rfl ?_
  refine l_end ?_
  refine c_block ?_
  refine c_loop2 (fun (v : Value) (k : Nat) => [(0, .pointer (some ⟨o, 0, none⟩)), (6, .slice la ns.length lc), (7, .int .i64 ns.length), (8, .int .i64 k)]) (fun v k => k ≤ ns.length)
    (fun v k => [Res.row o TOut [v], Res.sl v (bs ++ numsB (ns.take k)).length ((bs ++ numsB (ns.take k)).map vb)]) (fun _ k => ns.length - k)
    (fun w hw => ⟨sl, 0, ⟨rfl, rfl, rfl, rfl, trivial⟩, Nat.zero_le _, by simpa [numsB] using hw⟩) (fun v k g hk => ?_)
  refine c_reg ?_
  refine l_lss rfl rfl rfl ?_
  refine l_end ?_
  refine c_seq ?_
  refine c_dec rfl (fun c1 => ?_) (fun c1 => ?_)
  · refine c_skipC ?_
    have hk1 : k < ns.length := by omega
    obtain ⟨b, off, cap, e, hcp, -, -, hcell⟩ := hlen.resolve_left (by rintro ⟨_, _, h0, _⟩; omega)
    simp only [Value.slice.injEq, Option.some.injEq] at e
    obtain ⟨rfl, -, rfl⟩ := e
    have hck : w.cell? ⟨b, off + k * 1, none⟩ = some (vu ns[k]) := by rw [Nat.mul_one]; exact hcell k _ (by simp [hk1])
    have hbS : b ∉ o :: blkS sl := hap b (by simp [blkS_of hcp.2])
    have hnk := hns ns[k] (List.getElem_mem hk1)
    have htk : numsB (ns.take (k + 1)) = numsB (ns.take k) ++ num ns[k] := by
      unfold numsB; rw [List.take_succ_eq_append_getElem hk1, List.flatMap_append, List.flatMap_cons, List.flatMap_nil, List.append_nil]
    have hle := numsB_length (ns := ns.take k) (fun n hn => hns n (List.mem_of_mem_take hn))
    have hmin : (ns.take k).length ≤ ns.length := by rw [List.length_take]; omega
    refine c_seq ?_
    refine c_block ?_
    refine c_reg ?_
    refine l_idx (sz := 1) rfl rfl (by kernel_rfl) rfl hk1 rfl ?_
    refine l_ldq rfl hck hbS (by kernel_rfl) rfl ?_
    refine l_as rfl ?_
    refine l_end ?_
    refine c_last ?_
    refine l_mv rfl ?_
    refine l_mv rfl ?_
    refine l_nck rfl rfl ?_
    refine l_fld (o := 0) rfl (by kernel_rfl) rfl ?_
    refine l_ldo 0 rfl rfl rfl (by kernel_rfl) rfl ?_
    refine l_mv rfl ?_
    refine l_call (by kernel_rfl) rfl rfl (fun w' hw => ?_)
    refine (putNum_spec v (bs ++ numsB (ns.take k)) ns[k] hnk w' (hw.holds 1 _ rfl) (by simp; omega)).mono ?_
    intro v18 w1 hO
    have hc1 := hO.cell1Vec (i := 0) rfl
    refine (?_ : CL _ _ _ _ _ _ (Own w (o :: blkS sl) _)) w1 (hw.frame0 hO)
    refine l_nck rfl rfl ?_
    refine l_fld (o := 0) rfl (by kernel_rfl) rfl ?_
    refine l_st 0 rfl rfl rfl (by kernel_rfl) hc1 (by simp) ?_
    refine l_end ?_
    refine c_last ?_
    refine l_add (c := ((k + 1 : Nat) : Int)) rfl rfl (by rw [wi64 (by omega)]; omega) rfl ?_
    refine l_mv rfl ?_
    refine l_nil (fun w' hw => ⟨v18, k + 1, ⟨rfl, rfl, rfl, rfl, trivial⟩, by omega, ?_, by omega⟩)
    have h1 := (hw.sel [0, 2] rfl (by decide)).vecSl (i := 1) rfl
    rw [htk, ← List.append_assoc]
    exact h1
  · refine c_exit rfl (ret0 rfl (fun w' hw => ⟨rfl, v, ?_⟩))
    have hk1 : k = ns.length := by omega
    subst hk1
    rw [List.take_length] at hw
    exact hw.joinBuf (i := 0) (j := 1) (by decide) rfl rfl

end Go.Proofs.Ytjnnobekbgpaaaa
