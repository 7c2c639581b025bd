/-
  THE WALKS OF the writers, by the symbolic tool: numbers, lists of bytes, whole numbers, flags, places.
-/
import Derived.Test.YtgcmbdgimepnmaaGreatNums
import Derived.Test.YtgcmbdgimepnmaaGreatFwT
import Derived.Test.YtgcmbdgimepnmaaGreatChecked
set_option linter.unusedVariables false
set_option maxRecDepth 10000
namespace Go.Proofs.YtgcmbdgimepnmaaGreat
open Go Go.Sc Go.Proofs

abbrev EncOk (n : Nat) : Prop := n ≤ 100000000000
def fl (f : Bool) : Nat := bif f then 1 else 0
theorem fl_lt (b : Bool) : fl b < 18446744073709551616 := by cases b <;> simp [fl]
def idsB (ns : List Int) : List UInt8 := numsB (u64 ns.length :: ns.map u64)
/-- A buffer of bytes that is one's own, and where it is kept. -/
def Res.bv (o : Nat) (T : TypeId) (v : Value) (bs : List UInt8) : Res := (Res.row o T [v]).both (Res.vec T8 1 v bs.length (bs.map vb))
theorem _root_.Go.Sc.Own.splitBv {w0 w : World} {S : List Nat} {L : List Res} {i o : Nat} {T : TypeId} {v : Value} {bs : List UInt8} (hL : L[i]? = some (Res.bv o T v bs)) (h : Own w0 S L w) : Own w0 S (L.set i (Res.row o T [v]) ++ [Res.vec T8 1 v bs.length (bs.map vb)]) w := h.splitBoth hL
theorem _root_.Go.Sc.Own.joinBv {w0 w : World} {S : List Nat} {L : List Res} {i j o : Nat} {T : TypeId} {v : Value} {bs : List UInt8} (hij : i ≠ j) (h1 : L[i]? = some (Res.row o T [v])) (h2 : L[j]? = some (Res.vec T8 1 v bs.length (bs.map vb))) (h : Own w0 S L w) : Own w0 S ((L.set i (Res.bv o T v bs)).eraseIdx j) w := h.joinBoth hij h1 h2

theorem putNum_s (v : Value) (bs : List UInt8) (n : Nat) (w : World) (hn : n < 18446744073709551616) (hb : bs.length ≤ 1000000000000) (hv : Rd w [] (Res.sl v bs.length (bs.map vb))) : Rets Tryz.prog 82 #[v, .int .u64 (n : Nat)] w fun u_ w' => ∃ (r : Value), u_ = r ∧ Own w [] [Res.vec 5 1 r (bs ++ num n).length ((bs ++ num n).map vb)] w' := by
  refine (putNum_spec v bs n hn w hv.φ hb).mono ?_
  intro r w1 hO
  exact ⟨r, rfl, hO⟩
theorem nums_s {S : List Nat} (o : Nat) (sl : Value) (bs : List UInt8) (lv : Value) (ns : List Nat) (w : World) (hns : ∀ n ∈ ns, n < 18446744073709551616) (hb : bs.length + 9 * ns.length ≤ 100000000000) (hin : Own w S [Res.bv o TOut sl bs] w) (hl : Rd w S (Res.sl lv ns.length (ns.flatMap U1))) : Rets Tryz.prog 63 #[.pointer (some ⟨o, 0, none⟩), lv] w fun u_ w' => ∃ (sl' : Value), u_ = .tuple #[] ∧ Own w S [Res.bv o TOut sl' (bs ++ numsB ns)] w' := by
  refine fn_enter (args := [.pointer (some ⟨o, 0, none⟩), lv]) Tryz.func63 rfl Tryz.ntmps63 rfl (show Own w S [Res.bv o TOut sl bs] w from hin) ?_
  refine c_reg (l_mv rfl (l_lenP (pR hl) rfl (by kernel_rfl) rfl (l_mv rfl (l_end (c_block ?_)))))
  refine c_loop2 (fun (k : Nat) (s : Value) => [(0, .pointer (some ⟨o, 0, none⟩)), (6, lv), (7, .int .i64 (ns.length : Nat)), (8, .int .i64 (k : Nat))]) (fun (k : Nat) (s : Value) => k ≤ ns.length) (fun (k : Nat) (s : Value) => [Res.bv o TOut s (bs ++ numsB (ns.take k))]) (fun (k : Nat) (s : Value) => ns.length - k) (fun w' hw => ⟨0, sl, ⟨rfl, rfl, rfl, rfl, trivial⟩, Nat.zero_le _, by simpa [numsB] using hw⟩) (fun k s g hΦ => ?_)
  have hle := numsB_length (ns := ns.take k) (fun n hn => hns n (List.mem_of_mem_take hn))
  have hmin : (ns.take k).length = k := by simp; omega
  refine c_reg (l_lss rfl rfl rfl (l_end (c_seq (c_dec rfl (fun c1 => ?_) (fun c1 => ?_)))))
  ·
   refine c_skipC (c_seq (c_block (c_reg (l_idxP (pR hl) 1 k rfl rfl (by kernel_rfl) rfl (by omega) rfl (l_ldP (pR hl) 1 k 0 (fun _ => rfl) rfl rfl (by omega) rfl (by kernel_rfl) rfl (l_as rfl (l_end (c_last (l_mv rfl (l_mv rfl (l_nck rfl rfl (l_fld (o := 0) rfl (by kernel_rfl) rfl ?_))))))))))))
   refine l_own [Res.row o TOut [s], Res.vec 5 1 s (bs ++ numsB (ns.take k)).length ((bs ++ numsB (ns.take k)).map vb)] (fun w' hw => hw.splitBv (i := 0) (o := o) (T := TOut) (v := s) (bs := (bs ++ numsB (ns.take k))) rfl) ?_
   refine l_ldo 0 (v := s) rfl rfl rfl (by kernel_rfl) rfl (l_mv rfl (l_call (by kernel_rfl) rfl rfl (fun w' hw => (putNum_s s (bs ++ numsB (ns.take k)) (nth ns k) w' (hns _ (nth_mem (by omega))) (by first | assumption | omega | (simp <;> omega) | (constructor <;> (first | omega | (simp only [LenOk]; omega) | (simp <;> omega)))) (hw.rdVec0 1 rfl)).mono ?_)))
   rintro r1_ w1 ⟨_, rfl, hO⟩
   refine (?_ : CL _ _ _ _ _ _ (Own w S [Res.row o TOut [s], Res.vec 5 1 s (bs ++ numsB (ns.take k)).length ((bs ++ numsB (ns.take k)).map vb), Res.vec 5 1 r1_ ((bs ++ numsB (ns.take k)) ++ num (nth ns k)).length (((bs ++ numsB (ns.take k)) ++ num (nth ns k)).map vb)])) w1 (hw.frame0 hO)
   refine l_nck rfl rfl (l_fld (o := 0) rfl (by kernel_rfl) rfl ?_)
   refine l_haveO (fun w' hw => Own.cell1Vec (i := 2) rfl hw) (fun hc1_ => ?_)
   refine l_st (cs := [s]) 0 rfl rfl rfl (by kernel_rfl) hc1_ (Nat.le_of_ble_eq_true rfl) (l_end (c_last (l_add rfl rfl (wi64 (by omega)) rfl (l_mv rfl ?_))))
   exact l_nil (fun w' hw => ⟨k + 1, r1_, ⟨rfl, rfl, rfl, rfl, trivial⟩, (by omega), by rw [take_nth (by omega)]; have h := (hw.joinBv (i := 0) (j := 2) (o := o) (T := TOut) (v := r1_) (bs := bs ++ numsB (ns.take k) ++ num (nth ns k)) (by decide) rfl rfl).one 0 rfl; simpa [numsB] using h, (by omega)⟩)
  ·
   exact c_exit rfl (ret0 rfl (fun w' hw => ⟨s, rfl, by rw [List.take_of_length_le (by omega)] at hw; exact hw⟩))

theorem flags_s {S : List Nat} (o : Nat) (sl : Value) (bs : List UInt8) (lv : Value) (fs : List Bool) (w : World) (hb : bs.length + 9 * fs.length ≤ 100000000000) (hin : Own w S [Res.bv o TOut sl bs] w) (hl : Rd w S (Res.sl lv fs.length (fs.flatMap B1))) : Rets Tryz.prog 64 #[.pointer (some ⟨o, 0, none⟩), lv] w fun u_ w' => ∃ (sl' : Value), u_ = .tuple #[] ∧ Own w S [Res.bv o TOut sl' (bs ++ numsB (fs.map fl))] w' := by
  refine fn_enter (args := [.pointer (some ⟨o, 0, none⟩), lv]) Tryz.func64 rfl Tryz.ntmps64 rfl (show Own w S [Res.bv o TOut sl bs] w from hin) ?_
  refine c_reg (l_mv rfl (l_lenP (pR hl) rfl (by kernel_rfl) rfl (l_mv rfl (l_end (c_block ?_)))))
  refine c_loop2 (fun (k : Nat) (s : Value) => [(0, .pointer (some ⟨o, 0, none⟩)), (6, lv), (7, .int .i64 (fs.length : Nat)), (8, .int .i64 (k : Nat))]) (fun (k : Nat) (s : Value) => k ≤ fs.length) (fun (k : Nat) (s : Value) => [Res.bv o TOut s (bs ++ numsB ((fs.map fl).take k))]) (fun (k : Nat) (s : Value) => fs.length - k) (fun w' hw => ⟨0, sl, ⟨rfl, rfl, rfl, rfl, trivial⟩, Nat.zero_le _, by simpa [numsB] using hw⟩) (fun k s g hΦ => ?_)
  have hle := numsB_length (ns := (fs.map fl).take k) (fun n hn => by obtain ⟨a, _, rfl⟩ := List.mem_map.1 (List.mem_of_mem_take hn); exact fl_lt a)
  have hmin : ((fs.map fl).take k).length = k := by simp; omega
  refine c_reg (l_lss rfl rfl rfl (l_end (c_seq (c_dec rfl (fun c1 => ?_) (fun c1 => ?_)))))
  ·
   refine c_skipC (c_seq (c_block (c_reg (l_idxP (pR hl) 1 k rfl rfl (by kernel_rfl) rfl (by omega) rfl (l_ldP (pR hl) 1 k 0 (fun _ => rfl) rfl rfl (by omega) rfl (by kernel_rfl) rfl (l_as rfl (l_end (c_reg (l_mv rfl (l_end (c_if rfl (fun c2 => ?_) (fun c2 => ?_))))))))))))
   ·
    refine c_last (l_mv rfl (l_bsl (e := 23) (sz := 1) (vs := [.int .u64 (1 : Nat)]) (by kernel_rfl) rfl rfl (by simp [Value.cells]) (by decide) rfl (fun b14 => l_call (by kernel_rfl) rfl rfl (fun w' hw => (nums_s o s (bs ++ numsB ((fs.map fl).take k)) (.slice (some ⟨b14, 0, none⟩) 1 1) [1] w' (by first | assumption | (simp [u64_lt]; done) | (simp [u64_lt]; omega) | (simp; omega)) (by first | assumption | omega | (simp <;> omega) | (constructor <;> (first | omega | (simp only [LenOk]; omega) | (simp <;> omega)))) (hw.give [0] rfl (by decide)) (hw.rdVec 1 rfl [0] rfl rfl)).mono ?_))))
    rintro _ w1 ⟨sl'1_, rfl, hO⟩
    refine (?_ : CL _ _ _ _ _ _ (Own w S [Res.vec 23 1 (.slice (some ⟨b14, 0, none⟩) 1 1) [1].length ([1].flatMap U1), Res.bv o TOut sl'1_ ((bs ++ numsB ((fs.map fl).take k)) ++ numsB [1])])) w1 (hw.frameL [0] rfl hO)
    refine l_end (c_last (l_add rfl rfl (wi64 (by omega)) rfl (l_mv rfl ?_)))
    exact l_nil (fun w' hw => ⟨k + 1, sl'1_, ⟨rfl, rfl, rfl, rfl, trivial⟩, (by omega), by rw [take_nth (by simp; omega), show nth (fs.map fl) k = fl (nth fs k) from nth_map (by omega), c2]; simpa [numsB, fl] using hw.one 1 rfl, (by omega)⟩)
   ·
    refine c_last (l_mv rfl (l_bsl (e := 23) (sz := 1) (vs := [.int .u64 (0 : Nat)]) (by kernel_rfl) rfl rfl (by simp [Value.cells]) (by decide) rfl (fun b17 => l_call (by kernel_rfl) rfl rfl (fun w' hw => (nums_s o s (bs ++ numsB ((fs.map fl).take k)) (.slice (some ⟨b17, 0, none⟩) 1 1) [0] w' (by first | assumption | (simp [u64_lt]; done) | (simp [u64_lt]; omega) | (simp; omega)) (by first | assumption | omega | (simp <;> omega) | (constructor <;> (first | omega | (simp only [LenOk]; omega) | (simp <;> omega)))) (hw.give [0] rfl (by decide)) (hw.rdVec 1 rfl [0] rfl rfl)).mono ?_))))
    rintro _ w1 ⟨sl'2_, rfl, hO⟩
    refine (?_ : CL _ _ _ _ _ _ (Own w S [Res.vec 23 1 (.slice (some ⟨b17, 0, none⟩) 1 1) [0].length ([0].flatMap U1), Res.bv o TOut sl'2_ ((bs ++ numsB ((fs.map fl).take k)) ++ numsB [0])])) w1 (hw.frameL [0] rfl hO)
    refine l_end (c_last (l_add rfl rfl (wi64 (by omega)) rfl (l_mv rfl ?_)))
    exact l_nil (fun w' hw => ⟨k + 1, sl'2_, ⟨rfl, rfl, rfl, rfl, trivial⟩, (by omega), by rw [take_nth (by simp; omega), show nth (fs.map fl) k = fl (nth fs k) from nth_map (by omega), c2]; simpa [numsB, fl] using hw.one 1 rfl, (by omega)⟩)
  ·
   exact c_exit rfl (ret0 rfl (fun w' hw => ⟨s, rfl, by rw [List.take_of_length_le (by simp; omega)] at hw; exact hw⟩))
-- no function (*scupper/msg.out).ids
end Go.Proofs.YtgcmbdgimepnmaaGreat
