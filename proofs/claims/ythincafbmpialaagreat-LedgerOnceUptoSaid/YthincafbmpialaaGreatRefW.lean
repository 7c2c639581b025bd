import Derived.Test.YthincafbmpialaaGreatCodec
import Derived.Test.YthincafbmpialaaGreatFwT
import Derived.Test.YthincafbmpialaaGreatChecked
/-
  THE WALK OF (*msg.out).nums: numbers behind what was written.
-/
set_option linter.unusedVariables false
set_option maxRecDepth 10000
namespace Go.Proofs.YthincafbmpialaaGreat
open Go Go.Sc Go.Proofs

abbrev TOut : Nat := 179
def vu (n : Nat) : Value := .int .u64 n
def numsB (ns : List Nat) : List UInt8 := ns.flatMap num
theorem numsB_length {ns : List Nat} (h : ∀ n ∈ ns, n < 18446744073709551616) : (numsB ns).length ≤ 9 * ns.length := by
  induction ns with
  | nil => simp [numsB]
  | cons n ns ih =>
    have h1 := num_le (h n (by simp))
    have h2 := ih (fun m hm => h m (by simp [hm]))
    simp only [numsB, List.flatMap_cons, List.length_append, List.length_cons] at h2 ⊢
    omega

end Go.Proofs.YthincafbmpialaaGreat

/-
  THE WALKS OF the writers, by the symbolic tool: numbers, lists of bytes, whole numbers, flags, places.
-/
set_option linter.unusedVariables false
set_option maxRecDepth 10000
namespace Go.Proofs.YthincafbmpialaaGreat
open Go Go.Sc Go.Proofs

abbrev EncOk (n : Nat) : Prop := n ≤ 100000000000
def fl (f : Bool) : Nat := bif f then 1 else 0
def idsB (ns : List Int) : List UInt8 := numsB (u64 ns.length :: ns.map u64)
/-- A buffer of bytes that is one's own, and where it is kept. -/
def Res.bv (o : Nat) (T : TypeId) (v : Value) (bs : List UInt8) : Res := (Res.row o T [v]).both (Res.vec T8 1 v bs.length (bs.map vb))
theorem _root_.Go.Sc.Own.splitBv {w0 w : World} {S : List Nat} {L : List Res} {i o : Nat} {T : TypeId} {v : Value} {bs : List UInt8} (hL : L[i]? = some (Res.bv o T v bs)) (h : Own w0 S L w) : Own w0 S (L.set i (Res.row o T [v]) ++ [Res.vec T8 1 v bs.length (bs.map vb)]) w := h.splitBoth hL
theorem _root_.Go.Sc.Own.joinBv {w0 w : World} {S : List Nat} {L : List Res} {i j o : Nat} {T : TypeId} {v : Value} {bs : List UInt8} (hij : i ≠ j) (h1 : L[i]? = some (Res.row o T [v])) (h2 : L[j]? = some (Res.vec T8 1 v bs.length (bs.map vb))) (h : Own w0 S L w) : Own w0 S ((L.set i (Res.bv o T v bs)).eraseIdx j) w := h.joinBoth hij h1 h2

theorem putNum_s (v : Value) (bs : List UInt8) (n : Nat) (w : World) (hn : n < 18446744073709551616) (hb : bs.length ≤ 1000000000000) (hv : Rd w [] (Res.sl v bs.length (bs.map vb))) : Rets Tryz.prog 46 #[v, Vn n] w fun u_ w' => ∃ (r : Value), u_ = r ∧ Own w [] [Res.vec 5 1 r (bs ++ num n).length ((bs ++ num n).map vb)] w' := by
  refine (putNum_spec v bs n hn w hv.φ hb).mono ?_
  intro r w1 hO
  exact ⟨r, rfl, hO⟩
theorem nums_s {S : List Nat} (o : Nat) (sl : Value) (bs : List UInt8) (lv : Value) (ns : List Nat) (w : World) (hns : ∀ n ∈ ns, n < 18446744073709551616) (hb : bs.length + 9 * ns.length ≤ 100000000000) (hin : Own w S [Res.bv o TOut sl bs] w) (hl : Rd w S (Res.sl lv ns.length (ns.flatMap U1))) : Rets Tryz.prog 101 #[.pointer (some ⟨o, 0, none⟩), lv] w fun u_ w' => ∃ (sl' : Value), u_ = .tuple #[] ∧ Own w S [Res.bv o TOut sl' (bs ++ numsB ns)] w' := by
  refine fn_own Tryz.func101 rfl Tryz.ntmps101 hin ?_
  refine c_reg (l_mv rfl (a_lenP (pR hl) rfl rfl (l_mv rfl (l_end (c_block ?_)))))
  refine c_loop2 (fun (k : Nat) (s : Value) => [(0, .pointer (some ⟨o, 0, none⟩)), (6, lv), (7, Vj ns.length), (8, Vj k)]) (fun (k : Nat) (s : Value) => k ≤ ns.length) (fun (k : Nat) (s : Value) => [Res.bv o TOut s (bs ++ numsB (ns.take k))]) (fun (k : Nat) (s : Value) => ns.length - k) (fun w' hw => ⟨0, sl, ⟨rfl, rfl, rfl, rfl, trivial⟩, Nat.zero_le _, by simpa [numsB] using hw⟩) (fun k s g hΦ => ?_)
  have hle := numsB_length (ns := ns.take k) (fun n hn => hns n (List.mem_of_mem_take hn))
  have hmin : (ns.take k).length = k := by simp; omega
  refine c_reg (l_lss rfl rfl rfl (l_end (c_seq (c_dec rfl (fun c1 => ?_) (fun c1 => ?_)))))
  ·
   refine c_skipC (c_seq (c_block (c_reg (a_idxP (pR hl) 1 k rfl rfl rfl (by omega) rfl (a_ldP (pR hl) 1 k 0 (fun _ => rfl) rfl rfl (by omega) rfl rfl (l_as rfl (l_end (c_last (l_mv rfl (l_mv rfl (l_nck rfl rfl (a_fld (o := 0) rfl rfl ?_))))))))))))
   refine l_own [Res.row o TOut [s], Res.vec 5 1 s (bs ++ numsB (ns.take k)).length ((bs ++ numsB (ns.take k)).map vb)] (fun w' hw => hw.splitBv (i := 0) (o := o) (T := TOut) (v := s) (bs := (bs ++ numsB (ns.take k))) rfl) ?_
   refine a_ldo 0 (v := s) rfl rfl rfl rfl (l_mv rfl (a_call rfl rfl (fun w' hw => (putNum_s s (bs ++ numsB (ns.take k)) (nth ns k) w' (hns _ (nth_mem (by omega))) (by first | omega | (simp <;> omega) | (constructor <;> (first | omega | (simp <;> omega)))) (hw.rdVec0 1 rfl)).mono ?_)))
   rintro r1_ w1 ⟨_, rfl, hO⟩
   refine (?_ : CL _ _ _ _ _ _ (Own w S [Res.row o TOut [s], Res.vec 5 1 s (bs ++ numsB (ns.take k)).length ((bs ++ numsB (ns.take k)).map vb), Res.vec 5 1 r1_ ((bs ++ numsB (ns.take k)) ++ num (nth ns k)).length (((bs ++ numsB (ns.take k)) ++ num (nth ns k)).map vb)])) w1 (hw.frame0 hO)
   refine l_nck rfl rfl (a_fld (o := 0) rfl rfl ?_)
   refine l_haveO (fun w' hw => Own.cell1Vec (i := 2) rfl hw) (fun hc1_ => ?_)
   refine a_st (cs := [s]) 0 rfl rfl rfl hc1_ rfl (l_end (c_last (l_add rfl rfl (wi64 (by omega)) rfl (l_mv rfl ?_))))
   exact l_nil (fun w' hw => ⟨k + 1, r1_, ⟨rfl, rfl, rfl, rfl, trivial⟩, (by omega), by rw [take_nth (by omega)]; have h := (hw.joinBv (i := 0) (j := 2) (o := o) (T := TOut) (v := r1_) (bs := bs ++ numsB (ns.take k) ++ num (nth ns k)) (by decide) rfl rfl).one 0 rfl; simpa [numsB] using h, (by omega)⟩)
  ·
   exact c_exit rfl (ret0 rfl (fun w' hw => ⟨s, rfl, by rw [List.take_of_length_le (by omega)] at hw; exact hw⟩))

-- no function (*scupper/msg.out).flags
end Go.Proofs.YthincafbmpialaaGreat

/-
  THE WALKS OF the reference's writers: PutNum, PutBytes, Out.Num, Out.Data, Out.Flag, Out.ids.
-/
set_option linter.unusedVariables false
set_option maxRecDepth 10000
namespace Go.Proofs.YthincafbmpialaaGreat
open Go Go.Sc Go.Proofs

/-- The lowest k bytes, the lowest of them first. -/
def le (n : Nat) : Nat → List UInt8
  | 0 => []
  | k + 1 => le n k ++ [UInt8.ofNat (n / 256 ^ k)]
theorem dat_length (d : List UInt8) (h : d.length < 18446744073709551616) : (dat d).length ≤ d.length + 9 := by
  have := num_le h
  simp [dat]; omega

-- no function scupper/scupperref01.PutNum

-- no function scupper/scupperref01.PutBytes
-- no function (*scupper/scupperref03.Out).Num
-- no function (*scupper/scupperref03.Out).Data
-- no function (*scupper/scupperref03.Out).Flag
theorem flatMap_take_le {α β : Type} (f : α → List β) (l : List α) (k : Nat) : ((l.take k).flatMap f).length ≤ (l.flatMap f).length := by
  have : l.flatMap f = (l.take k).flatMap f ++ (l.drop k).flatMap f := by rw [← List.flatMap_append, List.take_append_drop]
  rw [this, List.length_append]; omega
-- no function (*scupper/scupperref03.Out).ids
end Go.Proofs.YthincafbmpialaaGreat
