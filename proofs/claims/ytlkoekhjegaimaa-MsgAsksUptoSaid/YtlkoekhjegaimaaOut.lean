/-
  THE WALKS OF the writers: codec.PutBytes, out.ints, out.flags, out.data, out.ids.
-/
import Derived.Test.YtlkoekhjegaimaaNums
import Derived.Test.YtlkoekhjegaimaaFwB
set_option linter.unusedVariables false
set_option maxRecDepth 10000
namespace Go.Proofs.Ytlkoekhjegaimaa
open Go Go.Sc Go.Proofs

theorem take_snoc {α : Type} {l : List α} {k : Nat} {x : α} (hx : l[k]? = some x) : l.take (k + 1) = l.take k ++ [x] := by
  rw [List.take_add_one, hx]; rfl
theorem flatMap_take_le {α β : Type} (f : α → List β) (l : List α) (k : Nat) : ((l.take k).flatMap f).length ≤ (l.flatMap f).length := by
  have : l.flatMap f = (l.take k).flatMap f ++ (l.drop k).flatMap f := by rw [← List.flatMap_append, List.take_append_drop]
  rw [this, List.length_append]; omega
def datsB (ps : List (Value × List UInt8)) : List UInt8 := ps.flatMap fun p => dat p.2
def pv (p : Value × List UInt8) : List Value := [p.1]

set_option maxHeartbeats 1000000 in
theorem putBytes_spec (v : Value) (bs : List UInt8) (lv : Value) (ps : List (Value × List UInt8)) (w : World) (hv : BSl w v bs) (hlv : Sl w lv ps.length (ps.flatMap pv)) (hps : ∀ p ∈ ps, BSl w p.1 p.2) (hb : bs.length + (datsB ps).length ≤ 100000000000) :
    Rets Try.prog 148 #[v, lv] w fun v' w' => Own w [] [bvec v' (bs ++ datsB ps)] w' := by
  obtain ⟨a, cap, rfl, hnc, hcap, ha⟩ := hlv.shape
  refine fn_enter (args := [v, .slice a ps.length cap]) Try.func148 rfl Try.ntmps148 rfl (Own.start w) ?_
  refine c_reg ?_
  refine l_as rfl ?_
  refine l_end ?_
  refine c_reg ?_
  refine l_mv rfl ?_
  refine l_call (by kernel_rfl) rfl rfl (fun w' hw => ?_)
  refine (clone_spec v bs w' (hw.old (Res.sl v bs.length (bs.map vb)) hv (by simp)) (by omega)).mono ?_
  rintro v1 w1 hO
  refine (?_ : CL _ _ _ _ _ _ (Own w [] _)) w1 (hw.frame0 hO)
  refine l_as rfl ?_
  refine l_end ?_
  refine c_seq ?_
  refine c_reg ?_
  refine l_mv rfl ?_
  refine l_len (by kernel_rfl) rfl rfl ?_
  refine l_mv rfl ?_
  refine l_end ?_
  refine c_block ?_
  refine c_loop2 (fun (k : Nat) (o : Value) => [(5, o), (10, .slice a ps.length cap), (11, .int .i64 ps.length), (12, .int .i64 k)]) (fun (k : Nat) (o : Value) => k ≤ ps.length) (fun (k : Nat) (o : Value) => [bvec o (bs ++ datsB (ps.take k))]) (fun (k : Nat) (o : Value) => ps.length - k) (fun w' hw => ⟨0, v1, ⟨rfl, rfl, rfl, rfl, trivial⟩, Nat.zero_le _, by simpa [datsB] using hw⟩) (fun k o g hΦ => ?_)
  have hk1 := hΦ
  refine c_reg ?_
  refine l_lss rfl rfl rfl ?_
  refine l_end ?_
  refine c_seq ?_
  refine c_dec rfl (fun c1 => ?_) (fun c1 => ?_)
  ·
    have hk : k < ps.length := by omega
    obtain ⟨x, hx⟩ : ∃ x, ps[k]? = some x := ⟨_, List.getElem?_eq_getElem hk⟩
    obtain ⟨b, off, rfl⟩ := ha (by omega)
    have hel := hlv.elt (g := pv) (sz := 1) (fun _ => rfl) hx
    have hxs := hps x (List.mem_of_getElem? hx)
    obtain ⟨a2, cap2, e2, hnc2, hcap2, ha2⟩ := Sl.shape hxs
    have hle : (datsB (ps.take k)).length + (dat x.2).length ≤ (datsB ps).length := by
      have h := flatMap_take_le (fun p : Value × List UInt8 => dat p.2) ps (k + 1)
      rw [take_snoc hx, List.flatMap_append] at h
      simpa [datsB] using h
    have hdl : (dat x.2).length = (num x.2.length).length + x.2.length := by simp [dat]
    obtain ⟨xv, xs⟩ := x
    dsimp only at e2 hle hdl hxs
    subst e2
    refine c_skipC ?_
    refine c_seq ?_
    refine c_block ?_
    refine c_reg ?_
    refine l_idx (sz := 1) rfl rfl (by kernel_rfl) rfl hk rfl ?_
    refine l_ldq rfl (hel 0 _ rfl) (by simp) (by kernel_rfl) rfl ?_
    refine l_as rfl ?_
    refine l_end ?_
    refine c_last ?_
    refine l_mv rfl ?_
    refine l_mv rfl ?_
    refine l_len (by kernel_rfl) rfl rfl ?_
    refine l_cvt (by kernel_rfl) rfl (wu64 (by omega)) rfl ?_ (by kernel_rfl)
    refine l_call (by kernel_rfl) rfl rfl (fun w' hw => ?_)
    refine (putNum_spec o (bs ++ datsB (ps.take k)) xs.length (by omega) w' (Vec.sl (hw.holds 0 _ rfl)) (by simp; omega)).mono ?_
    rintro v20 w1 hO
    refine (?_ : CL _ _ _ _ _ _ (Own w [] _)) w1 (hw.frame0 hO)
    refine l_mv rfl ?_
    refine l_app (e := 5) (sz := 1) (by' := 1) (news := xs.map vb) (m := xs.length) 1 (by kernel_rfl) rfl rfl rfl (fun w' hw => hw.old (Res.sl _ xs.length (xs.map vb)) hxs (by simp)) (by simp) (map_vb_cell1 xs) (by simp; omega) (by rw [maxLen_eq]; simp; omega) rfl (fun v22 => ?_)
    refine l_as rfl ?_
    refine l_end ?_
    refine c_last ?_
    refine l_add rfl rfl (wi64 (by omega)) rfl ?_
    refine l_mv rfl ?_
    exact l_nil (fun w' hw => ⟨k + 1, v22, ⟨rfl, rfl, rfl, rfl, trivial⟩, hk, by rw [take_snoc hx]; simpa [datsB, dat, bvec, Nat.add_assoc] using hw.one 1 rfl, by omega⟩)
  ·
    have hkk : k = ps.length := by omega
    refine c_exitC rfl ?_
    refine c_reg ?_
    refine l_mv rfl ?_
    refine l_as rfl ?_
    refine l_end ?_
    exact c_ret (ret1 rfl rfl (fun w' hw => (by rw [List.take_of_length_le (by omega)] at hw; exact hw)))

theorem data_spec (o : Nat) (sl : Value) (bs : List UInt8) (lv : Value) (ps : List (Value × List UInt8)) (w : World) (hbuf : (Res.buf o TOut sl bs).φ w) (hlv : Sl w lv ps.length (ps.flatMap pv)) (hps : ∀ p ∈ ps, BSl w p.1 p.2) (hb : bs.length + (datsB ps).length ≤ 100000000000) :
    Rets Try.prog 100 #[.pointer (some ⟨o, 0, none⟩), lv] w fun v w' => v = .tuple #[] ∧ ∃ sl', Own w (o :: blkS sl) [Res.buf o TOut sl' (bs ++ datsB ps)] w' := by
  have hrow : Row w o TOut [sl] := hbuf.1
  refine fn_enter (args := [.pointer (some ⟨o, 0, none⟩), lv]) Try.func100 rfl Try.ntmps100 rfl (Own.start w) ?_
  refine c_last ?_
  refine l_mv rfl ?_
  refine l_mv rfl ?_
  refine l_nck rfl rfl ?_
  refine l_fld (o := 0) rfl (by kernel_rfl) rfl ?_
  refine l_ldq rfl (hrow.cell rfl) (by simp) (by kernel_rfl) rfl ?_
  refine l_mv rfl ?_
  refine l_call (by kernel_rfl) rfl rfl (fun w' hw => ?_)
  refine (putBytes_spec sl bs lv ps w' (hw.old (Res.sl _ _ _) hbuf.2.1 (by simp)) (hw.old (Res.sl _ _ _) hlv (by simp)) (fun p hp => hw.old (Res.sl p.1 p.2.length (p.2.map vb)) (hps p hp) (by simp)) hb).mono ?_
  rintro v10 w1 hO
  refine (?_ : CL _ _ _ _ _ _ (Own w [] _)) w1 (hw.frame0 hO)
  refine l_nck rfl rfl ?_
  refine l_fld (o := 0) rfl (by kernel_rfl) rfl ?_
  intro w2 hw2
  have hc1 := Own.cell1Vec (i := 0) rfl hw2
  refine (?_ : CL _ _ _ _ _ _ (Own w (o :: blkS sl) _)) w2 ((hw2.adopt (Res.buf o TOut sl bs) hbuf (by simp)).splitBuf (i := 1) rfl)
  refine l_st 1 rfl rfl rfl (by kernel_rfl) hc1 (by simp) ?_
  exact l_nil (ret0 rfl (fun w' hw => ⟨rfl, v10, Own.joinBuf (i := 0) (j := 1) (L := [Res.row o TOut [v10], Res.sl v10 (bs ++ datsB ps).length ((bs ++ datsB ps).map vb)]) (by decide) rfl rfl ((hw.vecSl (i := 0) rfl).sel [1, 0] rfl (by decide))⟩))

def vi (n : Int) : List Value := [.int .i64 n]
theorem ints_spec (o : Nat) (sl : Value) (bs : List UInt8) (lv : Value) (ns : List Int) (w : World) (hbuf : (Res.buf o TOut sl bs).φ w) (hlv : Sl w lv ns.length (ns.flatMap vi)) (hap : ∀ b ∈ blkS lv, b ∉ o :: blkS sl) (hb : bs.length + 9 * ns.length ≤ 20000000000) :
    Rets Try.prog 115 #[.pointer (some ⟨o, 0, none⟩), lv] w fun v w' => v = .tuple #[] ∧ ∃ sl', Own w (o :: blkS sl) [Res.buf o TOut sl' (bs ++ numsB (ns.map u64))] w' := by
  obtain ⟨a, cap, rfl, hnc, hcap, ha⟩ := hlv.shape
  refine fn_enter (args := [.pointer (some ⟨o, 0, none⟩), .slice a ns.length cap]) Try.func115 rfl Try.ntmps115 rfl (show Own w (o :: blkS sl) [Res.buf o TOut sl bs] w from Own.start1 hbuf) ?_
  refine c_reg ?_
  refine l_mv rfl ?_
  refine l_len (by kernel_rfl) rfl rfl ?_
  refine l_mv rfl ?_
  refine l_end ?_
  refine c_block ?_
  refine c_loop2 (fun (k : Nat) (s : Value) => [(0, .pointer (some ⟨o, 0, none⟩)), (6, .slice a ns.length cap), (7, .int .i64 ns.length), (8, .int .i64 k)]) (fun (k : Nat) (s : Value) => k ≤ ns.length) (fun (k : Nat) (s : Value) => [Res.buf o TOut s (bs ++ numsB ((ns.take k).map u64))]) (fun (k : Nat) (s : Value) => ns.length - k) (fun w' hw => ⟨0, sl, ⟨rfl, rfl, rfl, rfl, trivial⟩, Nat.zero_le _, by simpa [numsB] using hw⟩) (fun k s g hΦ => ?_)
  have hk1 := hΦ
  refine c_reg ?_
  refine l_lss rfl rfl rfl ?_
  refine l_end ?_
  refine c_seq ?_
  refine c_dec rfl (fun c1 => ?_) (fun c1 => ?_)
  ·
    have hk : k < ns.length := by omega
    obtain ⟨x, hx⟩ : ∃ x, ns[k]? = some x := ⟨_, List.getElem?_eq_getElem hk⟩
    obtain ⟨b, off, rfl⟩ := ha (by omega)
    have hel := hlv.elt (g := vi) (sz := 1) (fun _ => rfl) hx
    have hbS := hap b (by simp [blkS_of (show 0 < cap by omega)])
    have hle := numsB_length (ns := (ns.take k).map u64) (fun n hn => by obtain ⟨a, _, rfl⟩ := List.mem_map.1 hn; exact u64_lt a)
    have hmin : ((ns.take k).map u64).length ≤ ns.length := by rw [List.length_map, List.length_take]; omega
    refine c_skipC ?_
    refine c_seq ?_
    refine c_block ?_
    refine c_reg ?_
    refine l_idx (sz := 1) rfl rfl (by kernel_rfl) rfl hk rfl ?_
    refine l_ldq rfl (hel 0 _ rfl) hbS (by kernel_rfl) rfl ?_
    refine l_as rfl ?_
    refine l_end ?_
    refine c_last ?_
    refine l_mv rfl ?_
    refine l_mv rfl ?_
    refine l_cvt (by kernel_rfl) rfl (wrap_u64 _) rfl ?_ (by kernel_rfl)
    refine l_bsl (e := 22) (sz := 1) (vs := [.int .u64 ((u64 x : Nat) : Int)]) (by kernel_rfl) rfl rfl (by simp [Value.cells]) (by decide) rfl (fun b15 => ?_)
    refine l_call (by kernel_rfl) rfl rfl (fun w' hw => ?_)
    refine (nums_spec o s (bs ++ numsB ((ns.take k).map u64)) _ [u64 x] w' (hw.holds 0 _ rfl) (Vec.sl (hw.holds 1 _ rfl)) (fun b hb => hw.apart 1 0 _ _ (by decide) rfl rfl b hb) (by simp [u64_lt]) (by rw [List.length_append]; simp only [List.length_cons, List.length_nil]; omega)).mono ?_
    rintro _ w1 ⟨rfl, s2, hO⟩
    refine (?_ : CL _ _ _ _ _ _ (Own w (o :: blkS sl) _)) w1 (hw.frame1 (i := 0) rfl hO)
    refine l_end ?_
    refine c_last ?_
    refine l_add rfl rfl (wi64 (by omega)) rfl ?_
    refine l_mv rfl ?_
    exact l_nil (fun w' hw => ⟨k + 1, s2, ⟨rfl, rfl, rfl, rfl, trivial⟩, hk, by rw [take_snoc hx, List.map_append]; simpa [numsB] using hw.one 0 rfl, by omega⟩)
  ·
    have hkk : k = ns.length := by omega
    rw [List.take_of_length_le (by omega)]
    exact c_exit rfl (ret0 rfl (fun w' hw => ⟨rfl, s, hw⟩))

def fl (f : Bool) : Nat := bif f then 1 else 0
def vf (f : Bool) : List Value := [.bool f]
theorem flags_spec (o : Nat) (sl : Value) (bs : List UInt8) (lv : Value) (fs : List Bool) (w : World) (hbuf : (Res.buf o TOut sl bs).φ w) (hlv : Sl w lv fs.length (fs.flatMap vf)) (hap : ∀ b ∈ blkS lv, b ∉ o :: blkS sl) (hb : bs.length + 9 * fs.length ≤ 20000000000) :
    Rets Try.prog 110 #[.pointer (some ⟨o, 0, none⟩), lv] w fun v w' => v = .tuple #[] ∧ ∃ sl', Own w (o :: blkS sl) [Res.buf o TOut sl' (bs ++ numsB (fs.map fl))] w' := by
  obtain ⟨a, cap, rfl, hnc, hcap, ha⟩ := hlv.shape
  refine fn_enter (args := [.pointer (some ⟨o, 0, none⟩), .slice a fs.length cap]) Try.func110 rfl Try.ntmps110 rfl (show Own w (o :: blkS sl) [Res.buf o TOut sl bs] w from Own.start1 hbuf) ?_
  refine c_reg ?_
  refine l_mv rfl ?_
  refine l_len (by kernel_rfl) rfl rfl ?_
  refine l_mv rfl ?_
  refine l_end ?_
  refine c_block ?_
  refine c_loop2 (fun (k : Nat) (s : Value) => [(0, .pointer (some ⟨o, 0, none⟩)), (6, .slice a fs.length cap), (7, .int .i64 fs.length), (8, .int .i64 k)]) (fun (k : Nat) (s : Value) => k ≤ fs.length) (fun (k : Nat) (s : Value) => [Res.buf o TOut s (bs ++ numsB ((fs.take k).map fl))]) (fun (k : Nat) (s : Value) => fs.length - k) (fun w' hw => ⟨0, sl, ⟨rfl, rfl, rfl, rfl, trivial⟩, Nat.zero_le _, by simpa [numsB] using hw⟩) (fun k s g hΦ => ?_)
  have hk1 := hΦ
  refine c_reg ?_
  refine l_lss rfl rfl rfl ?_
  refine l_end ?_
  refine c_seq ?_
  refine c_dec rfl (fun c1 => ?_) (fun c1 => ?_)
  ·
    have hk : k < fs.length := by omega
    obtain ⟨x, hx⟩ : ∃ x, fs[k]? = some x := ⟨_, List.getElem?_eq_getElem hk⟩
    obtain ⟨b, off, rfl⟩ := ha (by omega)
    have hel := hlv.elt (g := vf) (sz := 1) (fun _ => rfl) hx
    have hbS := hap b (by simp [blkS_of (show 0 < cap by omega)])
    have hle := numsB_length (ns := (fs.take k).map fl) (fun n hn => by obtain ⟨a, _, rfl⟩ := List.mem_map.1 hn; cases a <;> simp [fl])
    have hmin : ((fs.take k).map fl).length ≤ fs.length := by rw [List.length_map, List.length_take]; omega
    refine c_skipC ?_
    refine c_seq ?_
    refine c_block ?_
    refine c_reg ?_
    refine l_idx (sz := 1) rfl rfl (by kernel_rfl) rfl hk rfl ?_
    refine l_ldq rfl (hel 0 _ rfl) hbS (by kernel_rfl) rfl ?_
    refine l_as rfl ?_
    refine l_end ?_
    refine c_reg ?_
    refine l_mv rfl ?_
    refine l_end ?_
    refine c_if rfl (fun c2 => ?_) (fun c2 => ?_)
    ·
      refine c_last ?_
      refine l_mv rfl ?_
      refine l_bsl (e := 22) (sz := 1) (vs := [.int .u64 1]) (by kernel_rfl) rfl rfl (by simp [Value.cells]) (by decide) rfl (fun b14 => ?_)
      refine l_call (by kernel_rfl) rfl rfl (fun w' hw => ?_)
      refine (nums_spec o s (bs ++ numsB ((fs.take k).map fl)) _ [1] w' (hw.holds 0 _ rfl) (Vec.sl (hw.holds 1 _ rfl)) (fun b hb => hw.apart 1 0 _ _ (by decide) rfl rfl b hb) (by simp) (by rw [List.length_append]; simp only [List.length_cons, List.length_nil]; omega)).mono ?_
      rintro _ w1 ⟨rfl, s2, hO⟩
      refine (?_ : CL _ _ _ _ _ _ (Own w (o :: blkS sl) _)) w1 (hw.frame1 (i := 0) rfl hO)
      refine l_end ?_
      refine c_last ?_
      refine l_add rfl rfl (wi64 (by omega)) rfl ?_
      refine l_mv rfl ?_
      exact l_nil (fun w' hw => ⟨k + 1, s2, ⟨rfl, rfl, rfl, rfl, trivial⟩, hk, by rw [take_snoc hx, List.map_append]; simpa [numsB, fl, c2] using hw.one 0 rfl, by omega⟩)
    ·
      refine c_last ?_
      refine l_mv rfl ?_
      refine l_bsl (e := 22) (sz := 1) (vs := [.int .u64 0]) (by kernel_rfl) rfl rfl (by simp [Value.cells]) (by decide) rfl (fun b17 => ?_)
      refine l_call (by kernel_rfl) rfl rfl (fun w' hw => ?_)
      refine (nums_spec o s (bs ++ numsB ((fs.take k).map fl)) _ [0] w' (hw.holds 0 _ rfl) (Vec.sl (hw.holds 1 _ rfl)) (fun b hb => hw.apart 1 0 _ _ (by decide) rfl rfl b hb) (by simp) (by rw [List.length_append]; simp only [List.length_cons, List.length_nil]; omega)).mono ?_
      rintro _ w1 ⟨rfl, s2, hO⟩
      refine (?_ : CL _ _ _ _ _ _ (Own w (o :: blkS sl) _)) w1 (hw.frame1 (i := 0) rfl hO)
      refine l_end ?_
      refine c_last ?_
      refine l_add rfl rfl (wi64 (by omega)) rfl ?_
      refine l_mv rfl ?_
      exact l_nil (fun w' hw => ⟨k + 1, s2, ⟨rfl, rfl, rfl, rfl, trivial⟩, hk, by rw [take_snoc hx, List.map_append]; simpa [numsB, fl, c2] using hw.one 0 rfl, by omega⟩)
  ·
    have hkk : k = fs.length := by omega
    rw [List.take_of_length_le (by omega)]
    exact c_exit rfl (ret0 rfl (fun w' hw => ⟨rfl, s, hw⟩))

end Go.Proofs.Ytlkoekhjegaimaa
