/-
  THE WALKS OF the reference's writers: PutNum, PutBytes, Out.Num, Out.Data, Out.Flag, Out.ids.
-/
import Derived.Test.YtgcmbdgimepnmaaGreatOutS
set_option linter.unusedVariables false
set_option maxRecDepth 10000
namespace Go.Proofs.YtgcmbdgimepnmaaGreat
open Go Go.Sc Go.Proofs

/-- The lowest k bytes, the lowest of them first. -/
def le (n : Nat) : Nat → List UInt8
  | 0 => []
  | k + 1 => le n k ++ [UInt8.ofNat (n / 256 ^ k)]
theorem le_length (n : Nat) : ∀ k, (le n k).length = k
  | 0 => rfl
  | k + 1 => by simp [le, le_length n k]
theorem le_rev (n : Nat) : ∀ k, (le n k).reverse = be n k
  | 0 => rfl
  | k + 1 => by
    have e : (256 : Nat) ^ k = 2 ^ (8 * k) := by rw [Nat.pow_mul]
    simp [le, be, le_rev n k, e]
theorem byteLen_zero : byteLen 0 = 0 := by simp [byteLen, bitLen]
theorem byteLen_step {m : Nat} (h : 0 < m) : byteLen m = byteLen (m / 256) + 1 := by
  by_cases h8 : 256 ≤ m
  · have := bitLen_shift (n := m) (k := 8) h8
    unfold byteLen
    rw [this]
    show (bitLen (m / 256) + 8 + 7) / 8 = (bitLen (m / 256) + 7) / 8 + 1
    omega
  · have e : m / 256 = 0 := by omega
    rw [e, byteLen_zero]
    have h1 := bitLen_pos h
    have h2 := bitLen_le_of_lt (n := m) (k := 8) (by omega)
    unfold byteLen
    omega
theorem dat_length (d : List UInt8) (h : d.length < 18446744073709551616) : (dat d).length ≤ d.length + 9 := by
  have := num_le h
  simp [dat]; omega

theorem rev_end {w w' : World} {S : List Nat} {o : Value} {n k j : Nat} (hj : j = 0) (hl : (le n k).length = k) (hk : k = byteLen n) (h : Own w S [Res.vec 5 1 o (UInt8.ofNat (le n k).length :: ((le n k).drop j).reverse).length ((UInt8.ofNat (le n k).length :: ((le n k).drop j).reverse).map vb)] w') : Own w S [Res.vec 5 1 o (num n).length ((num n).map vb)] w' := by
  subst hj
  rw [List.drop_zero, le_rev, hl, hk] at h
  exact h

theorem rputNum_s (n : Nat) (w : World) (hn : n < 18446744073709551616) : Rets Tryz.prog 48 #[.int .u64 (n : Nat)] w fun u_ w' => ∃ (v : Value), u_ = v ∧ Own w [] [Res.vec 5 1 v (num n).length ((num n).map vb)] w' := by
  have hk := byteLen_le hn
  refine fn_enter (args := [.int .u64 (n : Nat)]) Tryz.func48 rfl Tryz.ntmps48 rfl (Own.start w) ?_
  refine c_reg (l_as rfl (l_end (c_reg (l_as rfl (l_end (c_seq (c_block ?_)))))))
  refine c_loop3 (fun (k : Nat) (m : Nat) (v : Value) => [(0, .int .u64 (m : Nat)), (3, v)]) (fun (k : Nat) (m : Nat) (v : Value) => byteLen n = byteLen m + k ∧ m = n / 256 ^ k) (fun (k : Nat) (m : Nat) (v : Value) => [Res.vec 5 1 v (le n k).length ((le n k).map vb)]) (fun (k : Nat) (m : Nat) (v : Value) => byteLen m) (fun w' hw => ⟨0, n, .slice none 0 0, ⟨rfl, rfl, trivial⟩, by simp, own_nil hw 5 1⟩) (fun k m v g hΦ => ?_)
  refine c_seq (c_reg (l_mv rfl (l_gtr rfl rfl rfl (l_end (c_dec rfl (fun c1 => ?_) (fun c1 => ?_))))))
  ·
   have hst := byteLen_step (m := m) (by omega)
   have hle : m ≤ n := by rw [hΦ.2]; exact Nat.div_le_self _ _
   have hll := le_length n k
   refine c_skipC (c_block (c_reg (l_mv rfl (l_mv rfl (l_rem (c := ((m % 256 : Nat) : Int)) rfl rfl (by omega) rfl rfl (l_cvt (by kernel_rfl) rfl (wu8' (by omega)) rfl ?_ (by kernel_rfl)))))))
   refine l_bsl (e := 5) (sz := 1) (vs := [.int .u8 (m % 256 : Nat)]) (by kernel_rfl) rfl rfl (by simp [Value.cells]) (by decide) rfl (fun b12 => ?_)
   refine l_own [Res.vec 5 1 v (le n k).length ((le n k).map vb), Res.vec 5 1 (.slice (some ⟨b12, 0, none⟩) 1 1) ([UInt8.ofNat (m % 256)] : List UInt8).length (([UInt8.ofNat (m % 256)] : List UInt8).map vb)] (fun w' hw => by rw [byte_vec (by omega)]; exact hw) ?_
   refine l_appM (l := (le n k)) (l' := ([UInt8.ofNat (m % 256)] : List UInt8)) 0 (by kernel_rfl) rfl rfl rfl (fun w' hw' => Vec.sl (Own.holds hw' 1 _ rfl)) (by show (le n k).length + 1 ≤ _; omega) rfl (fun v13 => l_as rfl (l_end (c_last (l_mv rfl (l_quo (c := ((m / 256 : Nat) : Int)) rfl rfl (by omega) (wu64 (a := ((m / 256 : Nat) : Int)) (by omega)) rfl (l_as rfl ?_))))))
   exact l_nil (fun w' hw => ⟨k + 1, m / 256, v13, ⟨rfl, rfl, trivial⟩, ⟨by omega, by rw [hΦ.2, Nat.pow_succ, Nat.div_div_eq_div_mul]⟩, by have h := hw.one 0 rfl; rw [show UInt8.ofNat (m % 256) = UInt8.ofNat (n / 256 ^ k) from UInt8.toNat_inj.1 (by rw [← hΦ.2]; simp)] at h; exact h, (by omega)⟩)
  ·
   have hm : m = 0 := by omega
   have hkk : k = byteLen n := by have := hΦ.1; rw [hm, byteLen_zero] at this; omega
   have hll := le_length n k
   refine c_exitC rfl (c_reg (l_mv rfl (l_lenP (pV 0 rfl) rfl (by kernel_rfl) rfl (l_cvt (by kernel_rfl) rfl (wu8' (by rw [hll]; omega)) rfl ?_ (by kernel_rfl)))))
   refine l_bsl (e := 5) (sz := 1) (vs := [.int .u8 ((le n k).length : Nat)]) (by kernel_rfl) rfl rfl (by simp [Value.cells]) (by decide) rfl (fun b19 => ?_)
   refine l_own [Res.vec 5 1 v (le n k).length ((le n k).map vb), Res.vec 5 1 (.slice (some ⟨b19, 0, none⟩) 1 1) ([UInt8.ofNat ((le n k).length)] : List UInt8).length (([UInt8.ofNat ((le n k).length)] : List UInt8).map vb)] (fun w' hw => by rw [byte_vec (by omega)]; exact hw) ?_
   refine l_as rfl (l_end (c_seq (c_reg (l_mv rfl (l_lenP (pV 0 rfl) rfl (by kernel_rfl) rfl (l_sub rfl rfl (wi64 (by omega)) rfl (l_as rfl (l_end (c_block ?_)))))))))
   refine c_loop2 (fun (j : Nat) (o : Value) => [(3, v), (4, o), (5, .int .i64 ((j : Int) - 1))]) (fun (j : Nat) (o : Value) => j ≤ (le n k).length) (fun (j : Nat) (o : Value) => [Res.vec 5 1 v (le n k).length ((le n k).map vb), Res.vec 5 1 o (UInt8.ofNat (le n k).length :: ((le n k).drop j).reverse).length ((UInt8.ofNat (le n k).length :: ((le n k).drop j).reverse).map vb)]) (fun (j : Nat) (o : Value) => j) (fun w' hw => ⟨(le n k).length, (.slice (some ⟨b19, 0, none⟩) 1 1), ⟨rfl, rfl, rfl, trivial⟩, Nat.le_refl _, by rw [List.drop_length]; exact hw⟩) (fun j o g hΦ => ?_)
   refine c_seq (c_reg (l_mv rfl (l_geq rfl rfl rfl (l_end (c_dec rfl (fun c2 => ?_) (fun c2 => ?_))))))
   ·
    refine c_skipC (c_seq (c_block (c_last (l_mv rfl (l_mv rfl (l_mv rfl (l_idxP (pV 0 rfl) 1 (j - 1) rfl rfl (by kernel_rfl) (by omega) (by omega) rfl (l_ldBP (pV 0 rfl) (j - 1) rfl (by omega) (by omega) (by kernel_rfl) rfl (l_bsl (e := 5) (sz := 1) (vs := [.int .u8 ((nth (le n k) (j - 1)).toNat : Nat)]) (by kernel_rfl) rfl rfl (by simp [Value.cells]) (by decide) rfl (fun b32 => l_appM (l := (UInt8.ofNat (le n k).length :: ((le n k).drop j).reverse)) (l' := ([(nth (le n k) (j - 1))] : List UInt8)) 1 (by kernel_rfl) rfl rfl rfl (fun w' hw' => Vec.sl (Own.holds hw' 2 _ rfl)) (by show (UInt8.ofNat (le n k).length :: ((le n k).drop j).reverse).length + 1 ≤ _; simp [hll]; omega) rfl (fun v33 => l_as rfl (l_end ?_))))))))))))
    refine c_last (l_mv rfl (l_sub rfl rfl (wi64 (by omega)) rfl (l_as rfl ?_)))
    exact l_nil (fun w' hw => ⟨j - 1, v33, ⟨rfl, rfl, congrArg (Value.int .i64) (by omega), trivial⟩, (by omega), by have h := hw.sel [0, 1] rfl (by decide); rw [drop_nth (l := le n k) (k := j - 1) (by omega), show j - 1 + 1 = j by omega]; simpa using h, (by omega)⟩)
   ·
    refine c_exitC rfl (c_reg (l_mv rfl (l_as rfl (l_end ?_))))
    exact c_ret (ret1 (v := o) rfl rfl (fun w' hw => ⟨o, rfl, rev_end (by omega) (by omega) hkk (hw.one 1 rfl)⟩))

theorem rputBytes_s (v : Value) (d : List UInt8) (w : World) (hl : LenOk d.length) (hd : Rd w [] (Res.sl v d.length (d.map vb))) : Rets Tryz.prog 76 #[v] w fun u_ w' => ∃ (r : Value), u_ = r ∧ Own w [] [Res.vec 5 1 r (dat d).length ((dat d).map vb)] w' := by
  have hnl := num_le (n := d.length) (by have : d.length ≤ 1000000000000 := hl; omega)
  refine fn_enter (args := [v]) Tryz.func76 rfl Tryz.ntmps76 rfl (Own.start w) ?_
  refine c_reg (l_as rfl (l_end (c_reg (l_mv rfl (l_lenP (pR hd) rfl (by kernel_rfl) rfl (l_cvt (by kernel_rfl) rfl (wu64 (by omega)) rfl ?_ (by kernel_rfl)))))))
  refine l_call (by kernel_rfl) rfl rfl (fun w' hw => (rputNum_s d.length w' (by first | assumption | omega | (simp <;> omega) | (constructor <;> (first | omega | (simp only [LenOk]; omega) | (simp <;> omega))))).mono ?_)
  rintro v1_ w1 ⟨_, rfl, hO⟩
  refine (?_ : CL _ _ _ _ _ _ (Own w [] [Res.vec 5 1 v1_ (num d.length).length ((num d.length).map vb)])) w1 (hw.frame0 hO)
  refine l_mv rfl (l_appM (l := (num d.length)) (l' := d) 0 (by kernel_rfl) rfl rfl rfl (fun w' hw' => Own.rd hd hw') (by first | omega | (simp; omega)) rfl (fun v8 => l_as rfl (l_end ?_)))
  exact c_ret (ret1 (v := v8) rfl rfl (fun w' hw => ⟨v8, rfl, hw⟩))
theorem rNum_s {S : List Nat} (o : Nat) (v : Value) (bs : List UInt8) (n : Nat) (w : World) (hn : n < 18446744073709551616) (hb : bs.length + (num n).length ≤ 100000000000) (hin : Own w S [Res.row o 81 [v], Res.vec 5 1 v bs.length (bs.map vb)] w) : Rets Tryz.prog 31 #[.pointer (some ⟨o, 0, none⟩), .int .u64 (n : Nat)] w fun u_ w' => ∃ (v' : Value), u_ = .tuple #[] ∧ Own w S [Res.row o 81 [v'], Res.vec 5 1 v' (bs ++ num n).length ((bs ++ num n).map vb)] w' := by
  refine fn_enter (args := [.pointer (some ⟨o, 0, none⟩), .int .u64 (n : Nat)]) Tryz.func31 rfl Tryz.ntmps31 rfl (show Own w S [Res.row o 81 [v], Res.vec 5 1 v bs.length (bs.map vb)] w from hin) ?_
  refine c_heldo [] rfl (by decide) (by kernel_rfl) (fun w' hw hS => h_tk 0 rfl (by kernel_rfl) (v_mv) hS (h_tk 1 rfl (by kernel_rfl) (v_mv) hS (h_tk 2 rfl (by kernel_rfl) (v_nck rfl) hS (h_tk 3 rfl (by kernel_rfl) (v_fld (o := 0) rfl (by kernel_rfl)) hS (h_tk 5 rfl (by kernel_rfl) (v_mv) hS (h_pick2 (i := 4) (j := 6) (by kernel_rfl) ?_ ?_))))))
  ·
   refine pk_of 4 rfl hw (l_ldo 0 (v := v) rfl rfl rfl (by kernel_rfl) rfl (l_nilH [] rfl (by decide) (fun w' hw hS => h_one 6 (by kernel_rfl) rfl hw (l_call (by kernel_rfl) rfl rfl (fun w' hw => (rputNum_s n w' (by first | assumption | omega | (simp <;> omega) | (constructor <;> (first | omega | (simp only [LenOk]; omega) | (simp <;> omega))))).mono ?_)))))
   rintro v1_ w1 ⟨_, rfl, hO⟩
   refine (?_ : CL _ _ _ _ _ _ (Own w S [Res.row o 81 [v], Res.vec 5 1 v bs.length (bs.map vb), Res.vec 5 1 v1_ (num n).length ((num n).map vb)])) w1 (hw.frame0 hO)
   refine l_nilH [] rfl (by decide) (fun w' hw hS => h_one 7 (by kernel_rfl) rfl hw (l_appM (l := bs) (l' := (num n)) 1 (by kernel_rfl) rfl rfl rfl (fun w' hw' => Vec.sl (Own.holds hw' 2 _ rfl)) (by first | omega | (simp; omega)) rfl (fun v11 => l_nilH [] rfl (by decide) (fun w' hw hS => h_tk 8 rfl (by kernel_rfl) (v_nck rfl) hS (h_tk 9 rfl (by kernel_rfl) (v_fld (o := 0) rfl (by kernel_rfl)) hS (h_one 10 (by kernel_rfl) rfl hw ?_))))))
   refine l_haveO (fun w' hw => Own.cell1Vec (i := 1) rfl hw) (fun hc2_ => ?_)
   refine l_st (cs := [v]) 0 rfl rfl rfl (by kernel_rfl) hc2_ (Nat.le_of_ble_eq_true rfl) (l_nilH [] rfl (by decide) (fun w' hw hS => h_done (by kernel_rfl) ?_))
   exact (ret0 rfl (fun w' hw => ⟨v11, rfl, hw.sel [0, 1] rfl (by decide)⟩)) _ hw
  ·
   refine pk_of 6 rfl hw (l_call (by kernel_rfl) rfl rfl (fun w' hw => (rputNum_s n w' (by first | assumption | omega | (simp <;> omega) | (constructor <;> (first | omega | (simp only [LenOk]; omega) | (simp <;> omega))))).mono ?_))
   rintro v2_ w1 ⟨_, rfl, hO⟩
   refine (?_ : CL _ _ _ _ _ _ (Own w S [Res.row o 81 [v], Res.vec 5 1 v bs.length (bs.map vb), Res.vec 5 1 v2_ (num n).length ((num n).map vb)])) w1 (hw.frame0 hO)
   refine l_nilH [] rfl (by decide) (fun w' hw hS => h_one 4 (by kernel_rfl) rfl hw (l_ldo 0 (v := v) rfl rfl rfl (by kernel_rfl) rfl (l_nilH [] rfl (by decide) (fun w' hw hS => h_one 7 (by kernel_rfl) rfl hw (l_appM (l := bs) (l' := (num n)) 1 (by kernel_rfl) rfl rfl rfl (fun w' hw' => Vec.sl (Own.holds hw' 2 _ rfl)) (by first | omega | (simp; omega)) rfl (fun v11 => l_nilH [] rfl (by decide) (fun w' hw hS => h_tk 8 rfl (by kernel_rfl) (v_nck rfl) hS (h_tk 9 rfl (by kernel_rfl) (v_fld (o := 0) rfl (by kernel_rfl)) hS (h_one 10 (by kernel_rfl) rfl hw ?_)))))))))
   refine l_haveO (fun w' hw => Own.cell1Vec (i := 1) rfl hw) (fun hc3_ => ?_)
   refine l_st (cs := [v]) 0 rfl rfl rfl (by kernel_rfl) hc3_ (Nat.le_of_ble_eq_true rfl) (l_nilH [] rfl (by decide) (fun w' hw hS => h_done (by kernel_rfl) ?_))
   exact (ret0 rfl (fun w' hw => ⟨v11, rfl, hw.sel [0, 1] rfl (by decide)⟩)) _ hw
theorem rData_s {S : List Nat} (o : Nat) (v : Value) (bs : List UInt8) (dv : Value) (d : List UInt8) (w : World) (hl : LenOk d.length) (hb : bs.length + (dat d).length ≤ 100000000000) (hin : Own w S [Res.row o 81 [v], Res.vec 5 1 v bs.length (bs.map vb)] w) (hd : Rd w S (Res.sl dv d.length (d.map vb))) : Rets Tryz.prog 54 #[.pointer (some ⟨o, 0, none⟩), dv] w fun u_ w' => ∃ (v' : Value), u_ = .tuple #[] ∧ Own w S [Res.row o 81 [v'], Res.vec 5 1 v' (bs ++ dat d).length ((bs ++ dat d).map vb)] w' := by
  refine fn_enter (args := [.pointer (some ⟨o, 0, none⟩), dv]) Tryz.func54 rfl Tryz.ntmps54 rfl (show Own w S [Res.row o 81 [v], Res.vec 5 1 v bs.length (bs.map vb)] w from hin) ?_
  refine c_heldo [] rfl (by decide) (by kernel_rfl) (fun w' hw hS => h_tk 0 rfl (by kernel_rfl) (v_mv) hS (h_tk 1 rfl (by kernel_rfl) (v_mv) hS (h_tk 2 rfl (by kernel_rfl) (v_nck rfl) hS (h_tk 3 rfl (by kernel_rfl) (v_fld (o := 0) rfl (by kernel_rfl)) hS (h_tk 5 rfl (by kernel_rfl) (v_mv) hS (h_pick2 (i := 4) (j := 6) (by kernel_rfl) ?_ ?_))))))
  ·
   refine pk_of 4 rfl hw (l_ldo 0 (v := v) rfl rfl rfl (by kernel_rfl) rfl (l_nilH [] rfl (by decide) (fun w' hw hS => h_one 6 (by kernel_rfl) rfl hw (l_call (by kernel_rfl) rfl rfl (fun w' hw => (rputBytes_s dv d w' (by first | assumption | omega | (simp <;> omega) | (constructor <;> (first | omega | (simp only [LenOk]; omega) | (simp <;> omega)))) (hw.rd0 hd)).mono ?_)))))
   rintro r1_ w1 ⟨_, rfl, hO⟩
   refine (?_ : CL _ _ _ _ _ _ (Own w S [Res.row o 81 [v], Res.vec 5 1 v bs.length (bs.map vb), Res.vec 5 1 r1_ (dat d).length ((dat d).map vb)])) w1 (hw.frame0 hO)
   refine l_nilH [] rfl (by decide) (fun w' hw hS => h_one 7 (by kernel_rfl) rfl hw (l_appM (l := bs) (l' := (dat d)) 1 (by kernel_rfl) rfl rfl rfl (fun w' hw' => Vec.sl (Own.holds hw' 2 _ rfl)) (by first | omega | (simp; omega)) rfl (fun v11 => l_nilH [] rfl (by decide) (fun w' hw hS => h_tk 8 rfl (by kernel_rfl) (v_nck rfl) hS (h_tk 9 rfl (by kernel_rfl) (v_fld (o := 0) rfl (by kernel_rfl)) hS (h_one 10 (by kernel_rfl) rfl hw ?_))))))
   refine l_haveO (fun w' hw => Own.cell1Vec (i := 1) rfl hw) (fun hc2_ => ?_)
   refine l_st (cs := [v]) 0 rfl rfl rfl (by kernel_rfl) hc2_ (Nat.le_of_ble_eq_true rfl) (l_nilH [] rfl (by decide) (fun w' hw hS => h_done (by kernel_rfl) ?_))
   exact (ret0 rfl (fun w' hw => ⟨v11, rfl, hw.sel [0, 1] rfl (by decide)⟩)) _ hw
  ·
   refine pk_of 6 rfl hw (l_call (by kernel_rfl) rfl rfl (fun w' hw => (rputBytes_s dv d w' (by first | assumption | omega | (simp <;> omega) | (constructor <;> (first | omega | (simp only [LenOk]; omega) | (simp <;> omega)))) (hw.rd0 hd)).mono ?_))
   rintro r2_ w1 ⟨_, rfl, hO⟩
   refine (?_ : CL _ _ _ _ _ _ (Own w S [Res.row o 81 [v], Res.vec 5 1 v bs.length (bs.map vb), Res.vec 5 1 r2_ (dat d).length ((dat d).map vb)])) w1 (hw.frame0 hO)
   refine l_nilH [] rfl (by decide) (fun w' hw hS => h_one 4 (by kernel_rfl) rfl hw (l_ldo 0 (v := v) rfl rfl rfl (by kernel_rfl) rfl (l_nilH [] rfl (by decide) (fun w' hw hS => h_one 7 (by kernel_rfl) rfl hw (l_appM (l := bs) (l' := (dat d)) 1 (by kernel_rfl) rfl rfl rfl (fun w' hw' => Vec.sl (Own.holds hw' 2 _ rfl)) (by first | omega | (simp; omega)) rfl (fun v11 => l_nilH [] rfl (by decide) (fun w' hw hS => h_tk 8 rfl (by kernel_rfl) (v_nck rfl) hS (h_tk 9 rfl (by kernel_rfl) (v_fld (o := 0) rfl (by kernel_rfl)) hS (h_one 10 (by kernel_rfl) rfl hw ?_)))))))))
   refine l_haveO (fun w' hw => Own.cell1Vec (i := 1) rfl hw) (fun hc3_ => ?_)
   refine l_st (cs := [v]) 0 rfl rfl rfl (by kernel_rfl) hc3_ (Nat.le_of_ble_eq_true rfl) (l_nilH [] rfl (by decide) (fun w' hw hS => h_done (by kernel_rfl) ?_))
   exact (ret0 rfl (fun w' hw => ⟨v11, rfl, hw.sel [0, 1] rfl (by decide)⟩)) _ hw
theorem rFlag_s {S : List Nat} (o : Nat) (v : Value) (bs : List UInt8) (f : Bool) (w : World) (hb : bs.length + (num (fl f)).length ≤ 100000000000) (hin : Own w S [Res.row o 81 [v], Res.vec 5 1 v bs.length (bs.map vb)] w) : Rets Tryz.prog 32 #[.pointer (some ⟨o, 0, none⟩), .bool f] w fun u_ w' => ∃ (v' : Value), u_ = .tuple #[] ∧ Own w S [Res.row o 81 [v'], Res.vec 5 1 v' (bs ++ num (fl f)).length ((bs ++ num (fl f)).map vb)] w' := by
  refine fn_enter (args := [.pointer (some ⟨o, 0, none⟩), .bool f]) Tryz.func32 rfl Tryz.ntmps32 rfl (show Own w S [Res.row o 81 [v], Res.vec 5 1 v bs.length (bs.map vb)] w from hin) ?_
  refine c_reg (l_mv rfl (l_end (c_if rfl (fun c1 => ?_) (fun c1 => ?_))))
  ·
   subst c1
   refine c_last (l_mv rfl (l_call (by kernel_rfl) rfl rfl (fun w' hw => (rNum_s o v bs 1 w' (by first | assumption | omega | (simp <;> omega) | (constructor <;> (first | omega | (simp only [LenOk]; omega) | (simp <;> omega)))) (by simpa [fl] using hb) (hw.give [0, 1] rfl (by decide))).mono ?_)))
   rintro _ w1 ⟨v'1_, rfl, hO⟩
   refine (?_ : CL _ _ _ _ _ _ (Own w S [Res.row o 81 [v'1_], Res.vec 5 1 v'1_ (bs ++ num 1).length ((bs ++ num 1).map vb)])) w1 (hw.frameL [0, 1] rfl hO)
   exact l_nil (ret0 rfl (fun w' hw => ⟨v'1_, rfl, hw⟩))
  ·
   subst c1
   refine c_last (l_mv rfl (l_call (by kernel_rfl) rfl rfl (fun w' hw => (rNum_s o v bs 0 w' (by first | assumption | omega | (simp <;> omega) | (constructor <;> (first | omega | (simp only [LenOk]; omega) | (simp <;> omega)))) (by simpa [fl] using hb) (hw.give [0, 1] rfl (by decide))).mono ?_)))
   rintro _ w1 ⟨v'2_, rfl, hO⟩
   refine (?_ : CL _ _ _ _ _ _ (Own w S [Res.row o 81 [v'2_], Res.vec 5 1 v'2_ (bs ++ num 0).length ((bs ++ num 0).map vb)])) w1 (hw.frameL [0, 1] rfl hO)
   exact l_nil (ret0 rfl (fun w' hw => ⟨v'2_, rfl, hw⟩))
theorem flatMap_take_le {α β : Type} (f : α → List β) (l : List α) (k : Nat) : ((l.take k).flatMap f).length ≤ (l.flatMap f).length := by
  have : l.flatMap f = (l.take k).flatMap f ++ (l.drop k).flatMap f := by rw [← List.flatMap_append, List.take_append_drop]
  rw [this, List.length_append]; omega
-- no function (*scupper/scupperref03.Out).ids
end Go.Proofs.YtgcmbdgimepnmaaGreat
