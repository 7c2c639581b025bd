/-
  THE WALKS OF the reference's writers: PutNum, PutBytes, Out.Num, Out.Data, Out.Flag.
-/
import Derived.Test.YtlkoekhjegaimaaOut
import Derived.Test.YtlkoekhjegaimaaFwC
set_option linter.unusedVariables false
set_option maxRecDepth 10000
namespace Go.Proofs.Ytlkoekhjegaimaa
open Go Go.Sc Go.Proofs

/-- The lowest k bytes, the lowest of them first. -/
def le (n : Nat) : Nat → List UInt8
  | 0 => []
  | k + 1 => le n k ++ [UInt8.ofNat (n / 256 ^ k)]
theorem le_length (n : Nat) : ∀ k, (le n k).length = k
  | 0 => rfl
  | k + 1 => by simp [le, le_length n k]
theorem le_rev (n : Nat) : ∀ k, (le n k).reverse = be n k
  | 0 => rfl
  | k + 1 => by
    have e : (256 : Nat) ^ k = 2 ^ (8 * k) := by rw [Nat.pow_mul]
    simp [le, be, le_rev n k, e]
theorem byteLen_zero : byteLen 0 = 0 := by simp [byteLen, bitLen]
theorem byteLen_step {m : Nat} (h : 0 < m) : byteLen m = byteLen (m / 256) + 1 := by
  by_cases h8 : 256 ≤ m
  · have := bitLen_shift (n := m) (k := 8) h8
    unfold byteLen
    rw [this]
    show (bitLen (m / 256) + 8 + 7) / 8 = (bitLen (m / 256) + 7) / 8 + 1
    omega
  · have e : m / 256 = 0 := by omega
    rw [e, byteLen_zero]
    have h1 := bitLen_pos h
    have h2 := bitLen_le_of_lt (n := m) (k := 8) (by omega)
    unfold byteLen
    omega
theorem le_get (n : Nat) : ∀ (k j : Nat), j < k → ∃ c, (le n k)[j]? = some c := fun k j h => ⟨_, List.getElem?_eq_getElem (by rw [le_length]; exact h)⟩

set_option maxHeartbeats 1000000 in
theorem rputNum_spec (n : Nat) (hn : n < 18446744073709551616) (w : World) :
    Rets Try.prog 117 #[.int .u64 n] w fun v' w' => Own w [] [bvec v' (num n)] w' := by
  have hk := byteLen_le hn
  refine fn_enter (args := [.int .u64 n]) Try.func117 rfl Try.ntmps117 rfl (Own.start w) ?_
  refine c_reg ?_
  refine l_as rfl ?_
  refine l_end ?_
  refine c_addnil T8 1 ?_
  refine c_reg ?_
  refine l_as rfl ?_
  refine l_end ?_
  refine c_seq ?_
  refine c_block ?_
  refine c_loop3 (fun (k : Nat) (m : Nat) (v : Value) => [(0, .int .u64 m), (3, v)]) (fun (k : Nat) (m : Nat) (v : Value) => byteLen n = byteLen m + k ∧ m = n / 256 ^ k) (fun (k : Nat) (m : Nat) (v : Value) => [bvec v (le n k)]) (fun (k : Nat) (m : Nat) (v : Value) => byteLen m) (fun w' hw => ⟨0, n, .slice none 0 0, ⟨rfl, rfl, trivial⟩, by simp, hw⟩) (fun k m v g hΦ => ?_)
  obtain ⟨hm1, hm2⟩ := hΦ
  refine c_seq ?_
  refine c_reg ?_
  refine l_mv rfl ?_
  refine l_gtr rfl rfl rfl ?_
  refine l_end ?_
  refine c_dec rfl (fun c1 => ?_) (fun c1 => ?_)
  ·
    have hm : 0 < m := by omega
    have hst := byteLen_step hm
    have hle : m ≤ n := by rw [hm2]; exact Nat.div_le_self _ _
    refine c_skipC ?_
    refine c_block ?_
    refine c_reg ?_
    refine l_mv rfl ?_
    refine l_mv rfl ?_
    refine l_rem (c := ((m % 256 : Nat) : Int)) rfl rfl (by omega) rfl rfl ?_
    refine l_cvt (by kernel_rfl) rfl (wu8' (by omega)) rfl ?_ (by kernel_rfl)
    refine l_bsl (e := 5) (sz := 1) (vs := [.int .u8 ((m % 256 : Nat) : Int)]) (by kernel_rfl) rfl rfl (by simp [Value.cells]) (by decide) rfl (fun b12 => ?_)
    refine l_app (e := 5) (sz := 1) (by' := 1) 0 (by kernel_rfl) rfl rfl rfl (fun w' hw => Vec.sl (hw.holds 1 _ rfl)) (by simp [Value.cells]) (by simp [Value.cells, cell1]) (by rw [le_length]; omega) (by rw [maxLen_eq, le_length]; omega) rfl (fun v13 => ?_)
    refine l_as rfl ?_
    refine l_end ?_
    refine c_last ?_
    refine l_mv rfl ?_
    refine l_quo (c := ((m / 256 : Nat) : Int)) rfl rfl (by omega) (wu64 (a := ((m / 256 : Nat) : Int)) (by omega)) rfl ?_
    refine l_as rfl ?_
    exact l_nil (fun w' hw => ⟨k + 1, m / 256, v13, ⟨rfl, rfl, trivial⟩, ⟨by omega, by rw [hm2, Nat.pow_succ, Nat.div_div_eq_div_mul]⟩, by simpa [bvec, le, Value.cells, vb_ofNat, ← hm2] using hw.one 0 rfl, by omega⟩)
  ·
    have hm : m = 0 := by omega
    have hkk : k = byteLen n := by rw [hm, byteLen_zero] at hm1; omega
    subst hkk
    refine c_exitC rfl ?_
    intro w1 hw1
    obtain ⟨a, cap, hv, hnc, hcap, ha⟩ := Sl.shape (Vec.sl (hw1.holds 0 _ rfl))
    subst hv
    refine (?_ : C _ _ _ _ _ _ _ (Own w [] [bvec (.slice a (le n (byteLen n)).length cap) (le n (byteLen n))])) w1 hw1
    refine c_reg ?_
    refine l_mv rfl ?_
    refine l_len (by kernel_rfl) rfl rfl ?_
    refine l_cvt (by kernel_rfl) rfl (wu8' (by rw [le_length]; omega)) rfl ?_ (by kernel_rfl)
    refine l_bsl (e := 5) (sz := 1) (vs := [.int .u8 ((le n (byteLen n)).length : Int)]) (by kernel_rfl) rfl rfl (by simp [Value.cells]) (by decide) rfl (fun b19 => ?_)
    refine l_as rfl ?_
    refine l_end ?_
    refine c_seq ?_
    refine c_reg ?_
    refine l_mv rfl ?_
    refine l_len (by kernel_rfl) rfl rfl ?_
    refine l_sub rfl rfl (wi64 (by omega)) rfl ?_
    refine l_as rfl ?_
    refine l_end ?_
    refine c_block ?_
    refine c_loop2 (fun (j : Nat) (o : Value) => [(3, .slice a (le n (byteLen n)).length cap), (4, o), (5, .int .i64 ((j : Int) - 1))]) (fun (j : Nat) (o : Value) => j ≤ byteLen n) (fun (j : Nat) (o : Value) => [bvec (.slice a (le n (byteLen n)).length cap) (le n (byteLen n)), bvec o (UInt8.ofNat (byteLen n) :: ((le n (byteLen n)).drop j).reverse)]) (fun (j : Nat) (o : Value) => j) (fun w' hw => ⟨byteLen n, _, ⟨rfl, rfl, by rw [le_length]; exact ⟨rfl, trivial⟩⟩, Nat.le_refl _, by have h : Own w [] [bvec (.slice a (le n (byteLen n)).length cap) (le n (byteLen n)), Res.vec T8 1 (.slice (some ⟨b19, 0, none⟩) 1 1) 1 [.int .u8 ((le n (byteLen n)).length : Int)]] w' := hw.sel [0, 1] rfl (by decide); have e : bvec (.slice (some ⟨b19, 0, none⟩) 1 1) (UInt8.ofNat (byteLen n) :: ((le n (byteLen n)).drop (byteLen n)).reverse) = Res.vec T8 1 (.slice (some ⟨b19, 0, none⟩) 1 1) 1 [.int .u8 ((le n (byteLen n)).length : Int)] := (by rw [List.drop_of_length_le (by rw [le_length]; omega)]; simp [bvec, vb_ofNat, le_length, Nat.mod_eq_of_lt (show byteLen n < 256 by omega)]); show Own w [] [_, bvec (.slice (some ⟨b19, 0, none⟩) 1 1) _] w'; rw [e]; exact h⟩) (fun j o g hΦ => ?_)
    have hj1 := hΦ
    refine c_seq ?_
    refine c_reg ?_
    refine l_mv rfl ?_
    refine l_geq rfl rfl rfl ?_
    refine l_end ?_
    refine c_dec rfl (fun c2 => ?_) (fun c2 => ?_)
    ·
      have hj : 0 < j := by omega
      obtain ⟨c, hc⟩ := le_get n (byteLen n) (j - 1) (by omega)
      obtain ⟨b, off, rfl⟩ := ha (by rw [le_length]; omega)
      refine c_skipC ?_
      refine c_seq ?_
      refine c_block ?_
      refine c_last ?_
      refine l_mv rfl ?_
      refine l_mv rfl ?_
      refine l_mv rfl ?_
      refine l_idx (sz := 1) rfl rfl (by kernel_rfl) (j := j - 1) (by omega) (by rw [le_length]; omega) rfl ?_
      refine l_ld (v := vb c) rfl (by kernel_rfl) (fun w' hw' => Sl.eltM (Vec.sl (hw'.holds 0 _ rfl)) hc) rfl ?_
      refine l_bsl (e := 5) (sz := 1) (vs := [.int .u8 (c.toNat : Int)]) (by kernel_rfl) rfl rfl (by simp [Value.cells]) (by decide) rfl (fun b32 => ?_)
      refine l_app (e := 5) (sz := 1) (by' := 1) 1 (by kernel_rfl) rfl rfl rfl (fun w' hw => Vec.sl (hw.holds 2 _ rfl)) (by simp [Value.cells, vb]) (by simp [Value.cells, cell1, vb]) (by simp [le_length]; omega) (by rw [maxLen_eq]; simp [le_length]; omega) rfl (fun v33 => ?_)
      refine l_as rfl ?_
      refine l_end ?_
      refine c_last ?_
      refine l_mv rfl ?_
      refine l_sub (c := (((j - 1 : Nat) : Int) - 1)) rfl rfl (by rw [wi64 (by omega)]; omega) rfl ?_
      refine l_as rfl ?_
      exact l_nil (fun w' hw => ⟨j - 1, v33, ⟨rfl, rfl, rfl, trivial⟩, by omega, by have h := hw.sel [0, 1] rfl (by decide); have e : (le n (byteLen n)).drop (j - 1) = c :: (le n (byteLen n)).drop j := by { rw [List.drop_eq_getElem_cons (by rw [le_length]; omega), show j - 1 + 1 = j by omega]; congr 1; rw [List.getElem?_eq_some_iff] at hc; exact hc.2 }; rw [e]; simpa [bvec, Value.cells, vb] using h, by omega⟩)
    ·
      have hj0 : j = 0 := by omega
      subst hj0
      refine c_exitC rfl ?_
      refine c_reg ?_
      refine l_mv rfl ?_
      refine l_as rfl ?_
      refine l_end ?_
      exact c_ret (ret1 rfl rfl (fun w' hw => (by have h := hw.one 1 rfl; rw [List.drop_zero, le_rev] at h; exact h)))

theorem rputBytes_spec (v : Value) (bs : List UInt8) (w : World) (hv : BSl w v bs) (hb : bs.length ≤ 100000000000) :
    Rets Try.prog 118 #[v] w fun v' w' => Own w [] [bvec v' (dat bs)] w' := by
  obtain ⟨a, cap, rfl, hnc, hcap, ha⟩ := Sl.shape hv
  refine fn_enter (args := [.slice a bs.length cap]) Try.func118 rfl Try.ntmps118 rfl (Own.start w) ?_
  refine c_reg ?_
  refine l_as rfl ?_
  refine l_end ?_
  refine c_reg ?_
  refine l_mv rfl ?_
  refine l_len (by kernel_rfl) rfl rfl ?_
  refine l_cvt (by kernel_rfl) rfl (wu64 (by omega)) rfl ?_ (by kernel_rfl)
  refine l_call (by kernel_rfl) rfl rfl (fun w' hw => ?_)
  refine (rputNum_spec bs.length (by omega) w').mono ?_
  rintro v6 w1 hO
  refine (?_ : CL _ _ _ _ _ _ (Own w [] _)) w1 (hw.frame0 hO)
  refine l_mv rfl ?_
  have hnl := num_le (n := bs.length) (by omega)
  refine l_app (e := 5) (sz := 1) (by' := 1) (news := bs.map vb) (m := bs.length) 0 (by kernel_rfl) rfl rfl rfl (fun w' hw => hw.old (Res.sl _ bs.length (bs.map vb)) hv (by simp)) (by simp) (map_vb_cell1 bs) (by omega) (by rw [maxLen_eq]; omega) rfl (fun v8 => ?_)
  refine l_as rfl ?_
  refine l_end ?_
  exact c_ret (ret1 (v := v8) rfl rfl (fun w' hw => (by have h : Own w [] [Res.vec T8 1 v8 ((num bs.length).length + bs.length) ((num bs.length).map vb ++ bs.map vb)] w' := hw; simpa [bvec, dat] using h)))

abbrev TRO : Nat := 130
/-- The reference's buffer at o, kept in the slice v. -/
def Res.rbuf (o : Nat) (v : Value) (bs : List UInt8) : Res := (Res.row o TRO [v]).both (bvec v bs)
theorem rbuf_start {o : Nat} {v : Value} {bs : List UInt8} {w : World} (h : (Res.rbuf o v bs).φ w) : Own w ([o] ++ blkOf v) [Res.row o TRO [v], bvec v bs] w := Own.splitBoth (i := 0) rfl (Own.start1 h)

/-- What a writer of the reference's does. -/
def RPut (g : FuncId) (args : List Value) (enc : List UInt8) : Prop :=
  ∀ (o : Nat) (v : Value) (bs : List UInt8) (w : World), (Res.rbuf o v bs).φ w → bs.length + enc.length ≤ 10000000000 →
    Rets Try.prog g (.pointer (some ⟨o, 0, none⟩) :: args).toArray w fun u w' => u = .tuple #[] ∧ ∃ v', Own w ([o] ++ blkOf v) [Res.rbuf o v' (bs ++ enc)] w'
theorem rnum_spec (n : Nat) (hn : n < 18446744073709551616) : RPut 68 [.int .u64 n] (num n) := by
  intro o v bs w hbuf hb
  have hnl := num_le hn
  refine fn_enter (args := [.pointer (some ⟨o, 0, none⟩), .int .u64 n]) Try.func68 rfl Try.ntmps68 rfl (rbuf_start hbuf) ?_
  refine c_held (fun _ => True) (by kernel_rfl) (fun _ _ => trivial) (fun w' hw => ?_)
  replace hw := hw.drawn
  refine h_take 0 rfl (by kernel_rfl) (by kernel_rfl) (by kernel_rfl) v_mv rfl trivial ?_
  refine h_take 1 rfl (by kernel_rfl) (by kernel_rfl) (by kernel_rfl) v_mv rfl trivial ?_
  refine h_take 2 rfl (by kernel_rfl) (by kernel_rfl) (by kernel_rfl) (v_nck rfl) rfl trivial ?_
  refine h_take 3 rfl (by kernel_rfl) (by kernel_rfl) (by kernel_rfl) (v_fld (o := 0) rfl (by kernel_rfl)) rfl trivial ?_
  refine h_take 5 rfl (by kernel_rfl) (by kernel_rfl) (by kernel_rfl) v_mv rfl trivial ?_
  refine h_pick2 (i := 4) (j := 6) (by kernel_rfl) ?_ ?_
  · refine pk_val 4 (A := Own w ([o] ++ blkOf v) _) rfl (v_ldo 0 rfl rfl rfl (by kernel_rfl)) hw rfl trivial ?_
    refine h_call 6 (by kernel_rfl) rfl (by kernel_rfl) rfl rfl ?_
    refine (rputNum_spec n hn _).mono ?_
    rintro v10 w1 hO
    replace hw := hw.frame0 hO
    refine ⟨trivial, ?_⟩
    refine h_app (m := (num n).length) 7 1 (by kernel_rfl) rfl slT8 rfl hw rfl rfl (Vec.sl (hw.holds 2 _ rfl)) (by simp) (map_vb_cell1 _) (by omega) (by rw [maxLen_eq]; omega) rfl (fun v11 w2 hO2 => ⟨trivial, ?_⟩)
    refine h_take 8 rfl (by kernel_rfl) (by kernel_rfl) (by kernel_rfl) (v_nck rfl) rfl trivial ?_
    refine h_take 9 rfl (by kernel_rfl) (by kernel_rfl) (by kernel_rfl) (v_fld (o := 0) rfl (by kernel_rfl)) rfl trivial ?_
    refine h_st 10 0 (by kernel_rfl) rfl rfl rfl hO2 rfl (by kernel_rfl) (Own.cell1Vec (i := 1) rfl hO2) (by simp) (fun w3 hO3 => ⟨trivial, ?_⟩)
    refine h_done (by kernel_rfl) ?_
    exact ret0 rfl (fun w' hw => ⟨rfl, v11, hw⟩) _ (Own.joinBoth (i := 0) (j := 1) (L := [Res.row o TRO [v11], bvec v11 (bs ++ num n)]) (by decide) rfl rfl (by have h : Own w ([o] ++ blkOf v) [Res.row o TRO [v11], Res.vec T8 1 v11 (bs.length + (num n).length) (bs.map vb ++ (num n).map vb)] w3 := hO3.sel [0, 1] rfl (by decide); simpa [bvec] using h))
  · refine pk_call 6 rfl (by kernel_rfl) rfl rfl ?_
    refine (rputNum_spec n hn _).mono ?_
    rintro v10 w1 hO
    replace hw := hw.frame0 hO
    refine ⟨trivial, ?_⟩
    refine h_val 4 (A := Own w ([o] ++ blkOf v) _) (by kernel_rfl) rfl (v_ldo 0 rfl rfl rfl (by kernel_rfl)) hw rfl trivial ?_
    refine h_app (m := (num n).length) 7 1 (by kernel_rfl) rfl slT8 rfl hw rfl rfl (Vec.sl (hw.holds 2 _ rfl)) (by simp) (map_vb_cell1 _) (by omega) (by rw [maxLen_eq]; omega) rfl (fun v11 w2 hO2 => ⟨trivial, ?_⟩)
    refine h_take 8 rfl (by kernel_rfl) (by kernel_rfl) (by kernel_rfl) (v_nck rfl) rfl trivial ?_
    refine h_take 9 rfl (by kernel_rfl) (by kernel_rfl) (by kernel_rfl) (v_fld (o := 0) rfl (by kernel_rfl)) rfl trivial ?_
    refine h_st 10 0 (by kernel_rfl) rfl rfl rfl hO2 rfl (by kernel_rfl) (Own.cell1Vec (i := 1) rfl hO2) (by simp) (fun w3 hO3 => ⟨trivial, ?_⟩)
    refine h_done (by kernel_rfl) ?_
    exact ret0 rfl (fun w' hw => ⟨rfl, v11, hw⟩) _ (Own.joinBoth (i := 0) (j := 1) (L := [Res.row o TRO [v11], bvec v11 (bs ++ num n)]) (by decide) rfl rfl (by have h : Own w ([o] ++ blkOf v) [Res.row o TRO [v11], Res.vec T8 1 v11 (bs.length + (num n).length) (bs.map vb ++ (num n).map vb)] w3 := hO3.sel [0, 1] rfl (by decide); simpa [bvec] using h))

theorem dat_length (d : List UInt8) (h : d.length < 18446744073709551616) : (dat d).length ≤ d.length + 9 := by
  have := num_le h
  simp [dat]; omega
/-- Out.Data. -/
theorem rdata_spec (dv : Value) (d : List UInt8) (hdl : d.length ≤ 10000000000) (o : Nat) (v : Value) (bs : List UInt8) (w : World) (hbuf : (Res.rbuf o v bs).φ w) (hb : bs.length ≤ 100000000000) (hd : BSl w dv d) :
    Rets Try.prog 69 #[.pointer (some ⟨o, 0, none⟩), dv] w fun u w' => u = .tuple #[] ∧ ∃ v', Own w ([o] ++ blkOf v) [Res.rbuf o v' (bs ++ dat d)] w' := by
  have hrow : Row w o TRO [v] := hbuf.1
  have hdat := dat_length d (by omega)
  refine fn_enter (args := [.pointer (some ⟨o, 0, none⟩), dv]) Try.func69 rfl Try.ntmps69 rfl (Own.start w) ?_
  refine c_held (fun _ => True) (by kernel_rfl) (fun _ _ => trivial) (fun w' hw => ?_)
  replace hw := hw.drawn
  refine h_take 0 rfl (by kernel_rfl) (by kernel_rfl) (by kernel_rfl) v_mv rfl trivial ?_
  refine h_take 1 rfl (by kernel_rfl) (by kernel_rfl) (by kernel_rfl) v_mv rfl trivial ?_
  refine h_take 2 rfl (by kernel_rfl) (by kernel_rfl) (by kernel_rfl) (v_nck rfl) rfl trivial ?_
  refine h_take 3 rfl (by kernel_rfl) (by kernel_rfl) (by kernel_rfl) (v_fld (o := 0) rfl (by kernel_rfl)) rfl trivial ?_
  refine h_take 5 rfl (by kernel_rfl) (by kernel_rfl) (by kernel_rfl) v_mv rfl trivial ?_
  refine h_pick2 (i := 4) (j := 6) (by kernel_rfl) ?_ ?_
  · refine pk_val 4 (A := Own w [] _) rfl (v_ldq rfl (hrow.cell rfl) (by simp) (by kernel_rfl)) hw rfl trivial ?_
    refine h_call 6 (by kernel_rfl) rfl (by kernel_rfl) rfl rfl ?_
    refine (rputBytes_spec dv d _ (hw.old (Res.sl dv d.length (d.map vb)) hd (by simp)) (by omega)).mono ?_
    rintro v10 w1 hO
    replace hw := ((hw.frame0 hO).adopt (Res.rbuf o v bs) hbuf (by simp)).splitBoth (i := 1) rfl
    refine ⟨trivial, ?_⟩
    refine h_app (m := (dat d).length) 7 2 (by kernel_rfl) rfl slT8 rfl hw rfl rfl (Vec.sl (hw.holds 0 _ rfl)) (by simp) (map_vb_cell1 _) (by omega) (by rw [maxLen_eq]; omega) rfl (fun v11 w2 hO2 => ⟨trivial, ?_⟩)
    refine h_take 8 rfl (by kernel_rfl) (by kernel_rfl) (by kernel_rfl) (v_nck rfl) rfl trivial ?_
    refine h_take 9 rfl (by kernel_rfl) (by kernel_rfl) (by kernel_rfl) (v_fld (o := 0) rfl (by kernel_rfl)) rfl trivial ?_
    refine h_st 10 1 (by kernel_rfl) rfl rfl rfl hO2 rfl (by kernel_rfl) (Own.cell1Vec (i := 2) rfl hO2) (by simp) (fun w3 hO3 => ⟨trivial, ?_⟩)
    refine h_done (by kernel_rfl) ?_
    exact ret0 rfl (fun w' hw => ⟨rfl, v11, hw⟩) _ (Own.joinBoth (i := 0) (j := 1) (L := [Res.row o TRO [v11], bvec v11 (bs ++ dat d)]) (by decide) rfl rfl (by have h : Own w ([o] ++ blkOf v) [Res.row o TRO [v11], Res.vec T8 1 v11 (bs.length + (dat d).length) (bs.map vb ++ (dat d).map vb)] w3 := hO3.sel [1, 2] rfl (by decide); simpa [bvec] using h))
  · refine pk_call 6 rfl (by kernel_rfl) rfl rfl ?_
    refine (rputBytes_spec dv d _ (hw.old (Res.sl dv d.length (d.map vb)) hd (by simp)) (by omega)).mono ?_
    rintro v10 w1 hO
    replace hw := hw.frame0 hO
    refine ⟨trivial, ?_⟩
    refine h_val 4 (A := Own w [] _) (by kernel_rfl) rfl (v_ldq rfl (hrow.cell rfl) (by simp) (by kernel_rfl)) hw rfl trivial ?_
    replace hw := (hw.adopt (Res.rbuf o v bs) hbuf (by simp)).splitBoth (i := 1) rfl
    refine h_app (m := (dat d).length) 7 2 (by kernel_rfl) rfl slT8 rfl hw rfl rfl (Vec.sl (hw.holds 0 _ rfl)) (by simp) (map_vb_cell1 _) (by omega) (by rw [maxLen_eq]; omega) rfl (fun v11 w2 hO2 => ⟨trivial, ?_⟩)
    refine h_take 8 rfl (by kernel_rfl) (by kernel_rfl) (by kernel_rfl) (v_nck rfl) rfl trivial ?_
    refine h_take 9 rfl (by kernel_rfl) (by kernel_rfl) (by kernel_rfl) (v_fld (o := 0) rfl (by kernel_rfl)) rfl trivial ?_
    refine h_st 10 1 (by kernel_rfl) rfl rfl rfl hO2 rfl (by kernel_rfl) (Own.cell1Vec (i := 2) rfl hO2) (by simp) (fun w3 hO3 => ⟨trivial, ?_⟩)
    refine h_done (by kernel_rfl) ?_
    exact ret0 rfl (fun w' hw => ⟨rfl, v11, hw⟩) _ (Own.joinBoth (i := 0) (j := 1) (L := [Res.row o TRO [v11], bvec v11 (bs ++ dat d)]) (by decide) rfl rfl (by have h : Own w ([o] ++ blkOf v) [Res.row o TRO [v11], Res.vec T8 1 v11 (bs.length + (dat d).length) (bs.map vb ++ (dat d).map vb)] w3 := hO3.sel [1, 2] rfl (by decide); simpa [bvec] using h))

theorem rflag_spec (f : Bool) : RPut 67 [.bool f] (num (fl f)) := by
  intro o v bs w hbuf hb
  refine fn_enter (args := [.pointer (some ⟨o, 0, none⟩), .bool f]) Try.func67 rfl Try.ntmps67 rfl (show Own w ([o] ++ blkOf v) [Res.rbuf o v bs] w from Own.start1 hbuf) ?_
  refine c_reg ?_
  refine l_mv rfl ?_
  refine l_end ?_
  refine c_if rfl (fun c1 => ?_) (fun c1 => ?_)
  ·
    subst c1
    refine c_last ?_
    refine l_mv rfl ?_
    refine l_call (by kernel_rfl) rfl rfl (fun w' hw => ?_)
    refine (rnum_spec 1 (by omega) o v bs w' (hw.holds 0 _ rfl) hb).mono ?_
    rintro _ w1 ⟨rfl, v2, hO⟩
    refine (?_ : CL _ _ _ _ _ _ (Own w ([o] ++ blkOf v) _)) w1 (hw.frame1 (i := 0) rfl hO)
    exact l_nil (ret0 rfl (fun w' hw => ⟨rfl, v2, hw⟩))
  ·
    subst c1
    refine c_last ?_
    refine l_mv rfl ?_
    refine l_call (by kernel_rfl) rfl rfl (fun w' hw => ?_)
    refine (rnum_spec 0 (by omega) o v bs w' (hw.holds 0 _ rfl) hb).mono ?_
    rintro _ w1 ⟨rfl, v2, hO⟩
    refine (?_ : CL _ _ _ _ _ _ (Own w ([o] ++ blkOf v) _)) w1 (hw.frame1 (i := 0) rfl hO)
    exact l_nil (ret0 rfl (fun w' hw => ⟨rfl, v2, hw⟩))

end Go.Proofs.Ytlkoekhjegaimaa
