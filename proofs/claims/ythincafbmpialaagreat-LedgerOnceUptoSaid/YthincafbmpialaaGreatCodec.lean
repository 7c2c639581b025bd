import Derived.Test.YthincafbmpialaaGreatFwB
import Derived.Test.YthincafbmpialaaGreatProg
/-
  NUMBERS AND LISTS OF BYTES AS BYTES: plain. No program in sight.
-/
set_option linter.unusedVariables false
namespace Go.Sc

/-- How many bits a number has. -/
def bitLen (n : Nat) : Nat := if n = 0 then 0 else n.log2 + 1
theorem bitLen_lt (n : Nat) : n < 2 ^ bitLen n := by
  unfold bitLen
  split
  · subst n; decide
  · exact Nat.lt_log2_self
theorem bitLen_le {n : Nat} (h : 0 < n) : 2 ^ (bitLen n - 1) ≤ n := by
  unfold bitLen
  rw [if_neg (by omega)]
  exact Nat.log2_self_le (by omega)
theorem bitLen_uniq {n L : Nat} (h0 : 0 < n) (h1 : n < 2 ^ (L + 1)) (h2 : 2 ^ L ≤ n) : bitLen n = L + 1 := by
  have a1 := bitLen_lt n
  have a2 := bitLen_le h0
  have b1 : L < bitLen n := (Nat.pow_lt_pow_iff_right (by omega)).1 (Nat.lt_of_le_of_lt h2 a1)
  have b2 : bitLen n - 1 < L + 1 := (Nat.pow_lt_pow_iff_right (by omega)).1 (Nat.lt_of_le_of_lt a2 h1)
  omega
theorem bitLen_pos {n : Nat} (h : 0 < n) : 0 < bitLen n := by unfold bitLen; rw [if_neg (by omega)]; omega
theorem bitLen_shift {n k : Nat} (h : 2 ^ k ≤ n) : bitLen n = bitLen (n / 2 ^ k) + k := by
  have hp : 0 < 2 ^ k := Nat.two_pow_pos k
  have hm : 0 < n / 2 ^ k := Nat.div_pos h hp
  have a1 := bitLen_lt (n / 2 ^ k)
  have a2 := bitLen_le hm
  have a3 := bitLen_pos hm
  have e : bitLen n = (bitLen (n / 2 ^ k) - 1 + k) + 1 := by
    refine bitLen_uniq (by omega) ?_ ?_
    · have : n < 2 ^ bitLen (n / 2 ^ k) * 2 ^ k := (Nat.div_lt_iff_lt_mul hp).1 a1
      rw [← Nat.pow_add] at this
      rw [show bitLen (n / 2 ^ k) - 1 + k + 1 = bitLen (n / 2 ^ k) + k by omega]
      exact this
    · rw [Nat.pow_add]
      exact (Nat.le_div_iff_mul_le hp).1 a2
  omega
theorem bitLen_le_of_lt {n k : Nat} (h : n < 2 ^ k) : bitLen n ≤ k := by
  by_cases h0 : n = 0
  · subst h0; simp [bitLen]
  · have := bitLen_le (Nat.pos_of_ne_zero h0)
    have := (Nat.pow_lt_pow_iff_right (a := 2) (by omega)).1 (Nat.lt_of_le_of_lt this h)
    omega

def lenTabL : List UInt8 := 0 :: 1 :: List.replicate 2 2 ++ List.replicate 4 3 ++ List.replicate 8 4 ++ List.replicate 16 5 ++ List.replicate 32 6 ++ List.replicate 64 7 ++ List.replicate 128 8
theorem lenTab_at : ∀ m : Fin 256, (lenTabL[m.val]?.map UInt8.toNat) = some (bitLen m.val) := by decide +kernel

/-- How many bytes. -/
def byteLen (n : Nat) : Nat := (bitLen n + 7) / 8
theorem byteLen_le {n : Nat} (h : n < 18446744073709551616) : byteLen n ≤ 8 := by
  have := bitLen_le_of_lt (n := n) (k := 64) h
  unfold byteLen; omega
/-- The lowest k bytes, the highest of them first. -/
def be (n : Nat) : Nat → List UInt8
  | 0 => []
  | k + 1 => UInt8.ofNat (n / 2 ^ (8 * k)) :: be n k
theorem be_length (n : Nat) : ∀ k, (be n k).length = k
  | 0 => rfl
  | k + 1 => by simp [be, be_length n k]
/-- A number's bytes. -/
def num (n : Nat) : List UInt8 := UInt8.ofNat (byteLen n) :: be n (byteLen n)
theorem num_length (n : Nat) : (num n).length = byteLen n + 1 := by simp [num, be_length]
theorem num_le {n : Nat} (h : n < 18446744073709551616) : (num n).length ≤ 9 := by rw [num_length]; have := byteLen_le h; omega
/-- A list's bytes. -/
def dat (d : List UInt8) : List UInt8 := num d.length ++ d

theorem vb_ofNat (m : Nat) : vb (UInt8.ofNat m) = .int .u8 ((m % 256 : Nat) : Int) := by simp [vb]

end Go.Sc

/-
  THE WALKS OF codec AND OF WHAT IT CALLS: bits.Len64, slices.Clone, slices.Clip, PutNum.
-/
set_option linter.unusedVariables false
set_option maxRecDepth 10000
namespace Go.Proofs.YthincafbmpialaaGreat
open Go Go.Sc Go.Proofs

theorem len64_spec (n : Nat) (hn : n < 18446744073709551616) (w : World) :
    Rets Tryz.prog 80 #[.int .u64 n] w fun v w' => v = .int .i64 (bitLen n) ∧ Own w [] [] w' := by
  refine fn_enter (args := [.int .u64 n]) Tryz.func80 rfl Tryz.ntmps80 rfl (Own.start w) ?_
  refine c_reg ?_
  refine l_as rfl ?_
  refine l_end ?_
  refine c_cutO (Nat × Nat) (fun s => [(0, .int .u64 s.1), (2, .int .i64 s.2)]) (fun s => bitLen n = bitLen s.1 + s.2 ∧ s.1 < 4294967296 ∧ s.2 ≤ 32) (fun _ => []) ?_ (fun s g ⟨h1, h2, h3⟩ => ?_)
  · refine c_reg ?_
    refine l_mv rfl ?_
    refine l_geq rfl rfl rfl ?_
    refine l_end ?_
    refine c_dec rfl (fun c1 => ?_) (fun c1 => ?_)
    · refine c_reg ?_
      refine l_mv rfl ?_
      refine l_shr (c := ((n / 4294967296 : Nat) : Int)) rfl rfl (by omega) (by show (n : Int).fdiv 4294967296 = _; rw [Int.fdiv_eq_ediv_of_nonneg _ (by omega)]; omega) rfl ?_
      refine l_as rfl ?_
      refine l_end ?_
      refine c_last ?_
      refine l_as rfl ?_
      have hb : bitLen n = bitLen (n / 4294967296) + 32 := bitLen_shift (k := 32) (by omega)
      exact l_nil (fun w hw => ⟨(n / 4294967296, 0 + 32), ⟨rfl, rfl, trivial⟩, ⟨by show bitLen n = bitLen (n / 4294967296) + (0 + 32); omega, by omega, by omega⟩, hw⟩)
    · exact c_skip (fun w hw => ⟨(n, 0), ⟨rfl, rfl, trivial⟩, ⟨by show bitLen n = bitLen n + 0; omega, by omega, by omega⟩, hw⟩)
  refine c_cutO (Nat × Nat) (fun s => [(0, .int .u64 s.1), (2, .int .i64 s.2)]) (fun s => bitLen n = bitLen s.1 + s.2 ∧ s.1 < 65536 ∧ s.2 ≤ 48) (fun _ => []) ?_ (fun s g ⟨h1, h2, h3⟩ => ?_)
  · refine c_reg ?_
    refine l_mv rfl ?_
    refine l_geq rfl rfl rfl ?_
    refine l_end ?_
    refine c_dec rfl (fun c1 => ?_) (fun c1 => ?_)
    · refine c_reg ?_
      refine l_mv rfl ?_
      refine l_shr (c := ((s.1 / 65536 : Nat) : Int)) rfl rfl (by omega) (by show (s.1 : Int).fdiv 65536 = _; rw [Int.fdiv_eq_ediv_of_nonneg _ (by omega)]; omega) rfl ?_
      refine l_as rfl ?_
      refine l_end ?_
      refine c_last ?_
      refine l_mv rfl ?_
      refine l_add (c := ((s.2 + 16 : Nat) : Int)) rfl rfl (by rw [wi64 (by omega)]; omega) rfl ?_
      refine l_as rfl ?_
      have hb : bitLen s.1 = bitLen (s.1 / 65536) + 16 := bitLen_shift (k := 16) (by omega)
      exact l_nil (fun w hw => ⟨(s.1 / 65536, s.2 + 16), ⟨rfl, rfl, trivial⟩, ⟨by show bitLen n = bitLen (s.1 / 65536) + (s.2 + 16); omega, by omega, by omega⟩, hw⟩)
    · exact c_skip (fun w hw => ⟨(s.1, s.2), ⟨rfl, rfl, trivial⟩, ⟨by show bitLen n = bitLen s.1 + s.2; omega, by omega, by omega⟩, hw⟩)
  refine c_cutO (Nat × Nat) (fun s => [(0, .int .u64 s.1), (2, .int .i64 s.2)]) (fun s => bitLen n = bitLen s.1 + s.2 ∧ s.1 < 256 ∧ s.2 ≤ 56) (fun _ => []) ?_ (fun s g ⟨h1, h2, h3⟩ => ?_)
  · refine c_reg ?_
    refine l_mv rfl ?_
    refine l_geq rfl rfl rfl ?_
    refine l_end ?_
    refine c_dec rfl (fun c1 => ?_) (fun c1 => ?_)
    · refine c_reg ?_
      refine l_mv rfl ?_
      refine l_shr (c := ((s.1 / 256 : Nat) : Int)) rfl rfl (by omega) (by show (s.1 : Int).fdiv 256 = _; rw [Int.fdiv_eq_ediv_of_nonneg _ (by omega)]; omega) rfl ?_
      refine l_as rfl ?_
      refine l_end ?_
      refine c_last ?_
      refine l_mv rfl ?_
      refine l_add (c := ((s.2 + 8 : Nat) : Int)) rfl rfl (by rw [wi64 (by omega)]; omega) rfl ?_
      refine l_as rfl ?_
      have hb : bitLen s.1 = bitLen (s.1 / 256) + 8 := bitLen_shift (k := 8) (by omega)
      exact l_nil (fun w hw => ⟨(s.1 / 256, s.2 + 8), ⟨rfl, rfl, trivial⟩, ⟨by show bitLen n = bitLen (s.1 / 256) + (s.2 + 8); omega, by omega, by omega⟩, hw⟩)
    · exact c_skip (fun w hw => ⟨(s.1, s.2), ⟨rfl, rfl, trivial⟩, ⟨by show bitLen n = bitLen s.1 + s.2; omega, by omega, by omega⟩, hw⟩)
  refine c_reg ?_
  refine l_mv rfl ?_
  refine l_mv rfl ?_
  refine l_cvt rfl rfl (wu8' (by omega)) rfl ?_ (by kernel_rfl)
  have hl : s.1 < (ByteArray.mk lenTabL.toArray).size := by rw [show (ByteArray.mk lenTabL.toArray).size = 256 by kernel_rfl]; exact h2
  refine l_sat (s := ⟨lenTabL.toArray⟩) (by kernel_rfl) (by kernel_rfl) rfl rfl hl rfl ?_
  have ht : ((ByteArray.mk lenTabL.toArray)[s.1]).toNat = bitLen s.1 := by
    have := lenTab_at ⟨s.1, h2⟩
    rw [List.getElem?_eq_getElem (show s.1 < lenTabL.length from h2)] at this
    exact Option.some.inj this
  have hle := bitLen_le_of_lt (n := s.1) (k := 8) h2
  refine l_cvt (c := (bitLen s.1 : Int)) (by kernel_rfl) rfl (by rw [ht]; exact wi64 (by omega)) rfl ?_ (by kernel_rfl)
  refine l_add (c := (bitLen n : Int)) rfl rfl (by rw [wi64 (by omega), h1]; omega) rfl ?_
  refine l_as rfl ?_
  refine l_end ?_
  exact c_ret (ret1 rfl rfl (fun w hw => ⟨rfl, hw⟩))

abbrev T8 : Nat := 5
/-- v is the list of bytes bs. -/
def BSl (w : World) (v : Value) (bs : List UInt8) : Prop := Sl w v bs.length (bs.map vb)
def bvec (v : Value) (bs : List UInt8) : Res := Res.vec T8 1 v bs.length (bs.map vb)
theorem slT8 : slT Tryz.prog 52 = some (T8, 1, 1) := by kernel_rfl

theorem clone_spec (v : Value) (bs : List UInt8) (w : World) (hv : BSl w v bs) (hb : bs.length ≤ 1099511627776) :
    Rets Tryz.prog 82 #[v] w fun v' w' => Own w [] [bvec v' bs] w' := by
  have hs := hv
  obtain ⟨a, cap, rfl, h1, h2, ha⟩ := Sl.shape hv
  cases a with
  | none =>
    have hbs : bs = [] := by
      cases bs with
      | nil => rfl
      | cons x xs => obtain ⟨b, off, e⟩ := ha (by simp); cases e
    subst hbs
    refine fn_enter (args := [.slice none 0 cap]) Tryz.func82 rfl Tryz.ntmps82 rfl (Own.start w) ?_
    refine c_reg ?_
    refine l_as rfl ?_
    refine l_end ?_
    refine c_seq ?_
    refine c_reg ?_
    refine l_mv rfl ?_
    refine l_nils (by kernel_rfl) rfl rfl rfl ?_
    refine l_end ?_
    refine c_yes rfl ?_
    refine c_reg ?_
    refine l_as rfl ?_
    refine l_end ?_
    exact c_ret (ret1 (v := .slice none 0 0) rfl rfl (fun w hw => by simpa [bvec] using own_nil hw T8 1))
  | some a =>
    refine fn_enter (args := [.slice (some a) bs.length cap]) Tryz.func82 rfl Tryz.ntmps82 rfl (Own.start w) ?_
    refine c_reg ?_
    refine l_as rfl ?_
    refine l_end ?_
    refine c_seq ?_
    refine c_reg ?_
    refine l_mv rfl ?_
    refine l_nils (by kernel_rfl) rfl rfl rfl ?_
    refine l_end ?_
    refine c_no rfl ?_
    refine c_skipC ?_
    refine c_reg ?_
    refine l_bsl (e := T8) (sz := 1) (vs := []) (by kernel_rfl) rfl rfl (by simp) (by decide) rfl (fun b5 => ?_)
    refine l_mv rfl ?_
    refine l_app (by' := 1) (news := bs.map vb) (m := bs.length) 0 slT8 rfl rfl rfl (fun w' hw => hw.old (Res.sl _ _ _) hs (by simp)) (by simp) (map_vb_cell1 bs) (by omega) (by rw [maxLen_eq]; omega) rfl (fun v7 => ?_)
    refine l_as rfl ?_
    refine l_end ?_
    exact c_ret (ret1 (v := v7) rfl rfl (fun w hw => by simpa [bvec] using hw))

theorem clip_spec (a : Option Addr) (n cap : Nat) (w : World) (hc : n ≤ cap) :
    Rets Tryz.prog 81 #[.slice a n cap] w fun v' w' => v' = .slice a n n ∧ Own w [] [] w' := by
  refine fn_enter (args := [.slice a n cap]) Tryz.func81 rfl Tryz.ntmps81 rfl (Own.start w) ?_
  refine c_reg ?_
  refine l_as rfl ?_
  refine l_end ?_
  refine c_reg ?_
  refine l_mv rfl ?_
  refine l_mv rfl ?_
  refine l_len (by kernel_rfl) rfl rfl ?_
  refine l_mv rfl ?_
  refine l_len (by kernel_rfl) rfl rfl ?_
  refine l_slc3 (sz := 1) (l := 0) (h := n) (m := n) (by kernel_rfl) rfl rfl ⟨.i64, rfl⟩ ⟨.i64, rfl⟩ (by omega) (by omega) hc rfl ?_
  refine l_as rfl ?_
  refine l_end ?_
  refine c_ret (ret1 rfl rfl (fun w hw => ⟨?_, hw⟩))
  show subA a cap 0 n n 1 = _
  cases a <;> simp [subA, Addr.add]

theorem putNum_spec (v : Value) (bs : List UInt8) (n : Nat) (hn : n < 18446744073709551616) (w : World) (hv : BSl w v bs) (hb : bs.length ≤ 1000000000000) :
    Rets Tryz.prog 46 #[v, .int .u64 n] w fun v' w' => Own w [] [bvec v' (bs ++ num n)] w' := by
  have hk := byteLen_le hn
  refine fn_enter (args := [v, .int .u64 n]) Tryz.func46 rfl Tryz.ntmps46 rfl (Own.start w) ?_
  refine c_reg ?_
  refine l_as rfl ?_
  refine l_end ?_
  -- region 1  codec.go:14
  refine c_reg ?_
  refine l_mv rfl ?_
  refine l_call (by kernel_rfl) rfl rfl (fun w' hw => ?_)
  refine (len64_spec n hn w').mono ?_
  rintro _ w1 ⟨rfl, hO⟩
  refine (?_ : CL _ _ _ _ _ _ (Own w [] [])) w1 (by simpa using hw.frame0 hO)
  have hl64 := bitLen_le_of_lt (n := n) (k := 64) hn
  refine l_add (c := ((bitLen n + 7 : Nat) : Int)) rfl rfl (by rw [wi64 (by omega)]; omega) rfl ?_
  refine l_quo (c := (byteLen n : Int)) rfl rfl (by omega) (by rw [Int.tdiv_eq_ediv_of_nonneg (by omega)]; unfold byteLen; rw [wi64 (by omega)]; omega) rfl ?_
  refine l_as rfl ?_
  refine l_end ?_
  -- region 2  codec.go:15
  refine c_cut1 (fun (v6 : Value) => [(1, .int .u64 n), (5, .int .i64 (byteLen n : Nat)), (6, v6)]) (fun _ => True) (fun v6 => [bvec v6 (bs ++ [UInt8.ofNat (byteLen n)])]) ?_ (fun v6 g _ => ?_)
  · refine c_last ?_
    refine l_mv rfl ?_
    refine l_call (by kernel_rfl) rfl rfl (fun w' hw => ?_)
    refine (clone_spec v bs w' (hw.old (Res.sl _ _ _) hv (by simp)) (by omega)).mono ?_
    intro v13 w1 hO
    have hO' := hw.frame0 hO
    rcases (hO'.holds 0 _ rfl).2 with ⟨rfl, hz⟩ | ⟨g, cap, cur, rfl, -, hg, hcap, hmax, -, -⟩
    · have hbs : bs = [] := List.eq_nil_of_length_eq_zero hz
      subst hbs
      refine (?_ : CL _ _ _ _ _ _ (Own w [] [bvec (.slice none 0 0) []])) w1 hO'
      refine l_call (by kernel_rfl) rfl rfl (fun w' hw => ?_)
      refine (clip_spec none 0 0 w' (by omega)).mono ?_
      rintro _ w2 ⟨rfl, hO⟩
      refine (?_ : CL _ _ _ _ _ _ (Own w [] [bvec (.slice none 0 0) []])) w2 (by simpa using hw.frame0 hO)
      refine l_mv rfl ?_
      refine l_cvt (by kernel_rfl) rfl (wu8' (by omega)) rfl ?_ (by kernel_rfl)
      refine l_bsl (e := T8) (sz := 1) (vs := [.int .u8 (byteLen n)]) (by kernel_rfl) rfl rfl (by simp [Value.cells]) (by decide) rfl (fun b17 => ?_)
      refine l_app (by' := 1) (m := 1) 0 slT8 rfl rfl rfl (fun w hw => Vec.sl (hw.holds 1 _ rfl)) (by simp [Value.cells]) (by simp [Value.cells, cell1]) (by simp) (by rw [maxLen_eq]; simp) rfl (fun v18 => ?_)
      refine l_as rfl ?_
      refine l_nil (fun w hw => ⟨v18, ⟨rfl, rfl, rfl, trivial⟩, trivial, ?_⟩)
      have h1 := hw.one 0 rfl
      have e : vb (UInt8.ofNat (byteLen n)) = .int .u8 (byteLen n) := by rw [vb_ofNat, Nat.mod_eq_of_lt (by omega)]
      simpa [bvec, Value.cells, e] using h1
    · refine (?_ : CL _ _ _ _ _ _ (Own w [] [bvec (.slice (some ⟨g, 0, none⟩) bs.length cap) bs])) w1 hO'
      refine l_call (by kernel_rfl) rfl rfl (fun w' hw => ?_)
      refine (clip_spec _ bs.length cap w' hcap).mono ?_
      rintro _ w2 ⟨rfl, hO⟩
      have hO2 := hw.frame0 hO
      rw [List.append_nil] at hO2
      refine (?_ : CL _ _ _ _ _ _ (Own w [] [bvec (.slice (some ⟨g, 0, none⟩) bs.length cap) bs])) w2 hO2
      refine l_mv rfl ?_
      refine l_cvt (by kernel_rfl) rfl (wu8' (by omega)) rfl ?_ (by kernel_rfl)
      refine l_bsl (e := T8) (sz := 1) (vs := [.int .u8 (byteLen n)]) (by kernel_rfl) rfl rfl (by simp [Value.cells]) (by decide) rfl (fun b17 => ?_)
      refine l_appf (by' := 1) (m := 1) (cs := bs.map vb) slT8 rfl (fun w hw => ?_) (by simp) rfl (fun w hw => Vec.sl (hw.holds 1 _ rfl)) (by simp [Value.cells]) (by omega) (by omega) (by rw [maxLen_eq]; omega) rfl (fun v18 => ?_)
      · rcases Vec.sl (hw.holds 0 _ rfl) with ⟨a1, e, e1, e2⟩ | ⟨b1, off1, cap1, e, k1, k2, k3, k4⟩
        · exact .inl ⟨_, by rw [e1], e1, e2⟩
        · simp at e
          obtain ⟨⟨rfl, rfl⟩, rfl⟩ := e
          by_cases hz : bs.length = 0
          · exact .inl ⟨_, by rw [hz], hz, by simpa using hz⟩
          · exact .inr ⟨_, _, _, rfl, ⟨Nat.le_refl _, by omega⟩, by have := k1.1; omega, k3, k4⟩
      refine l_as rfl ?_
      refine l_nil (fun w hw => ⟨v18, ⟨rfl, rfl, rfl, trivial⟩, trivial, ?_⟩)
      have h1 := hw.one 2 rfl
      have e : vb (UInt8.ofNat (byteLen n)) = .int .u8 (byteLen n) := by rw [vb_ofNat, Nat.mod_eq_of_lt (by omega)]
      simpa [bvec, Value.cells, e] using h1
  refine c_seq ?_
  -- region 3  codec.go:16
  refine c_reg ?_
  refine l_mv rfl ?_
  refine l_sub rfl rfl (wi64 (by omega)) rfl ?_
  refine l_as rfl ?_
  refine l_end ?_
  refine c_block ?_
  refine c_loop3 (fun (v6 : Value) (pre : List UInt8) (j : Nat) => [(1, .int .u64 n), (6, v6), (7, .int .i64 ((j : Int) - 1))]) (fun _ pre j => pre ++ be n j = be n (byteLen n) ∧ j ≤ byteLen n ∧ pre.length ≤ 8)
    (fun v6 pre _ => [bvec v6 (bs ++ UInt8.ofNat (byteLen n) :: pre)]) (fun _ _ j => j) (fun w hw => ⟨v6, [], byteLen n, ⟨rfl, rfl, rfl, trivial⟩, ⟨rfl, Nat.le_refl _, by simp⟩, hw⟩) (fun v6 pre j g2 hs => ?_)
  obtain ⟨h1, h2, h3⟩ := hs
  have hpl : pre.length + j = byteLen n := by have := congrArg List.length h1; simpa [be_length] using this
  refine c_seq ?_
  -- region 4  codec.go:16
  refine c_reg ?_
  refine l_mv rfl ?_
  refine l_geq rfl rfl rfl ?_
  refine l_end ?_
  refine c_dec rfl (fun c1 => ?_) (fun c1 => ?_)
  · refine c_skipC ?_
    obtain ⟨j, rfl⟩ : ∃ i, j = i + 1 := ⟨j - 1, by omega⟩
    refine c_seq ?_
    refine c_block ?_
    -- region 6  codec.go:17
    refine c_last ?_
    refine l_mv rfl ?_
    refine l_mv rfl ?_
    refine l_mv rfl ?_
    refine l_mul (c := ((8 * j : Nat) : Int)) rfl rfl (by rw [wi64 (by omega)]; omega) rfl ?_
    have hfd : (n : Int).fdiv (2 ^ (min ((8 * j : Nat) : Int).toNat IntKind.u64.bits)) = ((n / 2 ^ (8 * j) : Nat) : Int) := by
      have e1 : min ((8 * j : Nat) : Int).toNat IntKind.u64.bits = 8 * j := by simp only [IntKind.bits]; omega
      have e2 : (2 : Int) ^ (8 * j) = ((2 ^ (8 * j) : Nat) : Int) := by norm_cast
      rw [e1, e2, Int.fdiv_eq_ediv_of_nonneg _ (Int.natCast_nonneg _)]
      norm_cast
    refine l_shr rfl rfl (by omega) hfd rfl ?_
    refine l_cvt (c := ((n / 2 ^ (8 * j) % 256 : Nat) : Int)) (by kernel_rfl) rfl (by rw [wu8]; norm_cast) rfl ?_ (by kernel_rfl)
    refine l_bsl (e := T8) (sz := 1) (vs := [.int .u8 ((n / 2 ^ (8 * j) % 256 : Nat) : Int)]) (by kernel_rfl) rfl rfl (by simp [Value.cells]) (by decide) rfl (fun b31 => ?_)
    refine l_app (by' := 1) (m := 1) 0 slT8 rfl rfl rfl (fun w hw => Vec.sl (hw.holds 1 _ rfl)) (by simp [Value.cells]) (by simp [Value.cells, cell1]) (by simp; omega) (by rw [maxLen_eq]; simp; omega) rfl (fun v32 => ?_)
    refine l_as rfl ?_
    refine l_end ?_
    -- region 5  codec.go:16
    refine c_last ?_
    refine l_mv rfl ?_
    refine l_sub (c := (j : Int) - 1) rfl rfl (by rw [wi64 (by omega)]; omega) rfl ?_
    refine l_as rfl ?_
    refine l_nil (fun w hw => ⟨v32, pre ++ [UInt8.ofNat (n / 2 ^ (8 * j))], j, ⟨rfl, rfl, rfl, trivial⟩, ⟨?_, by omega, by simp; omega⟩, ?_, Nat.lt_succ_self j⟩)
    · rw [← h1]; simp [be]
    · have h4 := hw.one 0 rfl
      simpa [bvec, Value.cells, vb_ofNat, Nat.add_assoc] using h4
  · refine c_exitC rfl ?_
    have hj : j = 0 := by omega
    subst hj
    -- region 7  codec.go:19
    refine c_reg ?_
    refine l_mv rfl ?_
    refine l_as rfl ?_
    refine l_end ?_
    refine c_ret (ret1 rfl rfl (fun w hw => ?_))
    have e : pre = be n (byteLen n) := by simpa [be] using h1
    subst e
    exact hw

end Go.Proofs.YthincafbmpialaaGreat
