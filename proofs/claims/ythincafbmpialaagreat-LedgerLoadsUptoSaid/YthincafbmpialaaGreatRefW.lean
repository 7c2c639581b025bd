import Derived.Test.YthincafbmpialaaGreatFwB
import Derived.Test.YthincafbmpialaaGreatProg
import Derived.Test.YthincafbmpialaaGreatFwT
import Derived.Test.YthincafbmpialaaGreatChecked
set_option linter.unusedSectionVars false
set_option linter.unusedSimpArgs false
set_option linter.unusedVariables false
namespace Go.Sc
def zw (n : Nat) : Nat := if n = 0 then 0 else n.log2 + 1
theorem zBi (n : Nat) : n < 2 ^ zw n := by
  unfold zw
  split
  · subst n; decide
  · exact Nat.lt_log2_self
theorem zAd {n : Nat} (h : 0 < n) : 2 ^ (zw n - 1) ≤ n := by
  unfold zw
  rw [if_neg (by omega)]
  exact Nat.log2_self_le (by omega)
theorem zEQ {n L : Nat} (h0 : 0 < n) (h1 : n < 2 ^ (L + 1)) (h2 : 2 ^ L ≤ n) : zw n = L + 1 := by
  have a1 := zBi n
  have a2 := zAd h0
  have b1 : L < zw n := (Nat.pow_lt_pow_iff_right (by omega)).1 (Nat.lt_of_le_of_lt h2 a1)
  have b2 : zw n - 1 < L + 1 := (Nat.pow_lt_pow_iff_right (by omega)).1 (Nat.lt_of_le_of_lt a2 h1)
  omega
theorem zCX {n : Nat} (h : 0 < n) : 0 < zw n := by unfold zw; rw [if_neg (by omega)]; omega
theorem jk {n k : Nat} (h : 2 ^ k ≤ n) : zw n = zw (n / 2 ^ k) + k := by
  have hp : 0 < 2 ^ k := Nat.two_pow_pos k
  have hm : 0 < n / 2 ^ k := Nat.div_pos h hp
  have a1 := zBi (n / 2 ^ k)
  have a2 := zAd hm
  have a3 := zCX hm
  have e : zw n = (zw (n / 2 ^ k) - 1 + k) + 1 := by
    refine zEQ (by omega) ?_ ?_
    · have : n < 2 ^ zw (n / 2 ^ k) * 2 ^ k := (Nat.div_lt_iff_lt_mul hp).1 a1
      rw [← Nat.pow_add] at this
      rw [show zw (n / 2 ^ k) - 1 + k + 1 = zw (n / 2 ^ k) + k by omega]
      exact this
    · rw [Nat.pow_add]
      exact (Nat.le_div_iff_mul_le hp).1 a2
  omega
theorem xc {n k : Nat} (h : n < 2 ^ k) : zw n ≤ k := by
  by_cases h0 : n = 0
  · subst h0; simp [zw]
  · have := zAd (Nat.pos_of_ne_zero h0)
    have := (Nat.pow_lt_pow_iff_right (a := 2) (by omega)).1 (Nat.lt_of_le_of_lt this h)
    omega
def lenTabL : List UInt8 := 0 :: 1 :: List.replicate 2 2 ++ List.replicate 4 3 ++ List.replicate 8 4 ++ List.replicate 16 5 ++ List.replicate 32 6 ++ List.replicate 64 7 ++ List.replicate 128 8
theorem zGo : ∀ m : Fin 256, (lenTabL[m.val]?.map UInt8.toNat) = some (zw m.val) := by decide +kernel
def yf (n : Nat) : Nat := (zw n + 7) / 8
theorem zCa {n : Nat} (h : n < 18446744073709551616) : yf n ≤ 8 := by
  have := xc (n := n) (k := 64) h
  unfold yf; omega
def be (n : Nat) : Nat → List UInt8
  | 0 => []
  | k + 1 => UInt8.ofNat (n / 2 ^ (8 * k)) :: be n k
theorem zBk (n : Nat) : ∀ k, (be n k).length = k
  | 0 => rfl
  | k + 1 => by simp [be, zBk n k]
def yO (n : Nat) : List UInt8 := UInt8.ofNat (yf n) :: be n (yf n)
theorem zFf (n : Nat) : (yO n).length = yf n + 1 := by simp [yO, zBk]
theorem xL {n : Nat} (h : n < 18446744073709551616) : (yO n).length ≤ 9 := by rw [zFf]; have := zCa h; omega
def dat (d : List UInt8) : List UInt8 := yO d.length ++ d
theorem zCJ (m : Nat) : vb (UInt8.ofNat m) = .int .u8 ((m % 256 : Nat) : Int) := by simp [vb]
end Go.Sc
set_option linter.unusedVariables false
set_option maxRecDepth 10000
namespace Go.Proofs.YthincafbmpialaaGreat
open Go Go.Sc Go.Proofs
theorem zCd (n : Nat) (hn : n < 18446744073709551616) (w : World) :
    Rets Tryz.prog 80 #[.int .u64 n] w fun v w' => v = .int .i64 (zw n) ∧ Own w [] [] w' := by
  refine xf (args := [.int .u64 n]) Tryz.func80 rfl Tryz.ntmps80 rfl (Own.start w) ?_
  refine zB ?_
  refine zD rfl ?_
  refine zA ?_
  refine zAr (Nat × Nat) (fun s => [(0, .int .u64 s.1), (2, .int .i64 s.2)]) (fun s => zw n = zw s.1 + s.2 ∧ s.1 < 4294967296 ∧ s.2 ≤ 32) (fun _ => []) ?_ (fun s g ⟨h1, h2, h3⟩ => ?_)
  · refine zB ?_
    refine zC rfl ?_
    refine xC rfl rfl rfl ?_
    refine zA ?_
    refine zU rfl (fun c1 => ?_) (fun c1 => ?_)
    · refine zB ?_
      refine zC rfl ?_
      refine zGa (c := ((n / 4294967296 : Nat) : Int)) rfl rfl (by omega) (by show (n : Int).fdiv 4294967296 = _; rw [Int.fdiv_eq_ediv_of_nonneg _ (by omega)]; omega) rfl ?_
      refine zD rfl ?_
      refine zA ?_
      refine zd ?_
      refine zD rfl ?_
      have hb : zw n = zw (n / 4294967296) + 32 := jk (k := 32) (by omega)
      exact zj (fun w hw => ⟨(n / 4294967296, 0 + 32), ⟨rfl, rfl, trivial⟩, ⟨by show zw n = zw (n / 4294967296) + (0 + 32); omega, by omega, by omega⟩, hw⟩)
    · exact xj (fun w hw => ⟨(n, 0), ⟨rfl, rfl, trivial⟩, ⟨by show zw n = zw n + 0; omega, by omega, by omega⟩, hw⟩)
  refine zAr (Nat × Nat) (fun s => [(0, .int .u64 s.1), (2, .int .i64 s.2)]) (fun s => zw n = zw s.1 + s.2 ∧ s.1 < 65536 ∧ s.2 ≤ 48) (fun _ => []) ?_ (fun s g ⟨h1, h2, h3⟩ => ?_)
  · refine zB ?_
    refine zC rfl ?_
    refine xC rfl rfl rfl ?_
    refine zA ?_
    refine zU rfl (fun c1 => ?_) (fun c1 => ?_)
    · refine zB ?_
      refine zC rfl ?_
      refine zGa (c := ((s.1 / 65536 : Nat) : Int)) rfl rfl (by omega) (by show (s.1 : Int).fdiv 65536 = _; rw [Int.fdiv_eq_ediv_of_nonneg _ (by omega)]; omega) rfl ?_
      refine zD rfl ?_
      refine zA ?_
      refine zd ?_
      refine zC rfl ?_
      refine zt (c := ((s.2 + 16 : Nat) : Int)) rfl rfl (by rw [zr (by omega)]; omega) rfl ?_
      refine zD rfl ?_
      have hb : zw s.1 = zw (s.1 / 65536) + 16 := jk (k := 16) (by omega)
      exact zj (fun w hw => ⟨(s.1 / 65536, s.2 + 16), ⟨rfl, rfl, trivial⟩, ⟨by show zw n = zw (s.1 / 65536) + (s.2 + 16); omega, by omega, by omega⟩, hw⟩)
    · exact xj (fun w hw => ⟨(s.1, s.2), ⟨rfl, rfl, trivial⟩, ⟨by show zw n = zw s.1 + s.2; omega, by omega, by omega⟩, hw⟩)
  refine zAr (Nat × Nat) (fun s => [(0, .int .u64 s.1), (2, .int .i64 s.2)]) (fun s => zw n = zw s.1 + s.2 ∧ s.1 < 256 ∧ s.2 ≤ 56) (fun _ => []) ?_ (fun s g ⟨h1, h2, h3⟩ => ?_)
  · refine zB ?_
    refine zC rfl ?_
    refine xC rfl rfl rfl ?_
    refine zA ?_
    refine zU rfl (fun c1 => ?_) (fun c1 => ?_)
    · refine zB ?_
      refine zC rfl ?_
      refine zGa (c := ((s.1 / 256 : Nat) : Int)) rfl rfl (by omega) (by show (s.1 : Int).fdiv 256 = _; rw [Int.fdiv_eq_ediv_of_nonneg _ (by omega)]; omega) rfl ?_
      refine zD rfl ?_
      refine zA ?_
      refine zd ?_
      refine zC rfl ?_
      refine zt (c := ((s.2 + 8 : Nat) : Int)) rfl rfl (by rw [zr (by omega)]; omega) rfl ?_
      refine zD rfl ?_
      have hb : zw s.1 = zw (s.1 / 256) + 8 := jk (k := 8) (by omega)
      exact zj (fun w hw => ⟨(s.1 / 256, s.2 + 8), ⟨rfl, rfl, trivial⟩, ⟨by show zw n = zw (s.1 / 256) + (s.2 + 8); omega, by omega, by omega⟩, hw⟩)
    · exact xj (fun w hw => ⟨(s.1, s.2), ⟨rfl, rfl, trivial⟩, ⟨by show zw n = zw s.1 + s.2; omega, by omega, by omega⟩, hw⟩)
  refine zB ?_
  refine zC rfl ?_
  refine zC rfl ?_
  refine yw rfl rfl (zLd (by omega)) rfl ?_ (by kernel_rfl)
  have hl : s.1 < (ByteArray.mk lenTabL.toArray).size := by rw [show (ByteArray.mk lenTabL.toArray).size = 256 by kernel_rfl]; exact h2
  refine zMn (s := ⟨lenTabL.toArray⟩) (by kernel_rfl) (by kernel_rfl) rfl rfl hl rfl ?_
  have ht : ((ByteArray.mk lenTabL.toArray)[s.1]).toNat = zw s.1 := by
    have := zGo ⟨s.1, h2⟩
    rw [List.getElem?_eq_getElem (show s.1 < lenTabL.length from h2)] at this
    exact Option.some.inj this
  have hle := xc (n := s.1) (k := 8) h2
  refine yw (c := (zw s.1 : Int)) (by kernel_rfl) rfl (by rw [ht]; exact zr (by omega)) rfl ?_ (by kernel_rfl)
  refine zt (c := (zw n : Int)) rfl rfl (by rw [zr (by omega), h1]; omega) rfl ?_
  refine zD rfl ?_
  refine zA ?_
  exact zM (z6 rfl rfl (fun w hw => ⟨rfl, hw⟩))
abbrev T8 : Nat := 5
def BSl (w : World) (v : Value) (bs : List UInt8) : Prop := Sl w v bs.length (bs.map vb)
def zBe (v : Value) (bs : List UInt8) : Res := Res.vec T8 1 v bs.length (bs.map vb)
theorem zJe : slT Tryz.prog 52 = some (T8, 1, 1) := by kernel_rfl
theorem zFs (v : Value) (bs : List UInt8) (w : World) (hv : BSl w v bs) (hb : bs.length ≤ 1099511627776) :
    Rets Tryz.prog 82 #[v] w fun v' w' => Own w [] [zBe v' bs] w' := by
  have hs := hv
  obtain ⟨a, cap, rfl, h1, h2, ha⟩ := Sl.shape hv
  cases a with
  | none =>
    have hbs : bs = [] := by
      cases bs with
      | nil => rfl
      | cons x xs => obtain ⟨b, off, e⟩ := ha (by simp); cases e
    subst hbs
    refine xf (args := [.slice none 0 cap]) Tryz.func82 rfl Tryz.ntmps82 rfl (Own.start w) ?_
    refine zB ?_
    refine zD rfl ?_
    refine zA ?_
    refine zL ?_
    refine zB ?_
    refine zC rfl ?_
    refine zHt (by kernel_rfl) rfl rfl rfl ?_
    refine zA ?_
    refine jz rfl ?_
    refine zB ?_
    refine zD rfl ?_
    refine zA ?_
    exact zM (z6 (v := .slice none 0 0) rfl rfl (fun w hw => by simpa [zBe] using yK hw T8 1))
  | some a =>
    refine xf (args := [.slice (some a) bs.length cap]) Tryz.func82 rfl Tryz.ntmps82 rfl (Own.start w) ?_
    refine zB ?_
    refine zD rfl ?_
    refine zA ?_
    refine zL ?_
    refine zB ?_
    refine zC rfl ?_
    refine zHt (by kernel_rfl) rfl rfl rfl ?_
    refine zA ?_
    refine xQ rfl ?_
    refine zK ?_
    refine zB ?_
    refine yj (e := T8) (sz := 1) (vs := []) (by kernel_rfl) rfl rfl (by simp) (by decide) rfl (fun b5 => ?_)
    refine zC rfl ?_
    refine zEV (by' := 1) (news := bs.map vb) (m := bs.length) 0 zJe rfl rfl rfl (fun w' hw => hw.old (Res.sl _ _ _) hs (by simp)) (by simp) (zBU bs) (by omega) (by rw [xH]; omega) rfl (fun v7 => ?_)
    refine zD rfl ?_
    refine zA ?_
    exact zM (z6 (v := v7) rfl rfl (fun w hw => by simpa [zBe] using hw))
theorem zDC (a : Option Addr) (n cap : Nat) (w : World) (hc : n ≤ cap) :
    Rets Tryz.prog 81 #[.slice a n cap] w fun v' w' => v' = .slice a n n ∧ Own w [] [] w' := by
  refine xf (args := [.slice a n cap]) Tryz.func81 rfl Tryz.ntmps81 rfl (Own.start w) ?_
  refine zB ?_
  refine zD rfl ?_
  refine zA ?_
  refine zB ?_
  refine zC rfl ?_
  refine zC rfl ?_
  refine zKw (by kernel_rfl) rfl rfl ?_
  refine zC rfl ?_
  refine zKw (by kernel_rfl) rfl rfl ?_
  refine zL2 (sz := 1) (l := 0) (h := n) (m := n) (by kernel_rfl) rfl rfl ⟨.i64, rfl⟩ ⟨.i64, rfl⟩ (by omega) (by omega) hc rfl ?_
  refine zD rfl ?_
  refine zA ?_
  refine zM (z6 rfl rfl (fun w hw => ⟨?_, hw⟩))
  show zAu a cap 0 n n 1 = _
  cases a <;> simp [zAu, Addr.add]
theorem zE2 (v : Value) (bs : List UInt8) (n : Nat) (hn : n < 18446744073709551616) (w : World) (hv : BSl w v bs) (hb : bs.length ≤ 1000000000000) :
    Rets Tryz.prog 46 #[v, .int .u64 n] w fun v' w' => Own w [] [zBe v' (bs ++ yO n)] w' := by
  have hk := zCa hn
  refine xf (args := [v, .int .u64 n]) Tryz.func46 rfl Tryz.ntmps46 rfl (Own.start w) ?_
  refine zB ?_
  refine zD rfl ?_
  refine zA ?_
  -- region 1  codec.go:14
  refine zB ?_
  refine zC rfl ?_
  refine zAt (by kernel_rfl) rfl rfl (fun w' hw => ?_)
  refine (zCd n hn w').mono ?_
  rintro _ w1 ⟨rfl, hO⟩
  refine (?_ : CL _ _ _ _ _ _ (Own w [] [])) w1 (by simpa using hw.frame0 hO)
  have hl64 := xc (n := n) (k := 64) hn
  refine zt (c := ((zw n + 7 : Nat) : Int)) rfl rfl (by rw [zr (by omega)]; omega) rfl ?_
  refine zBV (c := (yf n : Int)) rfl rfl (by omega) (by rw [Int.tdiv_eq_ediv_of_nonneg (by omega)]; unfold yf; rw [zr (by omega)]; omega) rfl ?_
  refine zD rfl ?_
  refine zA ?_
  -- region 2  codec.go:15
  refine xB (fun (v6 : Value) => [(1, .int .u64 n), (5, .int .i64 (yf n : Nat)), (6, v6)]) (fun _ => True) (fun v6 => [zBe v6 (bs ++ [UInt8.ofNat (yf n)])]) ?_ (fun v6 g _ => ?_)
  · refine zd ?_
    refine zC rfl ?_
    refine zAt (by kernel_rfl) rfl rfl (fun w' hw => ?_)
    refine (zFs v bs w' (hw.old (Res.sl _ _ _) hv (by simp)) (by omega)).mono ?_
    intro v13 w1 hO
    have hO' := hw.frame0 hO
    rcases (hO'.holds 0 _ rfl).2 with ⟨rfl, hz⟩ | ⟨g, cap, cur, rfl, -, hg, hcap, hmax, -, -⟩
    · have hbs : bs = [] := List.eq_nil_of_length_eq_zero hz
      subst hbs
      refine (?_ : CL _ _ _ _ _ _ (Own w [] [zBe (.slice none 0 0) []])) w1 hO'
      refine zAt (by kernel_rfl) rfl rfl (fun w' hw => ?_)
      refine (zDC none 0 0 w' (by omega)).mono ?_
      rintro _ w2 ⟨rfl, hO⟩
      refine (?_ : CL _ _ _ _ _ _ (Own w [] [zBe (.slice none 0 0) []])) w2 (by simpa using hw.frame0 hO)
      refine zC rfl ?_
      refine yw (by kernel_rfl) rfl (zLd (by omega)) rfl ?_ (by kernel_rfl)
      refine yj (e := T8) (sz := 1) (vs := [.int .u8 (yf n)]) (by kernel_rfl) rfl rfl (by simp [Value.cells]) (by decide) rfl (fun b17 => ?_)
      refine zEV (by' := 1) (m := 1) 0 zJe rfl rfl rfl (fun w hw => Vec.sl (hw.holds 1 _ rfl)) (by simp [Value.cells]) (by simp [Value.cells, cell1]) (by simp) (by rw [xH]; simp) rfl (fun v18 => ?_)
      refine zD rfl ?_
      refine zj (fun w hw => ⟨v18, ⟨rfl, rfl, rfl, trivial⟩, trivial, ?_⟩)
      have h1 := hw.one 0 rfl
      have e : vb (UInt8.ofNat (yf n)) = .int .u8 (yf n) := by rw [zCJ, Nat.mod_eq_of_lt (by omega)]
      simpa [zBe, Value.cells, e] using h1
    · refine (?_ : CL _ _ _ _ _ _ (Own w [] [zBe (.slice (some ⟨g, 0, none⟩) bs.length cap) bs])) w1 hO'
      refine zAt (by kernel_rfl) rfl rfl (fun w' hw => ?_)
      refine (zDC _ bs.length cap w' hcap).mono ?_
      rintro _ w2 ⟨rfl, hO⟩
      have hO2 := hw.frame0 hO
      rw [List.append_nil] at hO2
      refine (?_ : CL _ _ _ _ _ _ (Own w [] [zBe (.slice (some ⟨g, 0, none⟩) bs.length cap) bs])) w2 hO2
      refine zC rfl ?_
      refine yw (by kernel_rfl) rfl (zLd (by omega)) rfl ?_ (by kernel_rfl)
      refine yj (e := T8) (sz := 1) (vs := [.int .u8 (yf n)]) (by kernel_rfl) rfl rfl (by simp [Value.cells]) (by decide) rfl (fun b17 => ?_)
      refine zMU (by' := 1) (m := 1) (cs := bs.map vb) zJe rfl (fun w hw => ?_) (by simp) rfl (fun w hw => Vec.sl (hw.holds 1 _ rfl)) (by simp [Value.cells]) (by omega) (by omega) (by rw [xH]; omega) rfl (fun v18 => ?_)
      · rcases Vec.sl (hw.holds 0 _ rfl) with ⟨a1, e, e1, e2⟩ | ⟨b1, off1, cap1, e, k1, k2, k3, k4⟩
        · exact .inl ⟨_, by rw [e1], e1, e2⟩
        · simp at e
          obtain ⟨⟨rfl, rfl⟩, rfl⟩ := e
          by_cases hz : bs.length = 0
          · exact .inl ⟨_, by rw [hz], hz, by simpa using hz⟩
          · exact .inr ⟨_, _, _, rfl, ⟨Nat.le_refl _, by omega⟩, by have := k1.1; omega, k3, k4⟩
      refine zD rfl ?_
      refine zj (fun w hw => ⟨v18, ⟨rfl, rfl, rfl, trivial⟩, trivial, ?_⟩)
      have h1 := hw.one 2 rfl
      have e : vb (UInt8.ofNat (yf n)) = .int .u8 (yf n) := by rw [zCJ, Nat.mod_eq_of_lt (by omega)]
      simpa [zBe, Value.cells, e] using h1
  refine zL ?_
  -- region 3  codec.go:16
  refine zB ?_
  refine zC rfl ?_
  refine yX rfl rfl (zr (by omega)) rfl ?_
  refine zD rfl ?_
  refine zA ?_
  refine zT ?_
  refine xS (fun (v6 : Value) (pre : List UInt8) (j : Nat) => [(1, .int .u64 n), (6, v6), (7, .int .i64 ((j : Int) - 1))]) (fun _ pre j => pre ++ be n j = be n (yf n) ∧ j ≤ yf n ∧ pre.length ≤ 8)
    (fun v6 pre _ => [zBe v6 (bs ++ UInt8.ofNat (yf n) :: pre)]) (fun _ _ j => j) (fun w hw => ⟨v6, [], yf n, ⟨rfl, rfl, rfl, trivial⟩, ⟨rfl, Nat.le_refl _, by simp⟩, hw⟩) (fun v6 pre j g2 hs => ?_)
  obtain ⟨h1, h2, h3⟩ := hs
  have hpl : pre.length + j = yf n := by have := congrArg List.length h1; simpa [zBk] using this
  refine zL ?_
  -- region 4  codec.go:16
  refine zB ?_
  refine zC rfl ?_
  refine xC rfl rfl rfl ?_
  refine zA ?_
  refine zU rfl (fun c1 => ?_) (fun c1 => ?_)
  · refine zK ?_
    obtain ⟨j, rfl⟩ : ∃ i, j = i + 1 := ⟨j - 1, by omega⟩
    refine zL ?_
    refine zT ?_
    -- region 6  codec.go:17
    refine zd ?_
    refine zC rfl ?_
    refine zC rfl ?_
    refine zC rfl ?_
    refine zBm (c := ((8 * j : Nat) : Int)) rfl rfl (by rw [zr (by omega)]; omega) rfl ?_
    have hfd : (n : Int).fdiv (2 ^ (min ((8 * j : Nat) : Int).toNat IntKind.u64.bits)) = ((n / 2 ^ (8 * j) : Nat) : Int) := by
      have e1 : min ((8 * j : Nat) : Int).toNat IntKind.u64.bits = 8 * j := by simp only [IntKind.bits]; omega
      have e2 : (2 : Int) ^ (8 * j) = ((2 ^ (8 * j) : Nat) : Int) := by norm_cast
      rw [e1, e2, Int.fdiv_eq_ediv_of_nonneg _ (Int.natCast_nonneg _)]
      norm_cast
    refine zGa rfl rfl (by omega) hfd rfl ?_
    refine yw (c := ((n / 2 ^ (8 * j) % 256 : Nat) : Int)) (by kernel_rfl) rfl (by rw [wu8]; norm_cast) rfl ?_ (by kernel_rfl)
    refine yj (e := T8) (sz := 1) (vs := [.int .u8 ((n / 2 ^ (8 * j) % 256 : Nat) : Int)]) (by kernel_rfl) rfl rfl (by simp [Value.cells]) (by decide) rfl (fun b31 => ?_)
    refine zEV (by' := 1) (m := 1) 0 zJe rfl rfl rfl (fun w hw => Vec.sl (hw.holds 1 _ rfl)) (by simp [Value.cells]) (by simp [Value.cells, cell1]) (by simp; omega) (by rw [xH]; simp; omega) rfl (fun v32 => ?_)
    refine zD rfl ?_
    refine zA ?_
    -- region 5  codec.go:16
    refine zd ?_
    refine zC rfl ?_
    refine yX (c := (j : Int) - 1) rfl rfl (by rw [zr (by omega)]; omega) rfl ?_
    refine zD rfl ?_
    refine zj (fun w hw => ⟨v32, pre ++ [UInt8.ofNat (n / 2 ^ (8 * j))], j, ⟨rfl, rfl, rfl, trivial⟩, ⟨?_, by omega, by simp; omega⟩, ?_, Nat.lt_succ_self j⟩)
    · rw [← h1]; simp [be]
    · have h4 := hw.one 0 rfl
      simpa [zBe, Value.cells, zCJ, Nat.add_assoc] using h4
  · refine yG rfl ?_
    have hj : j = 0 := by omega
    subst hj
    -- region 7  codec.go:19
    refine zB ?_
    refine zC rfl ?_
    refine zD rfl ?_
    refine zA ?_
    refine zM (z6 rfl rfl (fun w hw => ?_))
    have e : pre = be n (yf n) := by simpa [be] using h1
    subst e
    exact hw
abbrev xi : Nat := 179
def vu (n : Nat) : Value := .int .u64 n
def y7 (ns : List Nat) : List UInt8 := ns.flatMap yO
theorem xv {ns : List Nat} (h : ∀ n ∈ ns, n < 18446744073709551616) : (y7 ns).length ≤ 9 * ns.length := by
  induction ns with
  | nil => simp [y7]
  | cons n ns ih =>
    have h1 := xL (h n (by simp))
    have h2 := ih (fun m hm => h m (by simp [hm]))
    simp only [y7, List.flatMap_cons, List.length_append, List.length_cons] at h2 ⊢
    omega
abbrev EncOk (n : Nat) : Prop := n ≤ 100000000000
def fl (f : Bool) : Nat := bif f then 1 else 0
def zHJ (ns : List Int) : List UInt8 := y7 (u64 ns.length :: ns.map u64)
def Res.bv (o : Nat) (T : TypeId) (v : Value) (bs : List UInt8) : Res := (Res.row o T [v]).both (Res.vec T8 1 v bs.length (bs.map vb))
theorem _root_.Go.Sc.Own.splitBv {w0 w : World} {S : List Nat} {L : List Res} {i o : Nat} {T : TypeId} {v : Value} {bs : List UInt8} (hL : L[i]? = some (Res.bv o T v bs)) (h : Own w0 S L w) : Own w0 S (L.set i (Res.row o T [v]) ++ [Res.vec T8 1 v bs.length (bs.map vb)]) w := h.splitBoth hL
theorem _root_.Go.Sc.Own.joinBv {w0 w : World} {S : List Nat} {L : List Res} {i j o : Nat} {T : TypeId} {v : Value} {bs : List UInt8} (hij : i ≠ j) (h1 : L[i]? = some (Res.row o T [v])) (h2 : L[j]? = some (Res.vec T8 1 v bs.length (bs.map vb))) (h : Own w0 S L w) : Own w0 S ((L.set i (Res.bv o T v bs)).eraseIdx j) w := h.joinBoth hij h1 h2
theorem xd (v : Value) (bs : List UInt8) (n : Nat) (w : World) (hn : n < 18446744073709551616) (hb : bs.length ≤ 1000000000000) (hv : Rd w [] (Res.sl v bs.length (bs.map vb))) : Rets Tryz.prog 46 #[v, Vn n] w fun u_ w' => ∃ (r : Value), u_ = r ∧ Own w [] [Res.vec 5 1 r (bs ++ yO n).length ((bs ++ yO n).map vb)] w' := by
  refine (zE2 v bs n hn w hv.φ hb).mono ?_
  intro r w1 hO
  exact ⟨r, rfl, hO⟩
theorem zEA {S : List Nat} (o : Nat) (sl : Value) (bs : List UInt8) (lv : Value) (ns : List Nat) (w : World) (hns : ∀ n ∈ ns, n < 18446744073709551616) (hb : bs.length + 9 * ns.length ≤ 100000000000) (hin : Own w S [Res.bv o xi sl bs] w) (hl : Rd w S (Res.sl lv ns.length (ns.flatMap U1))) : Rets Tryz.prog 101 #[.pointer (some ⟨o, 0, none⟩), lv] w fun u_ w' => ∃ (sl' : Value), u_ = .tuple #[] ∧ Own w S [Res.bv o xi sl' (bs ++ y7 ns)] w' := by
  refine zW Tryz.func101 rfl Tryz.ntmps101 hin ?_
  refine zB (zC rfl (yC (pR hl) rfl rfl (zC rfl (zA (zT ?_)))))
  refine xT (fun (k : Nat) (s : Value) => [(0, .pointer (some ⟨o, 0, none⟩)), (6, lv), (7, Vj ns.length), (8, Vj k)]) (fun (k : Nat) (s : Value) => k ≤ ns.length) (fun (k : Nat) (s : Value) => [Res.bv o xi s (bs ++ y7 (ns.take k))]) (fun (k : Nat) (s : Value) => ns.length - k) (fun w' hw => ⟨0, sl, ⟨rfl, rfl, rfl, rfl, trivial⟩, Nat.zero_le _, by simpa [y7] using hw⟩) (fun k s g hΦ => ?_)
  have hle := xv (ns := ns.take k) (fun n hn => hns n (List.mem_of_mem_take hn))
  have hmin : (ns.take k).length = k := by simp; omega
  refine zB (yI rfl rfl rfl (zA (zL (zU rfl (fun c1 => ?_) (fun c1 => ?_)))))
  ·
   refine zK (zL (zT (zB (zH (pR hl) 1 k rfl rfl rfl (by omega) rfl (zV (pR hl) 1 k 0 (fun _ => rfl) rfl rfl (by omega) rfl rfl (zD rfl (zA (zd (zC rfl (zC rfl (zm rfl rfl (zP (o := 0) rfl rfl ?_))))))))))))
   refine zBM [Res.row o xi [s], Res.vec 5 1 s (bs ++ y7 (ns.take k)).length ((bs ++ y7 (ns.take k)).map vb)] (fun w' hw => hw.splitBv (i := 0) (o := o) (T := xi) (v := s) (bs := (bs ++ y7 (ns.take k))) rfl) ?_
   refine zS 0 (v := s) rfl rfl rfl rfl (zC rfl (zJ rfl rfl (fun w' hw => (xd s (bs ++ y7 (ns.take k)) (zI ns k) w' (hns _ (yM (by omega))) (by first | omega | (simp <;> omega) | (constructor <;> (first | omega | (simp <;> omega)))) (hw.rdVec0 1 rfl)).mono ?_)))
   rintro r1_ w1 ⟨_, rfl, hO⟩
   refine (?_ : CL _ _ _ _ _ _ (Own w S [Res.row o xi [s], Res.vec 5 1 s (bs ++ y7 (ns.take k)).length ((bs ++ y7 (ns.take k)).map vb), Res.vec 5 1 r1_ ((bs ++ y7 (ns.take k)) ++ yO (zI ns k)).length (((bs ++ y7 (ns.take k)) ++ yO (zI ns k)).map vb)])) w1 (hw.frame0 hO)
   refine zm rfl rfl (zP (o := 0) rfl rfl ?_)
   refine yS (fun w' hw => Own.cell1Vec (i := 2) rfl hw) (fun hc1_ => ?_)
   refine yi (cs := [s]) 0 rfl rfl rfl hc1_ rfl (zA (zd (zt rfl rfl (zr (by omega)) rfl (zC rfl ?_))))
   exact zj (fun w' hw => ⟨k + 1, r1_, ⟨rfl, rfl, rfl, rfl, trivial⟩, (by omega), by rw [yB (by omega)]; have h := (hw.joinBv (i := 0) (j := 2) (o := o) (T := xi) (v := r1_) (bs := bs ++ y7 (ns.take k) ++ yO (zI ns k)) (by decide) rfl rfl).one 0 rfl; simpa [y7] using h, (by omega)⟩)
  ·
   exact xA rfl (jq rfl (fun w' hw => ⟨s, rfl, by rw [List.take_of_length_le (by omega)] at hw; exact hw⟩))
def le (n : Nat) : Nat → List UInt8
  | 0 => []
  | k + 1 => le n k ++ [UInt8.ofNat (n / 256 ^ k)]
theorem zA2 (d : List UInt8) (h : d.length < 18446744073709551616) : (dat d).length ≤ d.length + 9 := by
  have := xL h
  simp [dat]; omega
theorem zBw {α β : Type} (f : α → List β) (l : List α) (k : Nat) : ((l.take k).flatMap f).length ≤ (l.flatMap f).length := by
  have : l.flatMap f = (l.take k).flatMap f ++ (l.drop k).flatMap f := by rw [← List.flatMap_append, List.take_append_drop]
  rw [this, List.length_append]; omega
end Go.Proofs.YthincafbmpialaaGreat
