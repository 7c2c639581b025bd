import Derived.Test.YtcdiehplbmkmeaaGreatBytes
import Derived.Test.YtcdiehplbmkmeaaGreatProg
set_option linter.unusedSectionVars false
set_option linter.unusedSimpArgs false
set_option linter.unusedVariables false
set_option maxRecDepth 10000
namespace Go.Proofs.YtcdiehplbmkmeaaGreat
open Go Go.Sc Go.Proofs
theorem zBq (n : Nat) (hn : n < 18446744073709551616) (w : World) :
    Rets Tryz.prog 88 #[.int .u64 n] w fun v w' => v = .int .i64 (zj n) ∧ Own w [] [] w' := by
  refine xc (args := [.int .u64 n]) Tryz.func88 rfl Tryz.ntmps88 rfl (Own.start w) ?_
  refine zB ?_
  refine zG rfl ?_
  refine zA ?_
  refine zAL (Nat × Nat) (fun s => [(0, .int .u64 s.1), (2, .int .i64 s.2)]) (fun s => zj n = zj s.1 + s.2 ∧ s.1 < 4294967296 ∧ s.2 ≤ 32) (fun _ => []) ?_ (fun s g ⟨h1, h2, h3⟩ => ?_)
  · refine zB ?_
    refine zC rfl ?_
    refine yW rfl rfl rfl ?_
    refine zA ?_
    refine zT rfl (fun c1 => ?_) (fun c1 => ?_)
    · refine zB ?_
      refine zC rfl ?_
      refine zFY (c := ((n / 4294967296 : Nat) : Int)) rfl rfl (by omega) (by show (n : Int).fdiv 4294967296 = _; rw [Int.fdiv_eq_ediv_of_nonneg _ (by omega)]; omega) rfl ?_
      refine zG rfl ?_
      refine zA ?_
      refine zY ?_
      refine zG rfl ?_
      have hb : zj n = zj (n / 4294967296) + 32 := jL (k := 32) (by omega)
      exact zd (fun w hw => ⟨(n / 4294967296, 0 + 32), ⟨rfl, rfl, trivial⟩, ⟨by show zj n = zj (n / 4294967296) + (0 + 32); omega, by omega, by omega⟩, hw⟩)
    · exact xY (fun w hw => ⟨(n, 0), ⟨rfl, rfl, trivial⟩, ⟨by show zj n = zj n + 0; omega, by omega, by omega⟩, hw⟩)
  refine zAL (Nat × Nat) (fun s => [(0, .int .u64 s.1), (2, .int .i64 s.2)]) (fun s => zj n = zj s.1 + s.2 ∧ s.1 < 65536 ∧ s.2 ≤ 48) (fun _ => []) ?_ (fun s g ⟨h1, h2, h3⟩ => ?_)
  · refine zB ?_
    refine zC rfl ?_
    refine yW rfl rfl rfl ?_
    refine zA ?_
    refine zT rfl (fun c1 => ?_) (fun c1 => ?_)
    · refine zB ?_
      refine zC rfl ?_
      refine zFY (c := ((s.1 / 65536 : Nat) : Int)) rfl rfl (by omega) (by show (s.1 : Int).fdiv 65536 = _; rw [Int.fdiv_eq_ediv_of_nonneg _ (by omega)]; omega) rfl ?_
      refine zG rfl ?_
      refine zA ?_
      refine zY ?_
      refine zC rfl ?_
      refine zn (c := ((s.2 + 16 : Nat) : Int)) rfl rfl (by rw [zh (by omega)]; omega) rfl ?_
      refine zG rfl ?_
      have hb : zj s.1 = zj (s.1 / 65536) + 16 := jL (k := 16) (by omega)
      exact zd (fun w hw => ⟨(s.1 / 65536, s.2 + 16), ⟨rfl, rfl, trivial⟩, ⟨by show zj n = zj (s.1 / 65536) + (s.2 + 16); omega, by omega, by omega⟩, hw⟩)
    · exact xY (fun w hw => ⟨(s.1, s.2), ⟨rfl, rfl, trivial⟩, ⟨by show zj n = zj s.1 + s.2; omega, by omega, by omega⟩, hw⟩)
  refine zAL (Nat × Nat) (fun s => [(0, .int .u64 s.1), (2, .int .i64 s.2)]) (fun s => zj n = zj s.1 + s.2 ∧ s.1 < 256 ∧ s.2 ≤ 56) (fun _ => []) ?_ (fun s g ⟨h1, h2, h3⟩ => ?_)
  · refine zB ?_
    refine zC rfl ?_
    refine yW rfl rfl rfl ?_
    refine zA ?_
    refine zT rfl (fun c1 => ?_) (fun c1 => ?_)
    · refine zB ?_
      refine zC rfl ?_
      refine zFY (c := ((s.1 / 256 : Nat) : Int)) rfl rfl (by omega) (by show (s.1 : Int).fdiv 256 = _; rw [Int.fdiv_eq_ediv_of_nonneg _ (by omega)]; omega) rfl ?_
      refine zG rfl ?_
      refine zA ?_
      refine zY ?_
      refine zC rfl ?_
      refine zn (c := ((s.2 + 8 : Nat) : Int)) rfl rfl (by rw [zh (by omega)]; omega) rfl ?_
      refine zG rfl ?_
      have hb : zj s.1 = zj (s.1 / 256) + 8 := jL (k := 8) (by omega)
      exact zd (fun w hw => ⟨(s.1 / 256, s.2 + 8), ⟨rfl, rfl, trivial⟩, ⟨by show zj n = zj (s.1 / 256) + (s.2 + 8); omega, by omega, by omega⟩, hw⟩)
    · exact xY (fun w hw => ⟨(s.1, s.2), ⟨rfl, rfl, trivial⟩, ⟨by show zj n = zj s.1 + s.2; omega, by omega, by omega⟩, hw⟩)
  refine zB ?_
  refine zC rfl ?_
  refine zC rfl ?_
  refine yx rfl rfl (zBN (by omega)) rfl ?_ (by kernel_rfl)
  have hl : s.1 < (ByteArray.mk lenTabL.toArray).size := by rw [show (ByteArray.mk lenTabL.toArray).size = 256 by kernel_rfl]; exact h2
  refine zLz (s := ⟨lenTabL.toArray⟩) (by kernel_rfl) (by kernel_rfl) rfl rfl hl rfl ?_
  have ht : ((ByteArray.mk lenTabL.toArray)[s.1]).toNat = zj s.1 := by
    have := zFq ⟨s.1, h2⟩
    rw [List.getElem?_eq_getElem (show s.1 < lenTabL.length from h2)] at this
    exact Option.some.inj this
  have hle := xS (n := s.1) (k := 8) h2
  refine yx (c := (zj s.1 : Int)) (by kernel_rfl) rfl (by rw [ht]; exact zh (by omega)) rfl ?_ (by kernel_rfl)
  refine zn (c := (zj n : Int)) rfl rfl (by rw [zh (by omega), h1]; omega) rfl ?_
  refine zG rfl ?_
  refine zA ?_
  exact zN (z4 rfl rfl (fun w hw => ⟨rfl, hw⟩))
abbrev T8 : Nat := 5
def BSl (w : World) (v : Value) (bs : List UInt8) : Prop := Sl w v bs.length (bs.map vb)
def zAy (v : Value) (bs : List UInt8) : Res := Res.vec T8 1 v bs.length (bs.map vb)
theorem zIL : slT Tryz.prog 46 = some (T8, 1, 1) := by kernel_rfl
theorem zEa (v : Value) (bs : List UInt8) (w : World) (hv : BSl w v bs) (hb : bs.length ≤ 1099511627776) :
    Rets Tryz.prog 97 #[v] w fun v' w' => Own w [] [zAy v' bs] w' := by
  have hs := hv
  obtain ⟨a, cap, rfl, h1, h2, ha⟩ := Sl.shape hv
  cases a with
  | none =>
    have hbs : bs = [] := by
      cases bs with
      | nil => rfl
      | cons x xs => obtain ⟨b, off, e⟩ := ha (by simp); cases e
    subst hbs
    refine xc (args := [.slice none 0 cap]) Tryz.func97 rfl Tryz.ntmps97 rfl (Own.start w) ?_
    refine zB ?_
    refine zG rfl ?_
    refine zA ?_
    refine zK ?_
    refine zB ?_
    refine zC rfl ?_
    refine zGa (by kernel_rfl) rfl rfl rfl ?_
    refine zA ?_
    refine zFU rfl ?_
    refine zB ?_
    refine zG rfl ?_
    refine zA ?_
    exact zN (z4 (v := .slice none 0 0) rfl rfl (fun w hw => by simpa [zAy] using yS hw T8 1))
  | some a =>
    refine xc (args := [.slice (some a) bs.length cap]) Tryz.func97 rfl Tryz.ntmps97 rfl (Own.start w) ?_
    refine zB ?_
    refine zG rfl ?_
    refine zA ?_
    refine zK ?_
    refine zB ?_
    refine zC rfl ?_
    refine zGa (by kernel_rfl) rfl rfl rfl ?_
    refine zA ?_
    refine xy rfl ?_
    refine zJ ?_
    refine zB ?_
    refine yc (e := T8) (sz := 1) (vs := []) (by kernel_rfl) rfl rfl (by simp) (by decide) rfl (fun b5 => ?_)
    refine zC rfl ?_
    refine zDU (by' := 1) (news := bs.map vb) (m := bs.length) 0 zIL rfl rfl rfl (fun w' hw => hw.old (Res.sl _ _ _) hs (by simp)) (by simp) (zAj bs) (by omega) (by rw [yj]; omega) rfl (fun v7 => ?_)
    refine zG rfl ?_
    refine zA ?_
    exact zN (z4 (v := v7) rfl rfl (fun w hw => by simpa [zAy] using hw))
theorem zCb (a : Option Addr) (n cap : Nat) (w : World) (hc : n ≤ cap) :
    Rets Tryz.prog 96 #[.slice a n cap] w fun v' w' => v' = .slice a n n ∧ Own w [] [] w' := by
  refine xc (args := [.slice a n cap]) Tryz.func96 rfl Tryz.ntmps96 rfl (Own.start w) ?_
  refine zB ?_
  refine zG rfl ?_
  refine zA ?_
  refine zB ?_
  refine zC rfl ?_
  refine zC rfl ?_
  refine zJe (by kernel_rfl) rfl rfl ?_
  refine zC rfl ?_
  refine zJe (by kernel_rfl) rfl rfl ?_
  refine zKL (sz := 1) (l := 0) (h := n) (m := n) (by kernel_rfl) rfl rfl ⟨.i64, rfl⟩ ⟨.i64, rfl⟩ (by omega) (by omega) hc rfl ?_
  refine zG rfl ?_
  refine zA ?_
  refine zN (z4 rfl rfl (fun w hw => ⟨?_, hw⟩))
  show zAG a cap 0 n n 1 = _
  cases a <;> simp [zAG, Addr.add]
theorem zDe (v : Value) (bs : List UInt8) (n : Nat) (hn : n < 18446744073709551616) (w : World) (hv : BSl w v bs) (hb : bs.length ≤ 1000000000000) :
    Rets Tryz.prog 74 #[v, .int .u64 n] w fun v' w' => Own w [] [zAy v' (bs ++ num n)] w' := by
  have hk := zBX hn
  refine xc (args := [v, .int .u64 n]) Tryz.func74 rfl Tryz.ntmps74 rfl (Own.start w) ?_
  refine zB ?_
  refine zG rfl ?_
  refine zA ?_
  -- region 1  codec.go:14
  refine zB ?_
  refine zC rfl ?_
  refine j9 (by kernel_rfl) rfl rfl (fun w' hw => ?_)
  refine (zBq n hn w').mono ?_
  rintro _ w1 ⟨rfl, hO⟩
  refine (?_ : CL _ _ _ _ _ _ (Own w [] [])) w1 (by simpa using hw.frame0 hO)
  have hl64 := xS (n := n) (k := 64) hn
  refine zn (c := ((zj n + 7 : Nat) : Int)) rfl rfl (by rw [zh (by omega)]; omega) rfl ?_
  refine xn (c := (ye n : Int)) rfl rfl (by omega) (by rw [Int.tdiv_eq_ediv_of_nonneg (by omega)]; unfold ye; rw [zh (by omega)]; omega) rfl ?_
  refine zG rfl ?_
  refine zA ?_
  -- region 2  codec.go:15
  refine yh (fun (v6 : Value) => [(1, .int .u64 n), (5, .int .i64 (ye n : Nat)), (6, v6)]) (fun _ => True) (fun v6 => [zAy v6 (bs ++ [UInt8.ofNat (ye n)])]) ?_ (fun v6 g _ => ?_)
  · refine zY ?_
    refine zC rfl ?_
    refine j9 (by kernel_rfl) rfl rfl (fun w' hw => ?_)
    refine (zEa v bs w' (hw.old (Res.sl _ _ _) hv (by simp)) (by omega)).mono ?_
    intro v13 w1 hO
    have hO' := hw.frame0 hO
    rcases (hO'.holds 0 _ rfl).2 with ⟨rfl, hz⟩ | ⟨g, cap, cur, rfl, -, hg, hcap, hmax, -, -⟩
    · have hbs : bs = [] := List.eq_nil_of_length_eq_zero hz
      subst hbs
      refine (?_ : CL _ _ _ _ _ _ (Own w [] [zAy (.slice none 0 0) []])) w1 hO'
      refine j9 (by kernel_rfl) rfl rfl (fun w' hw => ?_)
      refine (zCb none 0 0 w' (by omega)).mono ?_
      rintro _ w2 ⟨rfl, hO⟩
      refine (?_ : CL _ _ _ _ _ _ (Own w [] [zAy (.slice none 0 0) []])) w2 (by simpa using hw.frame0 hO)
      refine zC rfl ?_
      refine yx (by kernel_rfl) rfl (zBN (by omega)) rfl ?_ (by kernel_rfl)
      refine yc (e := T8) (sz := 1) (vs := [.int .u8 (ye n)]) (by kernel_rfl) rfl rfl (by simp [Value.cells]) (by decide) rfl (fun b17 => ?_)
      refine zDU (by' := 1) (m := 1) 0 zIL rfl rfl rfl (fun w hw => Vec.sl (hw.holds 1 _ rfl)) (by simp [Value.cells]) (by simp [Value.cells, cell1]) (by simp) (by rw [yj]; simp) rfl (fun v18 => ?_)
      refine zG rfl ?_
      refine zd (fun w hw => ⟨v18, ⟨rfl, rfl, rfl, trivial⟩, trivial, ?_⟩)
      have h1 := hw.one 0 rfl
      have e : vb (UInt8.ofNat (ye n)) = .int .u8 (ye n) := by rw [zBx, Nat.mod_eq_of_lt (by omega)]
      simpa [zAy, Value.cells, e] using h1
    · refine (?_ : CL _ _ _ _ _ _ (Own w [] [zAy (.slice (some ⟨g, 0, none⟩) bs.length cap) bs])) w1 hO'
      refine j9 (by kernel_rfl) rfl rfl (fun w' hw => ?_)
      refine (zCb _ bs.length cap w' hcap).mono ?_
      rintro _ w2 ⟨rfl, hO⟩
      have hO2 := hw.frame0 hO
      rw [List.append_nil] at hO2
      refine (?_ : CL _ _ _ _ _ _ (Own w [] [zAy (.slice (some ⟨g, 0, none⟩) bs.length cap) bs])) w2 hO2
      refine zC rfl ?_
      refine yx (by kernel_rfl) rfl (zBN (by omega)) rfl ?_ (by kernel_rfl)
      refine yc (e := T8) (sz := 1) (vs := [.int .u8 (ye n)]) (by kernel_rfl) rfl rfl (by simp [Value.cells]) (by decide) rfl (fun b17 => ?_)
      refine zJ6 (by' := 1) (m := 1) (cs := bs.map vb) zIL rfl (fun w hw => ?_) (by simp) rfl (fun w hw => Vec.sl (hw.holds 1 _ rfl)) (by simp [Value.cells]) (by omega) (by omega) (by rw [yj]; omega) rfl (fun v18 => ?_)
      · rcases Vec.sl (hw.holds 0 _ rfl) with ⟨a1, e, e1, e2⟩ | ⟨b1, off1, cap1, e, k1, k2, k3, k4⟩
        · exact .inl ⟨_, by rw [e1], e1, e2⟩
        · simp at e
          obtain ⟨⟨rfl, rfl⟩, rfl⟩ := e
          by_cases hz : bs.length = 0
          · exact .inl ⟨_, by rw [hz], hz, by simpa using hz⟩
          · exact .inr ⟨_, _, _, rfl, ⟨Nat.le_refl _, by omega⟩, by have := k1.1; omega, k3, k4⟩
      refine zG rfl ?_
      refine zd (fun w hw => ⟨v18, ⟨rfl, rfl, rfl, trivial⟩, trivial, ?_⟩)
      have h1 := hw.one 2 rfl
      have e : vb (UInt8.ofNat (ye n)) = .int .u8 (ye n) := by rw [zBx, Nat.mod_eq_of_lt (by omega)]
      simpa [zAy, Value.cells, e] using h1
  refine zK ?_
  -- region 3  codec.go:16
  refine zB ?_
  refine zC rfl ?_
  refine yJ rfl rfl (zh (by omega)) rfl ?_
  refine zG rfl ?_
  refine zA ?_
  refine zW ?_
  refine jH (fun (v6 : Value) (pre : List UInt8) (j : Nat) => [(1, .int .u64 n), (6, v6), (7, .int .i64 ((j : Int) - 1))]) (fun _ pre j => pre ++ be n j = be n (ye n) ∧ j ≤ ye n ∧ pre.length ≤ 8)
    (fun v6 pre _ => [zAy v6 (bs ++ UInt8.ofNat (ye n) :: pre)]) (fun _ _ j => j) (fun w hw => ⟨v6, [], ye n, ⟨rfl, rfl, rfl, trivial⟩, ⟨rfl, Nat.le_refl _, by simp⟩, hw⟩) (fun v6 pre j g2 hs => ?_)
  obtain ⟨h1, h2, h3⟩ := hs
  have hpl : pre.length + j = ye n := by have := congrArg List.length h1; simpa [zA9] using this
  refine zK ?_
  -- region 4  codec.go:16
  refine zB ?_
  refine zC rfl ?_
  refine yW rfl rfl rfl ?_
  refine zA ?_
  refine zT rfl (fun c1 => ?_) (fun c1 => ?_)
  · refine zJ ?_
    obtain ⟨j, rfl⟩ : ∃ i, j = i + 1 := ⟨j - 1, by omega⟩
    refine zK ?_
    refine zW ?_
    -- region 6  codec.go:17
    refine zY ?_
    refine zC rfl ?_
    refine zC rfl ?_
    refine zC rfl ?_
    refine zBo (c := ((8 * j : Nat) : Int)) rfl rfl (by rw [zh (by omega)]; omega) rfl ?_
    have hfd : (n : Int).fdiv (2 ^ (min ((8 * j : Nat) : Int).toNat IntKind.u64.bits)) = ((n / 2 ^ (8 * j) : Nat) : Int) := by
      have e1 : min ((8 * j : Nat) : Int).toNat IntKind.u64.bits = 8 * j := by simp only [IntKind.bits]; omega
      have e2 : (2 : Int) ^ (8 * j) = ((2 ^ (8 * j) : Nat) : Int) := by norm_cast
      rw [e1, e2, Int.fdiv_eq_ediv_of_nonneg _ (Int.natCast_nonneg _)]
      norm_cast
    refine zFY rfl rfl (by omega) hfd rfl ?_
    refine yx (c := ((n / 2 ^ (8 * j) % 256 : Nat) : Int)) (by kernel_rfl) rfl (by rw [wu8]; norm_cast) rfl ?_ (by kernel_rfl)
    refine yc (e := T8) (sz := 1) (vs := [.int .u8 ((n / 2 ^ (8 * j) % 256 : Nat) : Int)]) (by kernel_rfl) rfl rfl (by simp [Value.cells]) (by decide) rfl (fun b31 => ?_)
    refine zDU (by' := 1) (m := 1) 0 zIL rfl rfl rfl (fun w hw => Vec.sl (hw.holds 1 _ rfl)) (by simp [Value.cells]) (by simp [Value.cells, cell1]) (by simp; omega) (by rw [yj]; simp; omega) rfl (fun v32 => ?_)
    refine zG rfl ?_
    refine zA ?_
    -- region 5  codec.go:16
    refine zY ?_
    refine zC rfl ?_
    refine yJ (c := (j : Int) - 1) rfl rfl (by rw [zh (by omega)]; omega) rfl ?_
    refine zG rfl ?_
    refine zd (fun w hw => ⟨v32, pre ++ [UInt8.ofNat (n / 2 ^ (8 * j))], j, ⟨rfl, rfl, rfl, trivial⟩, ⟨?_, by omega, by simp; omega⟩, ?_, Nat.lt_succ_self j⟩)
    · rw [← h1]; simp [be]
    · have h4 := hw.one 0 rfl
      simpa [zAy, Value.cells, zBx, Nat.add_assoc] using h4
  · refine z8 rfl ?_
    have hj : j = 0 := by omega
    subst hj
    -- region 7  codec.go:19
    refine zB ?_
    refine zC rfl ?_
    refine zG rfl ?_
    refine zA ?_
    refine zN (z4 rfl rfl (fun w hw => ?_))
    have e : pre = be n (ye n) := by simpa [be] using h1
    subst e
    exact hw
end Go.Proofs.YtcdiehplbmkmeaaGreat
