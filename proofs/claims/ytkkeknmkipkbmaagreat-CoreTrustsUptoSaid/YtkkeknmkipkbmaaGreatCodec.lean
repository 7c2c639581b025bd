import Derived.Test.YtkkeknmkipkbmaaGreatBytes
import Derived.Test.YtkkeknmkipkbmaaGreatProg
set_option linter.unusedSectionVars false
set_option linter.unusedSimpArgs false
set_option linter.unusedVariables false
set_option maxRecDepth 10000
namespace Go.Proofs.YtkkeknmkipkbmaaGreat
open Go Go.Sc Go.Proofs
theorem zBW (n : Nat) (hn : n < 18446744073709551616) (w : World) :
    Rets Tryz.prog 188 #[.int .u64 n] w fun v w' => v = .int .i64 (z9 n) ∧ Own w [] [] w' := by
  refine xZ (args := [.int .u64 n]) Tryz.func188 rfl Tryz.ntmps188 rfl (Own.start w) ?_
  refine zB ?_
  refine zK rfl ?_
  refine zA ?_
  refine jM (Nat × Nat) (fun s => [(0, .int .u64 s.1), (2, .int .i64 s.2)]) (fun s => z9 n = z9 s.1 + s.2 ∧ s.1 < 4294967296 ∧ s.2 ≤ 32) (fun _ => []) ?_ (fun s g ⟨h1, h2, h3⟩ => ?_)
  · refine zB ?_
    refine zD rfl ?_
    refine kK rfl rfl rfl ?_
    refine zA ?_
    refine zf rfl (fun c1 => ?_) (fun c1 => ?_)
    · refine zB ?_
      refine zD rfl ?_
      refine zEx (c := ((n / 4294967296 : Nat) : Int)) rfl rfl (by omega) (by show (n : Int).fdiv 4294967296 = _; rw [Int.fdiv_eq_ediv_of_nonneg _ (by omega)]; omega) rfl ?_
      refine zK rfl ?_
      refine zA ?_
      refine zW ?_
      refine zK rfl ?_
      have hb : z9 n = z9 (n / 4294967296) + 32 := k8 (k := 32) (by omega)
      exact zj (fun w hw => ⟨(n / 4294967296, 0 + 32), ⟨rfl, rfl, trivial⟩, ⟨by show z9 n = z9 (n / 4294967296) + (0 + 32); omega, by omega, by omega⟩, hw⟩)
    · exact yk (fun w hw => ⟨(n, 0), ⟨rfl, rfl, trivial⟩, ⟨by show z9 n = z9 n + 0; omega, by omega, by omega⟩, hw⟩)
  refine jM (Nat × Nat) (fun s => [(0, .int .u64 s.1), (2, .int .i64 s.2)]) (fun s => z9 n = z9 s.1 + s.2 ∧ s.1 < 65536 ∧ s.2 ≤ 48) (fun _ => []) ?_ (fun s g ⟨h1, h2, h3⟩ => ?_)
  · refine zB ?_
    refine zD rfl ?_
    refine kK rfl rfl rfl ?_
    refine zA ?_
    refine zf rfl (fun c1 => ?_) (fun c1 => ?_)
    · refine zB ?_
      refine zD rfl ?_
      refine zEx (c := ((s.1 / 65536 : Nat) : Int)) rfl rfl (by omega) (by show (s.1 : Int).fdiv 65536 = _; rw [Int.fdiv_eq_ediv_of_nonneg _ (by omega)]; omega) rfl ?_
      refine zK rfl ?_
      refine zA ?_
      refine zW ?_
      refine zD rfl ?_
      refine z3 (c := ((s.2 + 16 : Nat) : Int)) rfl rfl (by rw [zy (by omega)]; omega) rfl ?_
      refine zK rfl ?_
      have hb : z9 s.1 = z9 (s.1 / 65536) + 16 := k8 (k := 16) (by omega)
      exact zj (fun w hw => ⟨(s.1 / 65536, s.2 + 16), ⟨rfl, rfl, trivial⟩, ⟨by show z9 n = z9 (s.1 / 65536) + (s.2 + 16); omega, by omega, by omega⟩, hw⟩)
    · exact yk (fun w hw => ⟨(s.1, s.2), ⟨rfl, rfl, trivial⟩, ⟨by show z9 n = z9 s.1 + s.2; omega, by omega, by omega⟩, hw⟩)
  refine jM (Nat × Nat) (fun s => [(0, .int .u64 s.1), (2, .int .i64 s.2)]) (fun s => z9 n = z9 s.1 + s.2 ∧ s.1 < 256 ∧ s.2 ≤ 56) (fun _ => []) ?_ (fun s g ⟨h1, h2, h3⟩ => ?_)
  · refine zB ?_
    refine zD rfl ?_
    refine kK rfl rfl rfl ?_
    refine zA ?_
    refine zf rfl (fun c1 => ?_) (fun c1 => ?_)
    · refine zB ?_
      refine zD rfl ?_
      refine zEx (c := ((s.1 / 256 : Nat) : Int)) rfl rfl (by omega) (by show (s.1 : Int).fdiv 256 = _; rw [Int.fdiv_eq_ediv_of_nonneg _ (by omega)]; omega) rfl ?_
      refine zK rfl ?_
      refine zA ?_
      refine zW ?_
      refine zD rfl ?_
      refine z3 (c := ((s.2 + 8 : Nat) : Int)) rfl rfl (by rw [zy (by omega)]; omega) rfl ?_
      refine zK rfl ?_
      have hb : z9 s.1 = z9 (s.1 / 256) + 8 := k8 (k := 8) (by omega)
      exact zj (fun w hw => ⟨(s.1 / 256, s.2 + 8), ⟨rfl, rfl, trivial⟩, ⟨by show z9 n = z9 (s.1 / 256) + (s.2 + 8); omega, by omega, by omega⟩, hw⟩)
    · exact yk (fun w hw => ⟨(s.1, s.2), ⟨rfl, rfl, trivial⟩, ⟨by show z9 n = z9 s.1 + s.2; omega, by omega, by omega⟩, hw⟩)
  refine zB ?_
  refine zD rfl ?_
  refine zD rfl ?_
  refine xe rfl rfl (zJr (by omega)) rfl ?_ (by kernel_rfl)
  have hl : s.1 < (ByteArray.mk lenTabL.toArray).size := by rw [show (ByteArray.mk lenTabL.toArray).size = 256 by kernel_rfl]; exact h2
  refine zKW (s := ⟨lenTabL.toArray⟩) (by kernel_rfl) (by kernel_rfl) rfl rfl hl rfl ?_
  have ht : ((ByteArray.mk lenTabL.toArray)[s.1]).toNat = z9 s.1 := by
    have := zFW ⟨s.1, h2⟩
    rw [List.getElem?_eq_getElem (show s.1 < lenTabL.length from h2)] at this
    exact Option.some.inj this
  have hle := kC (n := s.1) (k := 8) h2
  refine xe (c := (z9 s.1 : Int)) (by kernel_rfl) rfl (by rw [ht]; exact zy (by omega)) rfl ?_ (by kernel_rfl)
  refine z3 (c := (z9 n : Int)) rfl rfl (by rw [zy (by omega), h1]; omega) rfl ?_
  refine zK rfl ?_
  refine zA ?_
  exact zY (yD rfl rfl (fun w hw => ⟨rfl, hw⟩))
abbrev T8 : Nat := 5
def BSl (w : World) (v : Value) (bs : List UInt8) : Prop := Sl w v bs.length (bs.map vb)
def zAP (v : Value) (bs : List UInt8) : Res := Res.vec T8 1 v bs.length (bs.map vb)
theorem zHu : slT Tryz.prog 36 = some (T8, 1, 1) := by kernel_rfl
theorem zDu (v : Value) (bs : List UInt8) (w : World) (hv : BSl w v bs) (hb : bs.length ≤ 1099511627776) :
    Rets Tryz.prog 40 #[v] w fun v' w' => Own w [] [zAP v' bs] w' := by
  have hs := hv
  obtain ⟨a, cap, rfl, h1, h2, ha⟩ := Sl.shape hv
  cases a with
  | none =>
    have hbs : bs = [] := by
      cases bs with
      | nil => rfl
      | cons x xs => obtain ⟨b, off, e⟩ := ha (by simp); cases e
    subst hbs
    refine xZ (args := [.slice none 0 cap]) Tryz.func40 rfl Tryz.ntmps40 rfl (Own.start w) ?_
    refine zB ?_
    refine zK rfl ?_
    refine zA ?_
    refine zQ ?_
    refine zB ?_
    refine zD rfl ?_
    refine zGd (by kernel_rfl) rfl rfl rfl ?_
    refine zA ?_
    refine zEu rfl ?_
    refine zB ?_
    refine zK rfl ?_
    refine zA ?_
    exact zY (yD (v := .slice none 0 0) rfl rfl (fun w hw => by simpa [zAP] using zt hw T8 1))
  | some a =>
    refine xZ (args := [.slice (some a) bs.length cap]) Tryz.func40 rfl Tryz.ntmps40 rfl (Own.start w) ?_
    refine zB ?_
    refine zK rfl ?_
    refine zA ?_
    refine zQ ?_
    refine zB ?_
    refine zD rfl ?_
    refine zGd (by kernel_rfl) rfl rfl rfl ?_
    refine zA ?_
    refine x8 rfl ?_
    refine zR ?_
    refine zB ?_
    refine z4 (e := T8) (sz := 1) (vs := []) (by kernel_rfl) rfl rfl (by simp) (by decide) rfl (fun b5 => ?_)
    refine zD rfl ?_
    refine zDb (by' := 1) (news := bs.map vb) (m := bs.length) 0 zHu rfl rfl rfl (fun w' hw => hw.old (Res.sl _ _ _) hs (by simp)) (by simp) (j1 bs) (by omega) (by rw [yz]; omega) rfl (fun v7 => ?_)
    refine zK rfl ?_
    refine zA ?_
    exact zY (yD (v := v7) rfl rfl (fun w hw => by simpa [zAP] using hw))
theorem zBx (a : Option Addr) (n cap : Nat) (w : World) (hc : n ≤ cap) :
    Rets Tryz.prog 189 #[.slice a n cap] w fun v' w' => v' = .slice a n n ∧ Own w [] [] w' := by
  refine xZ (args := [.slice a n cap]) Tryz.func189 rfl Tryz.ntmps189 rfl (Own.start w) ?_
  refine zB ?_
  refine zK rfl ?_
  refine zA ?_
  refine zB ?_
  refine zD rfl ?_
  refine zD rfl ?_
  refine zE7 (by kernel_rfl) rfl rfl ?_
  refine zD rfl ?_
  refine zE7 (by kernel_rfl) rfl rfl ?_
  refine zIx (sz := 1) (l := 0) (h := n) (m := n) (by kernel_rfl) rfl rfl ⟨.i64, rfl⟩ ⟨.i64, rfl⟩ (by omega) (by omega) hc rfl ?_
  refine zK rfl ?_
  refine zA ?_
  refine zY (yD rfl rfl (fun w hw => ⟨?_, hw⟩))
  show jK a cap 0 n n 1 = _
  cases a <;> simp [jK, Addr.add]
theorem zDM (v : Value) (bs : List UInt8) (n : Nat) (hn : n < 18446744073709551616) (w : World) (hv : BSl w v bs) (hb : bs.length ≤ 1000000000000) :
    Rets Tryz.prog 145 #[v, .int .u64 n] w fun v' w' => Own w [] [zAP v' (bs ++ num n)] w' := by
  have hk := zBe hn
  refine xZ (args := [v, .int .u64 n]) Tryz.func145 rfl Tryz.ntmps145 rfl (Own.start w) ?_
  refine zB ?_
  refine zK rfl ?_
  refine zA ?_
  -- region 1  codec.go:14
  refine zB ?_
  refine zD rfl ?_
  refine zAa (by kernel_rfl) rfl rfl (fun w' hw => ?_)
  refine (zBW n hn w').mono ?_
  rintro _ w1 ⟨rfl, hO⟩
  refine (?_ : CL _ _ _ _ _ _ (Own w [] [])) w1 (by simpa using hw.frame0 hO)
  have hl64 := kC (n := n) (k := 64) hn
  refine z3 (c := ((z9 n + 7 : Nat) : Int)) rfl rfl (by rw [zy (by omega)]; omega) rfl ?_
  refine zGp (c := (yr n : Int)) rfl rfl (by omega) (by rw [Int.tdiv_eq_ediv_of_nonneg (by omega)]; unfold yr; rw [zy (by omega)]; omega) rfl ?_
  refine zK rfl ?_
  refine zA ?_
  -- region 2  codec.go:15
  refine xD (fun (v6 : Value) => [(1, .int .u64 n), (5, .int .i64 (yr n : Nat)), (6, v6)]) (fun _ => True) (fun v6 => [zAP v6 (bs ++ [UInt8.ofNat (yr n)])]) ?_ (fun v6 g _ => ?_)
  · refine zW ?_
    refine zD rfl ?_
    refine zAa (by kernel_rfl) rfl rfl (fun w' hw => ?_)
    refine (zDu v bs w' (hw.old (Res.sl _ _ _) hv (by simp)) (by omega)).mono ?_
    intro v13 w1 hO
    have hO' := hw.frame0 hO
    rcases (hO'.holds 0 _ rfl).2 with ⟨rfl, hz⟩ | ⟨g, cap, cur, rfl, -, hg, hcap, hmax, -, -⟩
    · have hbs : bs = [] := List.eq_nil_of_length_eq_zero hz
      subst hbs
      refine (?_ : CL _ _ _ _ _ _ (Own w [] [zAP (.slice none 0 0) []])) w1 hO'
      refine zAa (by kernel_rfl) rfl rfl (fun w' hw => ?_)
      refine (zBx none 0 0 w' (by omega)).mono ?_
      rintro _ w2 ⟨rfl, hO⟩
      refine (?_ : CL _ _ _ _ _ _ (Own w [] [zAP (.slice none 0 0) []])) w2 (by simpa using hw.frame0 hO)
      refine zD rfl ?_
      refine xe (by kernel_rfl) rfl (zJr (by omega)) rfl ?_ (by kernel_rfl)
      refine z4 (e := T8) (sz := 1) (vs := [.int .u8 (yr n)]) (by kernel_rfl) rfl rfl (by simp [Value.cells]) (by decide) rfl (fun b17 => ?_)
      refine zDb (by' := 1) (m := 1) 0 zHu rfl rfl rfl (fun w hw => Vec.sl (hw.holds 1 _ rfl)) (by simp [Value.cells]) (by simp [Value.cells, cell1]) (by simp) (by rw [yz]; simp) rfl (fun v18 => ?_)
      refine zK rfl ?_
      refine zj (fun w hw => ⟨v18, ⟨rfl, rfl, rfl, trivial⟩, trivial, ?_⟩)
      have h1 := hw.one 0 rfl
      have e : vb (UInt8.ofNat (yr n)) = .int .u8 (yr n) := by rw [zBJ, Nat.mod_eq_of_lt (by omega)]
      simpa [zAP, Value.cells, e] using h1
    · refine (?_ : CL _ _ _ _ _ _ (Own w [] [zAP (.slice (some ⟨g, 0, none⟩) bs.length cap) bs])) w1 hO'
      refine zAa (by kernel_rfl) rfl rfl (fun w' hw => ?_)
      refine (zBx _ bs.length cap w' hcap).mono ?_
      rintro _ w2 ⟨rfl, hO⟩
      have hO2 := hw.frame0 hO
      rw [List.append_nil] at hO2
      refine (?_ : CL _ _ _ _ _ _ (Own w [] [zAP (.slice (some ⟨g, 0, none⟩) bs.length cap) bs])) w2 hO2
      refine zD rfl ?_
      refine xe (by kernel_rfl) rfl (zJr (by omega)) rfl ?_ (by kernel_rfl)
      refine z4 (e := T8) (sz := 1) (vs := [.int .u8 (yr n)]) (by kernel_rfl) rfl rfl (by simp [Value.cells]) (by decide) rfl (fun b17 => ?_)
      refine zI4 (by' := 1) (m := 1) (cs := bs.map vb) zHu rfl (fun w hw => ?_) (by simp) rfl (fun w hw => Vec.sl (hw.holds 1 _ rfl)) (by simp [Value.cells]) (by omega) (by omega) (by rw [yz]; omega) rfl (fun v18 => ?_)
      · rcases Vec.sl (hw.holds 0 _ rfl) with ⟨a1, e, e1, e2⟩ | ⟨b1, off1, cap1, e, k1, k2, k3, k4⟩
        · exact .inl ⟨_, by rw [e1], e1, e2⟩
        · simp at e
          obtain ⟨⟨rfl, rfl⟩, rfl⟩ := e
          by_cases hz : bs.length = 0
          · exact .inl ⟨_, by rw [hz], hz, by simpa using hz⟩
          · exact .inr ⟨_, _, _, rfl, ⟨Nat.le_refl _, by omega⟩, by have := k1.1; omega, k3, k4⟩
      refine zK rfl ?_
      refine zj (fun w hw => ⟨v18, ⟨rfl, rfl, rfl, trivial⟩, trivial, ?_⟩)
      have h1 := hw.one 2 rfl
      have e : vb (UInt8.ofNat (yr n)) = .int .u8 (yr n) := by rw [zBJ, Nat.mod_eq_of_lt (by omega)]
      simpa [zAP, Value.cells, e] using h1
  refine zQ ?_
  -- region 3  codec.go:16
  refine zB ?_
  refine zD rfl ?_
  refine kE rfl rfl (zy (by omega)) rfl ?_
  refine zK rfl ?_
  refine zA ?_
  refine zc ?_
  refine kY (fun (v6 : Value) (pre : List UInt8) (j : Nat) => [(1, .int .u64 n), (6, v6), (7, .int .i64 ((j : Int) - 1))]) (fun _ pre j => pre ++ be n j = be n (yr n) ∧ j ≤ yr n ∧ pre.length ≤ 8)
    (fun v6 pre _ => [zAP v6 (bs ++ UInt8.ofNat (yr n) :: pre)]) (fun _ _ j => j) (fun w hw => ⟨v6, [], yr n, ⟨rfl, rfl, rfl, trivial⟩, ⟨rfl, Nat.le_refl _, by simp⟩, hw⟩) (fun v6 pre j g2 hs => ?_)
  obtain ⟨h1, h2, h3⟩ := hs
  have hpl : pre.length + j = yr n := by have := congrArg List.length h1; simpa [zAR] using this
  refine zQ ?_
  -- region 4  codec.go:16
  refine zB ?_
  refine zD rfl ?_
  refine kK rfl rfl rfl ?_
  refine zA ?_
  refine zf rfl (fun c1 => ?_) (fun c1 => ?_)
  · refine zR ?_
    obtain ⟨j, rfl⟩ : ∃ i, j = i + 1 := ⟨j - 1, by omega⟩
    refine zQ ?_
    refine zc ?_
    -- region 6  codec.go:17
    refine zW ?_
    refine zD rfl ?_
    refine zD rfl ?_
    refine zD rfl ?_
    refine zHk (c := ((8 * j : Nat) : Int)) rfl rfl (by rw [zy (by omega)]; omega) rfl ?_
    have hfd : (n : Int).fdiv (2 ^ (min ((8 * j : Nat) : Int).toNat IntKind.u64.bits)) = ((n / 2 ^ (8 * j) : Nat) : Int) := by
      have e1 : min ((8 * j : Nat) : Int).toNat IntKind.u64.bits = 8 * j := by simp only [IntKind.bits]; omega
      have e2 : (2 : Int) ^ (8 * j) = ((2 ^ (8 * j) : Nat) : Int) := by norm_cast
      rw [e1, e2, Int.fdiv_eq_ediv_of_nonneg _ (Int.natCast_nonneg _)]
      norm_cast
    refine zEx rfl rfl (by omega) hfd rfl ?_
    refine xe (c := ((n / 2 ^ (8 * j) % 256 : Nat) : Int)) (by kernel_rfl) rfl (by rw [wu8]; norm_cast) rfl ?_ (by kernel_rfl)
    refine z4 (e := T8) (sz := 1) (vs := [.int .u8 ((n / 2 ^ (8 * j) % 256 : Nat) : Int)]) (by kernel_rfl) rfl rfl (by simp [Value.cells]) (by decide) rfl (fun b31 => ?_)
    refine zDb (by' := 1) (m := 1) 0 zHu rfl rfl rfl (fun w hw => Vec.sl (hw.holds 1 _ rfl)) (by simp [Value.cells]) (by simp [Value.cells, cell1]) (by simp; omega) (by rw [yz]; simp; omega) rfl (fun v32 => ?_)
    refine zK rfl ?_
    refine zA ?_
    -- region 5  codec.go:16
    refine zW ?_
    refine zD rfl ?_
    refine kE (c := (j : Int) - 1) rfl rfl (by rw [zy (by omega)]; omega) rfl ?_
    refine zK rfl ?_
    refine zj (fun w hw => ⟨v32, pre ++ [UInt8.ofNat (n / 2 ^ (8 * j))], j, ⟨rfl, rfl, rfl, trivial⟩, ⟨?_, by omega, by simp; omega⟩, ?_, Nat.lt_succ_self j⟩)
    · rw [← h1]; simp [be]
    · have h4 := hw.one 0 rfl
      simpa [zAP, Value.cells, zBJ, Nat.add_assoc] using h4
  · refine yQ rfl ?_
    have hj : j = 0 := by omega
    subst hj
    -- region 7  codec.go:19
    refine zB ?_
    refine zD rfl ?_
    refine zK rfl ?_
    refine zA ?_
    refine zY (yD rfl rfl (fun w hw => ?_))
    have e : pre = be n (yr n) := by simpa [be] using h1
    subst e
    exact hw
end Go.Proofs.YtkkeknmkipkbmaaGreat
