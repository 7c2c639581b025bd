import Derived.Test.YtcdiehplbmkmeaaGreatBytes
import Derived.Test.YtcdiehplbmkmeaaGreatProg
set_option linter.unusedSectionVars false
set_option linter.unusedSimpArgs false
set_option linter.unusedVariables false
set_option maxRecDepth 10000
namespace Go.Proofs.YtcdiehplbmkmeaaGreat
open Go Go.Sc Go.Proofs
theorem zBc (n : Nat) (hn : n < 18446744073709551616) (w : World) :
    Rets Tryz.prog 88 #[.int .u64 n] w fun v w' => v = .int .i64 (zi n) ∧ Own w [] [] w' := by
  refine xe (args := [.int .u64 n]) Tryz.func88 rfl Tryz.ntmps88 rfl (Own.start w) ?_
  refine zB ?_
  refine zH rfl ?_
  refine zA ?_
  refine j9 (Nat × Nat) (fun s => [(0, .int .u64 s.1), (2, .int .i64 s.2)]) (fun s => zi n = zi s.1 + s.2 ∧ s.1 < 4294967296 ∧ s.2 ≤ 32) (fun _ => []) ?_ (fun s g ⟨h1, h2, h3⟩ => ?_)
  · refine zB ?_
    refine zC rfl ?_
    refine yU rfl rfl rfl ?_
    refine zA ?_
    refine zV rfl (fun c1 => ?_) (fun c1 => ?_)
    · refine zB ?_
      refine zC rfl ?_
      refine zFD (c := ((n / 4294967296 : Nat) : Int)) rfl rfl (by omega) (by show (n : Int).fdiv 4294967296 = _; rw [Int.fdiv_eq_ediv_of_nonneg _ (by omega)]; omega) rfl ?_
      refine zH rfl ?_
      refine zA ?_
      refine zY ?_
      refine zH rfl ?_
      have hb : zi n = zi (n / 4294967296) + 32 := jE (k := 32) (by omega)
      exact zd (fun w hw => ⟨(n / 4294967296, 0 + 32), ⟨rfl, rfl, trivial⟩, ⟨by show zi n = zi (n / 4294967296) + (0 + 32); omega, by omega, by omega⟩, hw⟩)
    · exact xQ (fun w hw => ⟨(n, 0), ⟨rfl, rfl, trivial⟩, ⟨by show zi n = zi n + 0; omega, by omega, by omega⟩, hw⟩)
  refine j9 (Nat × Nat) (fun s => [(0, .int .u64 s.1), (2, .int .i64 s.2)]) (fun s => zi n = zi s.1 + s.2 ∧ s.1 < 65536 ∧ s.2 ≤ 48) (fun _ => []) ?_ (fun s g ⟨h1, h2, h3⟩ => ?_)
  · refine zB ?_
    refine zC rfl ?_
    refine yU rfl rfl rfl ?_
    refine zA ?_
    refine zV rfl (fun c1 => ?_) (fun c1 => ?_)
    · refine zB ?_
      refine zC rfl ?_
      refine zFD (c := ((s.1 / 65536 : Nat) : Int)) rfl rfl (by omega) (by show (s.1 : Int).fdiv 65536 = _; rw [Int.fdiv_eq_ediv_of_nonneg _ (by omega)]; omega) rfl ?_
      refine zH rfl ?_
      refine zA ?_
      refine zY ?_
      refine zC rfl ?_
      refine zn (c := ((s.2 + 16 : Nat) : Int)) rfl rfl (by rw [zh (by omega)]; omega) rfl ?_
      refine zH rfl ?_
      have hb : zi s.1 = zi (s.1 / 65536) + 16 := jE (k := 16) (by omega)
      exact zd (fun w hw => ⟨(s.1 / 65536, s.2 + 16), ⟨rfl, rfl, trivial⟩, ⟨by show zi n = zi (s.1 / 65536) + (s.2 + 16); omega, by omega, by omega⟩, hw⟩)
    · exact xQ (fun w hw => ⟨(s.1, s.2), ⟨rfl, rfl, trivial⟩, ⟨by show zi n = zi s.1 + s.2; omega, by omega, by omega⟩, hw⟩)
  refine j9 (Nat × Nat) (fun s => [(0, .int .u64 s.1), (2, .int .i64 s.2)]) (fun s => zi n = zi s.1 + s.2 ∧ s.1 < 256 ∧ s.2 ≤ 56) (fun _ => []) ?_ (fun s g ⟨h1, h2, h3⟩ => ?_)
  · refine zB ?_
    refine zC rfl ?_
    refine yU rfl rfl rfl ?_
    refine zA ?_
    refine zV rfl (fun c1 => ?_) (fun c1 => ?_)
    · refine zB ?_
      refine zC rfl ?_
      refine zFD (c := ((s.1 / 256 : Nat) : Int)) rfl rfl (by omega) (by show (s.1 : Int).fdiv 256 = _; rw [Int.fdiv_eq_ediv_of_nonneg _ (by omega)]; omega) rfl ?_
      refine zH rfl ?_
      refine zA ?_
      refine zY ?_
      refine zC rfl ?_
      refine zn (c := ((s.2 + 8 : Nat) : Int)) rfl rfl (by rw [zh (by omega)]; omega) rfl ?_
      refine zH rfl ?_
      have hb : zi s.1 = zi (s.1 / 256) + 8 := jE (k := 8) (by omega)
      exact zd (fun w hw => ⟨(s.1 / 256, s.2 + 8), ⟨rfl, rfl, trivial⟩, ⟨by show zi n = zi (s.1 / 256) + (s.2 + 8); omega, by omega, by omega⟩, hw⟩)
    · exact xQ (fun w hw => ⟨(s.1, s.2), ⟨rfl, rfl, trivial⟩, ⟨by show zi n = zi s.1 + s.2; omega, by omega, by omega⟩, hw⟩)
  refine zB ?_
  refine zC rfl ?_
  refine zC rfl ?_
  refine yp rfl rfl (zBF (by omega)) rfl ?_ (by kernel_rfl)
  have hl : s.1 < (ByteArray.mk lenTabL.toArray).size := by rw [show (ByteArray.mk lenTabL.toArray).size = 256 by kernel_rfl]; exact h2
  refine zKx (s := ⟨lenTabL.toArray⟩) (by kernel_rfl) (by kernel_rfl) rfl rfl hl rfl ?_
  have ht : ((ByteArray.mk lenTabL.toArray)[s.1]).toNat = zi s.1 := by
    have := zFf ⟨s.1, h2⟩
    rw [List.getElem?_eq_getElem (show s.1 < lenTabL.length from h2)] at this
    exact Option.some.inj this
  have hle := xO (n := s.1) (k := 8) h2
  refine yp (c := (zi s.1 : Int)) (by kernel_rfl) rfl (by rw [ht]; exact zh (by omega)) rfl ?_ (by kernel_rfl)
  refine zn (c := (zi n : Int)) rfl rfl (by rw [zh (by omega), h1]; omega) rfl ?_
  refine zH rfl ?_
  refine zA ?_
  exact zN (z4 rfl rfl (fun w hw => ⟨rfl, hw⟩))
abbrev T8 : Nat := 5
def BSl (w : World) (v : Value) (bs : List UInt8) : Prop := Sl w v bs.length (bs.map vb)
def zAp (v : Value) (bs : List UInt8) : Res := Res.vec T8 1 v bs.length (bs.map vb)
theorem zIy : slT Tryz.prog 46 = some (T8, 1, 1) := by kernel_rfl
theorem zER (v : Value) (bs : List UInt8) (w : World) (hv : BSl w v bs) (hb : bs.length ≤ 1099511627776) :
    Rets Tryz.prog 97 #[v] w fun v' w' => Own w [] [zAp v' bs] w' := by
  have hs := hv
  obtain ⟨a, cap, rfl, h1, h2, ha⟩ := Sl.shape hv
  cases a with
  | none =>
    have hbs : bs = [] := by
      cases bs with
      | nil => rfl
      | cons x xs => obtain ⟨b, off, e⟩ := ha (by simp); cases e
    subst hbs
    refine xe (args := [.slice none 0 cap]) Tryz.func97 rfl Tryz.ntmps97 rfl (Own.start w) ?_
    refine zB ?_
    refine zH rfl ?_
    refine zA ?_
    refine zL ?_
    refine zB ?_
    refine zC rfl ?_
    refine zGE (by kernel_rfl) rfl rfl rfl ?_
    refine zA ?_
    refine zE8 rfl ?_
    refine zB ?_
    refine zH rfl ?_
    refine zA ?_
    exact zN (z4 (v := .slice none 0 0) rfl rfl (fun w hw => by simpa [zAp] using yZ hw T8 1))
  | some a =>
    refine xe (args := [.slice (some a) bs.length cap]) Tryz.func97 rfl Tryz.ntmps97 rfl (Own.start w) ?_
    refine zB ?_
    refine zH rfl ?_
    refine zA ?_
    refine zL ?_
    refine zB ?_
    refine zC rfl ?_
    refine zGE (by kernel_rfl) rfl rfl rfl ?_
    refine zA ?_
    refine xt rfl ?_
    refine zJ ?_
    refine zB ?_
    refine yh (e := T8) (sz := 1) (vs := []) (by kernel_rfl) rfl rfl (by simp) (by decide) rfl (fun b5 => ?_)
    refine zC rfl ?_
    refine zDj (by' := 1) (news := bs.map vb) (m := bs.length) 0 zIy rfl rfl rfl (fun w' hw => hw.old (Res.sl _ _ _) hs (by simp)) (by simp) (zAl bs) (by omega) (by rw [yg]; omega) rfl (fun v7 => ?_)
    refine zH rfl ?_
    refine zA ?_
    exact zN (z4 (v := v7) rfl rfl (fun w hw => by simpa [zAp] using hw))
theorem zCH (a : Option Addr) (n cap : Nat) (w : World) (hc : n ≤ cap) :
    Rets Tryz.prog 96 #[.slice a n cap] w fun v' w' => v' = .slice a n n ∧ Own w [] [] w' := by
  refine xe (args := [.slice a n cap]) Tryz.func96 rfl Tryz.ntmps96 rfl (Own.start w) ?_
  refine zB ?_
  refine zH rfl ?_
  refine zA ?_
  refine zB ?_
  refine zC rfl ?_
  refine zC rfl ?_
  refine zJc (by kernel_rfl) rfl rfl ?_
  refine zC rfl ?_
  refine zJc (by kernel_rfl) rfl rfl ?_
  refine zKN (sz := 1) (l := 0) (h := n) (m := n) (by kernel_rfl) rfl rfl ⟨.i64, rfl⟩ ⟨.i64, rfl⟩ (by omega) (by omega) hc rfl ?_
  refine zH rfl ?_
  refine zA ?_
  refine zN (z4 rfl rfl (fun w hw => ⟨?_, hw⟩))
  show zAG a cap 0 n n 1 = _
  cases a <;> simp [zAG, Addr.add]
theorem zDw (v : Value) (bs : List UInt8) (n : Nat) (hn : n < 18446744073709551616) (w : World) (hv : BSl w v bs) (hb : bs.length ≤ 1000000000000) :
    Rets Tryz.prog 74 #[v, .int .u64 n] w fun v' w' => Own w [] [zAp v' (bs ++ num n)] w' := by
  have hk := zBr hn
  refine xe (args := [v, .int .u64 n]) Tryz.func74 rfl Tryz.ntmps74 rfl (Own.start w) ?_
  refine zB ?_
  refine zH rfl ?_
  refine zA ?_
  -- region 1  codec.go:14
  refine zB ?_
  refine zC rfl ?_
  refine j7 (by kernel_rfl) rfl rfl (fun w' hw => ?_)
  refine (zBc n hn w').mono ?_
  rintro _ w1 ⟨rfl, hO⟩
  refine (?_ : CL _ _ _ _ _ _ (Own w [] [])) w1 (by simpa using hw.frame0 hO)
  have hl64 := xO (n := n) (k := 64) hn
  refine zn (c := ((zi n + 7 : Nat) : Int)) rfl rfl (by rw [zh (by omega)]; omega) rfl ?_
  refine xi (c := (yc n : Int)) rfl rfl (by omega) (by rw [Int.tdiv_eq_ediv_of_nonneg (by omega)]; unfold yc; rw [zh (by omega)]; omega) rfl ?_
  refine zH rfl ?_
  refine zA ?_
  -- region 2  codec.go:15
  refine ye (fun (v6 : Value) => [(1, .int .u64 n), (5, .int .i64 (yc n : Nat)), (6, v6)]) (fun _ => True) (fun v6 => [zAp v6 (bs ++ [UInt8.ofNat (yc n)])]) ?_ (fun v6 g _ => ?_)
  · refine zY ?_
    refine zC rfl ?_
    refine j7 (by kernel_rfl) rfl rfl (fun w' hw => ?_)
    refine (zER v bs w' (hw.old (Res.sl _ _ _) hv (by simp)) (by omega)).mono ?_
    intro v13 w1 hO
    have hO' := hw.frame0 hO
    rcases (hO'.holds 0 _ rfl).2 with ⟨rfl, hz⟩ | ⟨g, cap, cur, rfl, -, hg, hcap, hmax, -, -⟩
    · have hbs : bs = [] := List.eq_nil_of_length_eq_zero hz
      subst hbs
      refine (?_ : CL _ _ _ _ _ _ (Own w [] [zAp (.slice none 0 0) []])) w1 hO'
      refine j7 (by kernel_rfl) rfl rfl (fun w' hw => ?_)
      refine (zCH none 0 0 w' (by omega)).mono ?_
      rintro _ w2 ⟨rfl, hO⟩
      refine (?_ : CL _ _ _ _ _ _ (Own w [] [zAp (.slice none 0 0) []])) w2 (by simpa using hw.frame0 hO)
      refine zC rfl ?_
      refine yp (by kernel_rfl) rfl (zBF (by omega)) rfl ?_ (by kernel_rfl)
      refine yh (e := T8) (sz := 1) (vs := [.int .u8 (yc n)]) (by kernel_rfl) rfl rfl (by simp [Value.cells]) (by decide) rfl (fun b17 => ?_)
      refine zDj (by' := 1) (m := 1) 0 zIy rfl rfl rfl (fun w hw => Vec.sl (hw.holds 1 _ rfl)) (by simp [Value.cells]) (by simp [Value.cells, cell1]) (by simp) (by rw [yg]; simp) rfl (fun v18 => ?_)
      refine zH rfl ?_
      refine zd (fun w hw => ⟨v18, ⟨rfl, rfl, rfl, trivial⟩, trivial, ?_⟩)
      have h1 := hw.one 0 rfl
      have e : vb (UInt8.ofNat (yc n)) = .int .u8 (yc n) := by rw [zBn, Nat.mod_eq_of_lt (by omega)]
      simpa [zAp, Value.cells, e] using h1
    · refine (?_ : CL _ _ _ _ _ _ (Own w [] [zAp (.slice (some ⟨g, 0, none⟩) bs.length cap) bs])) w1 hO'
      refine j7 (by kernel_rfl) rfl rfl (fun w' hw => ?_)
      refine (zCH _ bs.length cap w' hcap).mono ?_
      rintro _ w2 ⟨rfl, hO⟩
      have hO2 := hw.frame0 hO
      rw [List.append_nil] at hO2
      refine (?_ : CL _ _ _ _ _ _ (Own w [] [zAp (.slice (some ⟨g, 0, none⟩) bs.length cap) bs])) w2 hO2
      refine zC rfl ?_
      refine yp (by kernel_rfl) rfl (zBF (by omega)) rfl ?_ (by kernel_rfl)
      refine yh (e := T8) (sz := 1) (vs := [.int .u8 (yc n)]) (by kernel_rfl) rfl rfl (by simp [Value.cells]) (by decide) rfl (fun b17 => ?_)
      refine zKE (by' := 1) (m := 1) (cs := bs.map vb) zIy rfl (fun w hw => ?_) (by simp) rfl (fun w hw => Vec.sl (hw.holds 1 _ rfl)) (by simp [Value.cells]) (by omega) (by omega) (by rw [yg]; omega) rfl (fun v18 => ?_)
      · rcases Vec.sl (hw.holds 0 _ rfl) with ⟨a1, e, e1, e2⟩ | ⟨b1, off1, cap1, e, k1, k2, k3, k4⟩
        · exact .inl ⟨_, by rw [e1], e1, e2⟩
        · simp at e
          obtain ⟨⟨rfl, rfl⟩, rfl⟩ := e
          by_cases hz : bs.length = 0
          · exact .inl ⟨_, by rw [hz], hz, by simpa using hz⟩
          · exact .inr ⟨_, _, _, rfl, ⟨Nat.le_refl _, by omega⟩, by have := k1.1; omega, k3, k4⟩
      refine zH rfl ?_
      refine zd (fun w hw => ⟨v18, ⟨rfl, rfl, rfl, trivial⟩, trivial, ?_⟩)
      have h1 := hw.one 2 rfl
      have e : vb (UInt8.ofNat (yc n)) = .int .u8 (yc n) := by rw [zBn, Nat.mod_eq_of_lt (by omega)]
      simpa [zAp, Value.cells, e] using h1
  refine zL ?_
  -- region 3  codec.go:16
  refine zB ?_
  refine zC rfl ?_
  refine yJ rfl rfl (zh (by omega)) rfl ?_
  refine zH rfl ?_
  refine zA ?_
  refine zW ?_
  refine ji (fun (v6 : Value) (pre : List UInt8) (j : Nat) => [(1, .int .u64 n), (6, v6), (7, .int .i64 ((j : Int) - 1))]) (fun _ pre j => pre ++ be n j = be n (yc n) ∧ j ≤ yc n ∧ pre.length ≤ 8)
    (fun v6 pre _ => [zAp v6 (bs ++ UInt8.ofNat (yc n) :: pre)]) (fun _ _ j => j) (fun w hw => ⟨v6, [], yc n, ⟨rfl, rfl, rfl, trivial⟩, ⟨rfl, Nat.le_refl _, by simp⟩, hw⟩) (fun v6 pre j g2 hs => ?_)
  obtain ⟨h1, h2, h3⟩ := hs
  have hpl : pre.length + j = yc n := by have := congrArg List.length h1; simpa [zAr] using this
  refine zL ?_
  -- region 4  codec.go:16
  refine zB ?_
  refine zC rfl ?_
  refine yU rfl rfl rfl ?_
  refine zA ?_
  refine zV rfl (fun c1 => ?_) (fun c1 => ?_)
  · refine zJ ?_
    obtain ⟨j, rfl⟩ : ∃ i, j = i + 1 := ⟨j - 1, by omega⟩
    refine zL ?_
    refine zW ?_
    -- region 6  codec.go:17
    refine zY ?_
    refine zC rfl ?_
    refine zC rfl ?_
    refine zC rfl ?_
    refine zBY (c := ((8 * j : Nat) : Int)) rfl rfl (by rw [zh (by omega)]; omega) rfl ?_
    have hfd : (n : Int).fdiv (2 ^ (min ((8 * j : Nat) : Int).toNat IntKind.u64.bits)) = ((n / 2 ^ (8 * j) : Nat) : Int) := by
      have e1 : min ((8 * j : Nat) : Int).toNat IntKind.u64.bits = 8 * j := by simp only [IntKind.bits]; omega
      have e2 : (2 : Int) ^ (8 * j) = ((2 ^ (8 * j) : Nat) : Int) := by norm_cast
      rw [e1, e2, Int.fdiv_eq_ediv_of_nonneg _ (Int.natCast_nonneg _)]
      norm_cast
    refine zFD rfl rfl (by omega) hfd rfl ?_
    refine yp (c := ((n / 2 ^ (8 * j) % 256 : Nat) : Int)) (by kernel_rfl) rfl (by rw [wu8]; norm_cast) rfl ?_ (by kernel_rfl)
    refine yh (e := T8) (sz := 1) (vs := [.int .u8 ((n / 2 ^ (8 * j) % 256 : Nat) : Int)]) (by kernel_rfl) rfl rfl (by simp [Value.cells]) (by decide) rfl (fun b31 => ?_)
    refine zDj (by' := 1) (m := 1) 0 zIy rfl rfl rfl (fun w hw => Vec.sl (hw.holds 1 _ rfl)) (by simp [Value.cells]) (by simp [Value.cells, cell1]) (by simp; omega) (by rw [yg]; simp; omega) rfl (fun v32 => ?_)
    refine zH rfl ?_
    refine zA ?_
    -- region 5  codec.go:16
    refine zY ?_
    refine zC rfl ?_
    refine yJ (c := (j : Int) - 1) rfl rfl (by rw [zh (by omega)]; omega) rfl ?_
    refine zH rfl ?_
    refine zd (fun w hw => ⟨v32, pre ++ [UInt8.ofNat (n / 2 ^ (8 * j))], j, ⟨rfl, rfl, rfl, trivial⟩, ⟨?_, by omega, by simp; omega⟩, ?_, Nat.lt_succ_self j⟩)
    · rw [← h1]; simp [be]
    · have h4 := hw.one 0 rfl
      simpa [zAp, Value.cells, zBn, Nat.add_assoc] using h4
  · refine yB rfl ?_
    have hj : j = 0 := by omega
    subst hj
    -- region 7  codec.go:19
    refine zB ?_
    refine zC rfl ?_
    refine zH rfl ?_
    refine zA ?_
    refine zN (z4 rfl rfl (fun w hw => ?_))
    have e : pre = be n (yc n) := by simpa [be] using h1
    subst e
    exact hw
end Go.Proofs.YtcdiehplbmkmeaaGreat
