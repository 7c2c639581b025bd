import Derived.Test.YtkkeknmkipkbmaaGreatBytes
import Derived.Test.YtkkeknmkipkbmaaGreatProg
set_option linter.unusedSectionVars false
set_option linter.unusedSimpArgs false
set_option linter.unusedVariables false
set_option maxRecDepth 10000
namespace Go.Proofs.YtkkeknmkipkbmaaGreat
open Go Go.Sc Go.Proofs
theorem jN (n : Nat) (hn : n < 18446744073709551616) (w : World) :
    Rets Tryz.prog 188 #[.int .u64 n] w fun v w' => v = .int .i64 (zb n) ∧ Own w [] [] w' := by
  refine yc (args := [.int .u64 n]) Tryz.func188 rfl Tryz.ntmps188 rfl (Own.start w) ?_
  refine zB ?_
  refine zH rfl ?_
  refine zA ?_
  refine kw (Nat × Nat) (fun s => [(0, .int .u64 s.1), (2, .int .i64 s.2)]) (fun s => zb n = zb s.1 + s.2 ∧ s.1 < 4294967296 ∧ s.2 ≤ 32) (fun _ => []) ?_ (fun s g ⟨h1, h2, h3⟩ => ?_)
  · refine zB ?_
    refine zC rfl ?_
    refine xl rfl rfl rfl ?_
    refine zA ?_
    refine zV rfl (fun c1 => ?_) (fun c1 => ?_)
    · refine zB ?_
      refine zC rfl ?_
      refine zBa (c := ((n / 4294967296 : Nat) : Int)) rfl rfl (by omega) (by show (n : Int).fdiv 4294967296 = _; rw [Int.fdiv_eq_ediv_of_nonneg _ (by omega)]; omega) rfl ?_
      refine zH rfl ?_
      refine zA ?_
      refine zZ ?_
      refine zH rfl ?_
      have hb : zb n = zb (n / 4294967296) + 32 := xL (k := 32) (by omega)
      exact zl (fun w hw => ⟨(n / 4294967296, 0 + 32), ⟨rfl, rfl, trivial⟩, ⟨by show zb n = zb (n / 4294967296) + (0 + 32); omega, by omega, by omega⟩, hw⟩)
    · exact kG (fun w hw => ⟨(n, 0), ⟨rfl, rfl, trivial⟩, ⟨by show zb n = zb n + 0; omega, by omega, by omega⟩, hw⟩)
  refine kw (Nat × Nat) (fun s => [(0, .int .u64 s.1), (2, .int .i64 s.2)]) (fun s => zb n = zb s.1 + s.2 ∧ s.1 < 65536 ∧ s.2 ≤ 48) (fun _ => []) ?_ (fun s g ⟨h1, h2, h3⟩ => ?_)
  · refine zB ?_
    refine zC rfl ?_
    refine xl rfl rfl rfl ?_
    refine zA ?_
    refine zV rfl (fun c1 => ?_) (fun c1 => ?_)
    · refine zB ?_
      refine zC rfl ?_
      refine zBa (c := ((s.1 / 65536 : Nat) : Int)) rfl rfl (by omega) (by show (s.1 : Int).fdiv 65536 = _; rw [Int.fdiv_eq_ediv_of_nonneg _ (by omega)]; omega) rfl ?_
      refine zH rfl ?_
      refine zA ?_
      refine zZ ?_
      refine zC rfl ?_
      refine zu (c := ((s.2 + 16 : Nat) : Int)) rfl rfl (by rw [zo (by omega)]; omega) rfl ?_
      refine zH rfl ?_
      have hb : zb s.1 = zb (s.1 / 65536) + 16 := xL (k := 16) (by omega)
      exact zl (fun w hw => ⟨(s.1 / 65536, s.2 + 16), ⟨rfl, rfl, trivial⟩, ⟨by show zb n = zb (s.1 / 65536) + (s.2 + 16); omega, by omega, by omega⟩, hw⟩)
    · exact kG (fun w hw => ⟨(s.1, s.2), ⟨rfl, rfl, trivial⟩, ⟨by show zb n = zb s.1 + s.2; omega, by omega, by omega⟩, hw⟩)
  refine kw (Nat × Nat) (fun s => [(0, .int .u64 s.1), (2, .int .i64 s.2)]) (fun s => zb n = zb s.1 + s.2 ∧ s.1 < 256 ∧ s.2 ≤ 56) (fun _ => []) ?_ (fun s g ⟨h1, h2, h3⟩ => ?_)
  · refine zB ?_
    refine zC rfl ?_
    refine xl rfl rfl rfl ?_
    refine zA ?_
    refine zV rfl (fun c1 => ?_) (fun c1 => ?_)
    · refine zB ?_
      refine zC rfl ?_
      refine zBa (c := ((s.1 / 256 : Nat) : Int)) rfl rfl (by omega) (by show (s.1 : Int).fdiv 256 = _; rw [Int.fdiv_eq_ediv_of_nonneg _ (by omega)]; omega) rfl ?_
      refine zH rfl ?_
      refine zA ?_
      refine zZ ?_
      refine zC rfl ?_
      refine zu (c := ((s.2 + 8 : Nat) : Int)) rfl rfl (by rw [zo (by omega)]; omega) rfl ?_
      refine zH rfl ?_
      have hb : zb s.1 = zb (s.1 / 256) + 8 := xL (k := 8) (by omega)
      exact zl (fun w hw => ⟨(s.1 / 256, s.2 + 8), ⟨rfl, rfl, trivial⟩, ⟨by show zb n = zb (s.1 / 256) + (s.2 + 8); omega, by omega, by omega⟩, hw⟩)
    · exact kG (fun w hw => ⟨(s.1, s.2), ⟨rfl, rfl, trivial⟩, ⟨by show zb n = zb s.1 + s.2; omega, by omega, by omega⟩, hw⟩)
  refine zB ?_
  refine zC rfl ?_
  refine zC rfl ?_
  refine yf rfl rfl (zD8 (by omega)) rfl ?_ (by kernel_rfl)
  have hl : s.1 < (ByteArray.mk lenTabL.toArray).size := by rw [show (ByteArray.mk lenTabL.toArray).size = 256 by kernel_rfl]; exact h2
  refine zFO (s := ⟨lenTabL.toArray⟩) (by kernel_rfl) (by kernel_rfl) rfl rfl hl rfl ?_
  have ht : ((ByteArray.mk lenTabL.toArray)[s.1]).toNat = zb s.1 := by
    have := zBt ⟨s.1, h2⟩
    rw [List.getElem?_eq_getElem (show s.1 < lenTabL.length from h2)] at this
    exact Option.some.inj this
  have hle := yz (n := s.1) (k := 8) h2
  refine yf (c := (zb s.1 : Int)) (by kernel_rfl) rfl (by rw [ht]; exact zo (by omega)) rfl ?_ (by kernel_rfl)
  refine zu (c := (zb n : Int)) rfl rfl (by rw [zo (by omega), h1]; omega) rfl ?_
  refine zH rfl ?_
  refine zA ?_
  exact zS (zx rfl rfl (fun w hw => ⟨rfl, hw⟩))
abbrev T8 : Nat := 5
def BSl (w : World) (v : Value) (bs : List UInt8) : Prop := Sl w v bs.length (bs.map vb)
def kM (v : Value) (bs : List UInt8) : Res := Res.vec T8 1 v bs.length (bs.map vb)
theorem zDX : slT Tryz.prog 36 = some (T8, 1, 1) := by kernel_rfl
theorem zAu (v : Value) (bs : List UInt8) (w : World) (hv : BSl w v bs) (hb : bs.length ≤ 1099511627776) :
    Rets Tryz.prog 40 #[v] w fun v' w' => Own w [] [kM v' bs] w' := by
  have hs := hv
  obtain ⟨a, cap, rfl, h1, h2, ha⟩ := Sl.shape hv
  cases a with
  | none =>
    have hbs : bs = [] := by
      cases bs with
      | nil => rfl
      | cons x xs => obtain ⟨b, off, e⟩ := ha (by simp); cases e
    subst hbs
    refine yc (args := [.slice none 0 cap]) Tryz.func40 rfl Tryz.ntmps40 rfl (Own.start w) ?_
    refine zB ?_
    refine zH rfl ?_
    refine zA ?_
    refine zQ ?_
    refine zB ?_
    refine zC rfl ?_
    refine zCx (by kernel_rfl) rfl rfl rfl ?_
    refine zA ?_
    refine xY rfl ?_
    refine zB ?_
    refine zH rfl ?_
    refine zA ?_
    exact zS (zx (v := .slice none 0 0) rfl rfl (fun w hw => by simpa [kM] using zz hw T8 1))
  | some a =>
    refine yc (args := [.slice (some a) bs.length cap]) Tryz.func40 rfl Tryz.ntmps40 rfl (Own.start w) ?_
    refine zB ?_
    refine zH rfl ?_
    refine zA ?_
    refine zQ ?_
    refine zB ?_
    refine zC rfl ?_
    refine zCx (by kernel_rfl) rfl rfl rfl ?_
    refine zA ?_
    refine xO rfl ?_
    refine zP ?_
    refine zB ?_
    refine zy (e := T8) (sz := 1) (vs := []) (by kernel_rfl) rfl rfl (by simp) (by decide) rfl (fun b5 => ?_)
    refine zC rfl ?_
    refine zAS (by' := 1) (news := bs.map vb) (m := bs.length) 0 zDX rfl rfl rfl (fun w' hw => hw.old (Res.sl _ _ _) hs (by simp)) (by simp) (xz bs) (by omega) (by rw [yJ]; omega) rfl (fun v7 => ?_)
    refine zH rfl ?_
    refine zA ?_
    exact zS (zx (v := v7) rfl rfl (fun w hw => by simpa [kM] using hw))
theorem ji (a : Option Addr) (n cap : Nat) (w : World) (hc : n ≤ cap) :
    Rets Tryz.prog 189 #[.slice a n cap] w fun v' w' => v' = .slice a n n ∧ Own w [] [] w' := by
  refine yc (args := [.slice a n cap]) Tryz.func189 rfl Tryz.ntmps189 rfl (Own.start w) ?_
  refine zB ?_
  refine zH rfl ?_
  refine zA ?_
  refine zB ?_
  refine zC rfl ?_
  refine zC rfl ?_
  refine kP (by kernel_rfl) rfl rfl ?_
  refine zC rfl ?_
  refine kP (by kernel_rfl) rfl rfl ?_
  refine zEU (sz := 1) (l := 0) (h := n) (m := n) (by kernel_rfl) rfl rfl ⟨.i64, rfl⟩ ⟨.i64, rfl⟩ (by omega) (by omega) hc rfl ?_
  refine zH rfl ?_
  refine zA ?_
  refine zS (zx rfl rfl (fun w hw => ⟨?_, hw⟩))
  show xN a cap 0 n n 1 = _
  cases a <;> simp [xN, Addr.add]
theorem zAW (v : Value) (bs : List UInt8) (n : Nat) (hn : n < 18446744073709551616) (w : World) (hv : BSl w v bs) (hb : bs.length ≤ 1000000000000) :
    Rets Tryz.prog 145 #[v, .int .u64 n] w fun v' w' => Own w [] [kM v' (bs ++ num n)] w' := by
  have hk := jG hn
  refine yc (args := [v, .int .u64 n]) Tryz.func145 rfl Tryz.ntmps145 rfl (Own.start w) ?_
  refine zB ?_
  refine zH rfl ?_
  refine zA ?_
  -- region 1  codec.go:14
  refine zB ?_
  refine zC rfl ?_
  refine kI (by kernel_rfl) rfl rfl (fun w' hw => ?_)
  refine (jN n hn w').mono ?_
  rintro _ w1 ⟨rfl, hO⟩
  refine (?_ : CL _ _ _ _ _ _ (Own w [] [])) w1 (by simpa using hw.frame0 hO)
  have hl64 := yz (n := n) (k := 64) hn
  refine zu (c := ((zb n + 7 : Nat) : Int)) rfl rfl (by rw [zo (by omega)]; omega) rfl ?_
  refine zCw (c := (z9 n : Int)) rfl rfl (by omega) (by rw [Int.tdiv_eq_ediv_of_nonneg (by omega)]; unfold z9; rw [zo (by omega)]; omega) rfl ?_
  refine zH rfl ?_
  refine zA ?_
  -- region 2  codec.go:15
  refine zC5 (fun (v6 : Value) => [(1, .int .u64 n), (5, .int .i64 (z9 n : Nat)), (6, v6)]) (fun _ => True) (fun v6 => [kM v6 (bs ++ [UInt8.ofNat (z9 n)])]) ?_ (fun v6 g _ => ?_)
  · refine zZ ?_
    refine zC rfl ?_
    refine kI (by kernel_rfl) rfl rfl (fun w' hw => ?_)
    refine (zAu v bs w' (hw.old (Res.sl _ _ _) hv (by simp)) (by omega)).mono ?_
    intro v13 w1 hO
    have hO' := hw.frame0 hO
    rcases (hO'.holds 0 _ rfl).2 with ⟨rfl, hz⟩ | ⟨g, cap, cur, rfl, -, hg, hcap, hmax, -, -⟩
    · have hbs : bs = [] := List.eq_nil_of_length_eq_zero hz
      subst hbs
      refine (?_ : CL _ _ _ _ _ _ (Own w [] [kM (.slice none 0 0) []])) w1 hO'
      refine kI (by kernel_rfl) rfl rfl (fun w' hw => ?_)
      refine (ji none 0 0 w' (by omega)).mono ?_
      rintro _ w2 ⟨rfl, hO⟩
      refine (?_ : CL _ _ _ _ _ _ (Own w [] [kM (.slice none 0 0) []])) w2 (by simpa using hw.frame0 hO)
      refine zC rfl ?_
      refine yf (by kernel_rfl) rfl (zD8 (by omega)) rfl ?_ (by kernel_rfl)
      refine zy (e := T8) (sz := 1) (vs := [.int .u8 (z9 n)]) (by kernel_rfl) rfl rfl (by simp [Value.cells]) (by decide) rfl (fun b17 => ?_)
      refine zAS (by' := 1) (m := 1) 0 zDX rfl rfl rfl (fun w hw => Vec.sl (hw.holds 1 _ rfl)) (by simp [Value.cells]) (by simp [Value.cells, cell1]) (by simp) (by rw [yJ]; simp) rfl (fun v18 => ?_)
      refine zH rfl ?_
      refine zl (fun w hw => ⟨v18, ⟨rfl, rfl, rfl, trivial⟩, trivial, ?_⟩)
      have h1 := hw.one 0 rfl
      have e : vb (UInt8.ofNat (z9 n)) = .int .u8 (z9 n) := by rw [jB, Nat.mod_eq_of_lt (by omega)]
      simpa [kM, Value.cells, e] using h1
    · refine (?_ : CL _ _ _ _ _ _ (Own w [] [kM (.slice (some ⟨g, 0, none⟩) bs.length cap) bs])) w1 hO'
      refine kI (by kernel_rfl) rfl rfl (fun w' hw => ?_)
      refine (ji _ bs.length cap w' hcap).mono ?_
      rintro _ w2 ⟨rfl, hO⟩
      have hO2 := hw.frame0 hO
      rw [List.append_nil] at hO2
      refine (?_ : CL _ _ _ _ _ _ (Own w [] [kM (.slice (some ⟨g, 0, none⟩) bs.length cap) bs])) w2 hO2
      refine zC rfl ?_
      refine yf (by kernel_rfl) rfl (zD8 (by omega)) rfl ?_ (by kernel_rfl)
      refine zy (e := T8) (sz := 1) (vs := [.int .u8 (z9 n)]) (by kernel_rfl) rfl rfl (by simp [Value.cells]) (by decide) rfl (fun b17 => ?_)
      refine zEZ (by' := 1) (m := 1) (cs := bs.map vb) zDX rfl (fun w hw => ?_) (by simp) rfl (fun w hw => Vec.sl (hw.holds 1 _ rfl)) (by simp [Value.cells]) (by omega) (by omega) (by rw [yJ]; omega) rfl (fun v18 => ?_)
      · rcases Vec.sl (hw.holds 0 _ rfl) with ⟨a1, e, e1, e2⟩ | ⟨b1, off1, cap1, e, k1, k2, k3, k4⟩
        · exact .inl ⟨_, by rw [e1], e1, e2⟩
        · simp at e
          obtain ⟨⟨rfl, rfl⟩, rfl⟩ := e
          by_cases hz : bs.length = 0
          · exact .inl ⟨_, by rw [hz], hz, by simpa using hz⟩
          · exact .inr ⟨_, _, _, rfl, ⟨Nat.le_refl _, by omega⟩, by have := k1.1; omega, k3, k4⟩
      refine zH rfl ?_
      refine zl (fun w hw => ⟨v18, ⟨rfl, rfl, rfl, trivial⟩, trivial, ?_⟩)
      have h1 := hw.one 2 rfl
      have e : vb (UInt8.ofNat (z9 n)) = .int .u8 (z9 n) := by rw [jB, Nat.mod_eq_of_lt (by omega)]
      simpa [kM, Value.cells, e] using h1
  refine zQ ?_
  -- region 3  codec.go:16
  refine zB ?_
  refine zC rfl ?_
  refine xW rfl rfl (zo (by omega)) rfl ?_
  refine zH rfl ?_
  refine zA ?_
  refine zY ?_
  refine xd (fun (v6 : Value) (pre : List UInt8) (j : Nat) => [(1, .int .u64 n), (6, v6), (7, .int .i64 ((j : Int) - 1))]) (fun _ pre j => pre ++ be n j = be n (z9 n) ∧ j ≤ z9 n ∧ pre.length ≤ 8)
    (fun v6 pre _ => [kM v6 (bs ++ UInt8.ofNat (z9 n) :: pre)]) (fun _ _ j => j) (fun w hw => ⟨v6, [], z9 n, ⟨rfl, rfl, rfl, trivial⟩, ⟨rfl, Nat.le_refl _, by simp⟩, hw⟩) (fun v6 pre j g2 hs => ?_)
  obtain ⟨h1, h2, h3⟩ := hs
  have hpl : pre.length + j = z9 n := by have := congrArg List.length h1; simpa [kK] using this
  refine zQ ?_
  -- region 4  codec.go:16
  refine zB ?_
  refine zC rfl ?_
  refine xl rfl rfl rfl ?_
  refine zA ?_
  refine zV rfl (fun c1 => ?_) (fun c1 => ?_)
  · refine zP ?_
    obtain ⟨j, rfl⟩ : ∃ i, j = i + 1 := ⟨j - 1, by omega⟩
    refine zQ ?_
    refine zY ?_
    -- region 6  codec.go:17
    refine zZ ?_
    refine zC rfl ?_
    refine zC rfl ?_
    refine zC rfl ?_
    refine zCI (c := ((8 * j : Nat) : Int)) rfl rfl (by rw [zo (by omega)]; omega) rfl ?_
    have hfd : (n : Int).fdiv (2 ^ (min ((8 * j : Nat) : Int).toNat IntKind.u64.bits)) = ((n / 2 ^ (8 * j) : Nat) : Int) := by
      have e1 : min ((8 * j : Nat) : Int).toNat IntKind.u64.bits = 8 * j := by simp only [IntKind.bits]; omega
      have e2 : (2 : Int) ^ (8 * j) = ((2 ^ (8 * j) : Nat) : Int) := by norm_cast
      rw [e1, e2, Int.fdiv_eq_ediv_of_nonneg _ (Int.natCast_nonneg _)]
      norm_cast
    refine zBa rfl rfl (by omega) hfd rfl ?_
    refine yf (c := ((n / 2 ^ (8 * j) % 256 : Nat) : Int)) (by kernel_rfl) rfl (by rw [wu8]; norm_cast) rfl ?_ (by kernel_rfl)
    refine zy (e := T8) (sz := 1) (vs := [.int .u8 ((n / 2 ^ (8 * j) % 256 : Nat) : Int)]) (by kernel_rfl) rfl rfl (by simp [Value.cells]) (by decide) rfl (fun b31 => ?_)
    refine zAS (by' := 1) (m := 1) 0 zDX rfl rfl rfl (fun w hw => Vec.sl (hw.holds 1 _ rfl)) (by simp [Value.cells]) (by simp [Value.cells, cell1]) (by simp; omega) (by rw [yJ]; simp; omega) rfl (fun v32 => ?_)
    refine zH rfl ?_
    refine zA ?_
    -- region 5  codec.go:16
    refine zZ ?_
    refine zC rfl ?_
    refine xW (c := (j : Int) - 1) rfl rfl (by rw [zo (by omega)]; omega) rfl ?_
    refine zH rfl ?_
    refine zl (fun w hw => ⟨v32, pre ++ [UInt8.ofNat (n / 2 ^ (8 * j))], j, ⟨rfl, rfl, rfl, trivial⟩, ⟨?_, by omega, by simp; omega⟩, ?_, Nat.lt_succ_self j⟩)
    · rw [← h1]; simp [be]
    · have h4 := hw.one 0 rfl
      simpa [kM, Value.cells, jB, Nat.add_assoc] using h4
  · refine z8 rfl ?_
    have hj : j = 0 := by omega
    subst hj
    -- region 7  codec.go:19
    refine zB ?_
    refine zC rfl ?_
    refine zH rfl ?_
    refine zA ?_
    refine zS (zx rfl rfl (fun w hw => ?_))
    have e : pre = be n (z9 n) := by simpa [be] using h1
    subst e
    exact hw
end Go.Proofs.YtkkeknmkipkbmaaGreat
