import Derived.Test.YtcdiehplbmkmeaaBytes
import Derived.Test.YtcdiehplbmkmeaaProg
set_option linter.unusedSectionVars false
set_option linter.unusedSimpArgs false
set_option linter.unusedVariables false
set_option maxRecDepth 10000
namespace Go.Proofs.Ytcdiehplbmkmeaa
open Go Go.Sc Go.Proofs
theorem zA5 (n : Nat) (hn : n < 18446744073709551616) (w : World) :
    Rets Try.prog 56 #[.int .u64 n] w fun v w' => v = .int .i64 (zb n) ∧ Own w [] [] w' := by
  refine xK (args := [.int .u64 n]) Try.func56 rfl Try.ntmps56 rfl (Own.start w) ?_
  refine zB ?_
  refine zH rfl ?_
  refine zA ?_
  refine zAT (Nat × Nat) (fun s => [(0, .int .u64 s.1), (2, .int .i64 s.2)]) (fun s => zb n = zb s.1 + s.2 ∧ s.1 < 4294967296 ∧ s.2 ≤ 32) (fun _ => []) ?_ (fun s g ⟨h1, h2, h3⟩ => ?_)
  · refine zB ?_
    refine zC rfl ?_
    refine yY rfl rfl rfl ?_
    refine zA ?_
    refine zU rfl (fun c1 => ?_) (fun c1 => ?_)
    · refine zB ?_
      refine zC rfl ?_
      refine zEW (c := ((n / 4294967296 : Nat) : Int)) rfl rfl (by omega) (by show (n : Int).fdiv 4294967296 = _; rw [Int.fdiv_eq_ediv_of_nonneg _ (by omega)]; omega) rfl ?_
      refine zH rfl ?_
      refine zA ?_
      refine zg ?_
      refine zH rfl ?_
      have hb : zb n = zb (n / 4294967296) + 32 := kX (k := 32) (by omega)
      exact zf (fun w hw => ⟨(n / 4294967296, 0 + 32), ⟨rfl, rfl, trivial⟩, ⟨by show zb n = zb (n / 4294967296) + (0 + 32); omega, by omega, by omega⟩, hw⟩)
    · exact xS (fun w hw => ⟨(n, 0), ⟨rfl, rfl, trivial⟩, ⟨by show zb n = zb n + 0; omega, by omega, by omega⟩, hw⟩)
  refine zAT (Nat × Nat) (fun s => [(0, .int .u64 s.1), (2, .int .i64 s.2)]) (fun s => zb n = zb s.1 + s.2 ∧ s.1 < 65536 ∧ s.2 ≤ 48) (fun _ => []) ?_ (fun s g ⟨h1, h2, h3⟩ => ?_)
  · refine zB ?_
    refine zC rfl ?_
    refine yY rfl rfl rfl ?_
    refine zA ?_
    refine zU rfl (fun c1 => ?_) (fun c1 => ?_)
    · refine zB ?_
      refine zC rfl ?_
      refine zEW (c := ((s.1 / 65536 : Nat) : Int)) rfl rfl (by omega) (by show (s.1 : Int).fdiv 65536 = _; rw [Int.fdiv_eq_ediv_of_nonneg _ (by omega)]; omega) rfl ?_
      refine zH rfl ?_
      refine zA ?_
      refine zg ?_
      refine zC rfl ?_
      refine zw (c := ((s.2 + 16 : Nat) : Int)) rfl rfl (by rw [zt (by omega)]; omega) rfl ?_
      refine zH rfl ?_
      have hb : zb s.1 = zb (s.1 / 65536) + 16 := kX (k := 16) (by omega)
      exact zf (fun w hw => ⟨(s.1 / 65536, s.2 + 16), ⟨rfl, rfl, trivial⟩, ⟨by show zb n = zb (s.1 / 65536) + (s.2 + 16); omega, by omega, by omega⟩, hw⟩)
    · exact xS (fun w hw => ⟨(s.1, s.2), ⟨rfl, rfl, trivial⟩, ⟨by show zb n = zb s.1 + s.2; omega, by omega, by omega⟩, hw⟩)
  refine zAT (Nat × Nat) (fun s => [(0, .int .u64 s.1), (2, .int .i64 s.2)]) (fun s => zb n = zb s.1 + s.2 ∧ s.1 < 256 ∧ s.2 ≤ 56) (fun _ => []) ?_ (fun s g ⟨h1, h2, h3⟩ => ?_)
  · refine zB ?_
    refine zC rfl ?_
    refine yY rfl rfl rfl ?_
    refine zA ?_
    refine zU rfl (fun c1 => ?_) (fun c1 => ?_)
    · refine zB ?_
      refine zC rfl ?_
      refine zEW (c := ((s.1 / 256 : Nat) : Int)) rfl rfl (by omega) (by show (s.1 : Int).fdiv 256 = _; rw [Int.fdiv_eq_ediv_of_nonneg _ (by omega)]; omega) rfl ?_
      refine zH rfl ?_
      refine zA ?_
      refine zg ?_
      refine zC rfl ?_
      refine zw (c := ((s.2 + 8 : Nat) : Int)) rfl rfl (by rw [zt (by omega)]; omega) rfl ?_
      refine zH rfl ?_
      have hb : zb s.1 = zb (s.1 / 256) + 8 := kX (k := 8) (by omega)
      exact zf (fun w hw => ⟨(s.1 / 256, s.2 + 8), ⟨rfl, rfl, trivial⟩, ⟨by show zb n = zb (s.1 / 256) + (s.2 + 8); omega, by omega, by omega⟩, hw⟩)
    · exact xS (fun w hw => ⟨(s.1, s.2), ⟨rfl, rfl, trivial⟩, ⟨by show zb n = zb s.1 + s.2; omega, by omega, by omega⟩, hw⟩)
  refine zB ?_
  refine zC rfl ?_
  refine zC rfl ?_
  refine xU rfl rfl (zJG (by omega)) rfl ?_ (by kernel_rfl)
  have hl : s.1 < (ByteArray.mk lenTabL.toArray).size := by rw [show (ByteArray.mk lenTabL.toArray).size = 256 by kernel_rfl]; exact h2
  refine zJ9 (s := ⟨lenTabL.toArray⟩) (by kernel_rfl) (by kernel_rfl) rfl rfl hl rfl ?_
  have ht : ((ByteArray.mk lenTabL.toArray)[s.1]).toNat = zb s.1 := by
    have := zFC ⟨s.1, h2⟩
    rw [List.getElem?_eq_getElem (show s.1 < lenTabL.length from h2)] at this
    exact Option.some.inj this
  have hle := xC (n := s.1) (k := 8) h2
  refine xU (c := (zb s.1 : Int)) (by kernel_rfl) rfl (by rw [ht]; exact zt (by omega)) rfl ?_ (by kernel_rfl)
  refine zw (c := (zb n : Int)) rfl rfl (by rw [zt (by omega), h1]; omega) rfl ?_
  refine zH rfl ?_
  refine zA ?_
  exact zR (z3 rfl rfl (fun w hw => ⟨rfl, hw⟩))
abbrev T8 : Nat := 5
def BSl (w : World) (v : Value) (bs : List UInt8) : Prop := Sl w v bs.length (bs.map vb)
def zAY (v : Value) (bs : List UInt8) : Res := Res.vec T8 1 v bs.length (bs.map vb)
theorem zHa : slT Try.prog 63 = some (T8, 1, 1) := by kernel_rfl
theorem zD5 (v : Value) (bs : List UInt8) (w : World) (hv : BSl w v bs) (hb : bs.length ≤ 1099511627776) :
    Rets Try.prog 85 #[v] w fun v' w' => Own w [] [zAY v' bs] w' := by
  have hs := hv
  obtain ⟨a, cap, rfl, h1, h2, ha⟩ := Sl.shape hv
  cases a with
  | none =>
    have hbs : bs = [] := by
      cases bs with
      | nil => rfl
      | cons x xs => obtain ⟨b, off, e⟩ := ha (by simp); cases e
    subst hbs
    refine xK (args := [.slice none 0 cap]) Try.func85 rfl Try.ntmps85 rfl (Own.start w) ?_
    refine zB ?_
    refine zH rfl ?_
    refine zA ?_
    refine zM ?_
    refine zB ?_
    refine zC rfl ?_
    refine zFy (by kernel_rfl) rfl rfl rfl ?_
    refine zA ?_
    refine zEN rfl ?_
    refine zB ?_
    refine zH rfl ?_
    refine zA ?_
    exact zR (z3 (v := .slice none 0 0) rfl rfl (fun w hw => by simpa [zAY] using yd hw T8 1))
  | some a =>
    refine xK (args := [.slice (some a) bs.length cap]) Try.func85 rfl Try.ntmps85 rfl (Own.start w) ?_
    refine zB ?_
    refine zH rfl ?_
    refine zA ?_
    refine zM ?_
    refine zB ?_
    refine zC rfl ?_
    refine zFy (by kernel_rfl) rfl rfl rfl ?_
    refine zA ?_
    refine xm rfl ?_
    refine zL ?_
    refine zB ?_
    refine yg (e := T8) (sz := 1) (vs := []) (by kernel_rfl) rfl rfl (by simp) (by decide) rfl (fun b5 => ?_)
    refine zC rfl ?_
    refine zCs (by' := 1) (news := bs.map vb) (m := bs.length) 0 zHa rfl rfl rfl (fun w' hw => hw.old (Res.sl _ _ _) hs (by simp)) (by simp) (zAA bs) (by omega) (by rw [yK]; omega) rfl (fun v7 => ?_)
    refine zH rfl ?_
    refine zA ?_
    exact zR (z3 (v := v7) rfl rfl (fun w hw => by simpa [zAY] using hw))
theorem zB7 (a : Option Addr) (n cap : Nat) (w : World) (hc : n ≤ cap) :
    Rets Try.prog 84 #[.slice a n cap] w fun v' w' => v' = .slice a n n ∧ Own w [] [] w' := by
  refine xK (args := [.slice a n cap]) Try.func84 rfl Try.ntmps84 rfl (Own.start w) ?_
  refine zB ?_
  refine zH rfl ?_
  refine zA ?_
  refine zB ?_
  refine zC rfl ?_
  refine zC rfl ?_
  refine zIW (by kernel_rfl) rfl rfl ?_
  refine zC rfl ?_
  refine zIW (by kernel_rfl) rfl rfl ?_
  refine zJL (sz := 1) (l := 0) (h := n) (m := n) (by kernel_rfl) rfl rfl ⟨.i64, rfl⟩ ⟨.i64, rfl⟩ (by omega) (by omega) hc rfl ?_
  refine zH rfl ?_
  refine zA ?_
  refine zR (z3 rfl rfl (fun w hw => ⟨?_, hw⟩))
  show zBi a cap 0 n n 1 = _
  cases a <;> simp [zBi, Addr.add]
theorem zC8 (v : Value) (bs : List UInt8) (n : Nat) (hn : n < 18446744073709551616) (w : World) (hv : BSl w v bs) (hb : bs.length ≤ 1000000000000) :
    Rets Try.prog 67 #[v, .int .u64 n] w fun v' w' => Own w [] [zAY v' (bs ++ num n)] w' := by
  have hk := zBL hn
  refine xK (args := [v, .int .u64 n]) Try.func67 rfl Try.ntmps67 rfl (Own.start w) ?_
  refine zB ?_
  refine zH rfl ?_
  refine zA ?_
  -- region 1  codec.go:14
  refine zB ?_
  refine zC rfl ?_
  refine jj (by kernel_rfl) rfl rfl (fun w' hw => ?_)
  refine (zA5 n hn w').mono ?_
  rintro _ w1 ⟨rfl, hO⟩
  refine (?_ : CL _ _ _ _ _ _ (Own w [] [])) w1 (by simpa using hw.frame0 hO)
  have hl64 := xC (n := n) (k := 64) hn
  refine zw (c := ((zb n + 7 : Nat) : Int)) rfl rfl (by rw [zt (by omega)]; omega) rfl ?_
  refine j0 (c := (yI n : Int)) rfl rfl (by omega) (by rw [Int.tdiv_eq_ediv_of_nonneg (by omega)]; unfold yI; rw [zt (by omega)]; omega) rfl ?_
  refine zH rfl ?_
  refine zA ?_
  -- region 2  codec.go:15
  refine yJ (fun (v6 : Value) => [(1, .int .u64 n), (5, .int .i64 (yI n : Nat)), (6, v6)]) (fun _ => True) (fun v6 => [zAY v6 (bs ++ [UInt8.ofNat (yI n)])]) ?_ (fun v6 g _ => ?_)
  · refine zg ?_
    refine zC rfl ?_
    refine jj (by kernel_rfl) rfl rfl (fun w' hw => ?_)
    refine (zD5 v bs w' (hw.old (Res.sl _ _ _) hv (by simp)) (by omega)).mono ?_
    intro v13 w1 hO
    have hO' := hw.frame0 hO
    rcases (hO'.holds 0 _ rfl).2 with ⟨rfl, hz⟩ | ⟨g, cap, cur, rfl, -, hg, hcap, hmax, -, -⟩
    · have hbs : bs = [] := List.eq_nil_of_length_eq_zero hz
      subst hbs
      refine (?_ : CL _ _ _ _ _ _ (Own w [] [zAY (.slice none 0 0) []])) w1 hO'
      refine jj (by kernel_rfl) rfl rfl (fun w' hw => ?_)
      refine (zB7 none 0 0 w' (by omega)).mono ?_
      rintro _ w2 ⟨rfl, hO⟩
      refine (?_ : CL _ _ _ _ _ _ (Own w [] [zAY (.slice none 0 0) []])) w2 (by simpa using hw.frame0 hO)
      refine zC rfl ?_
      refine xU (by kernel_rfl) rfl (zJG (by omega)) rfl ?_ (by kernel_rfl)
      refine yg (e := T8) (sz := 1) (vs := [.int .u8 (yI n)]) (by kernel_rfl) rfl rfl (by simp [Value.cells]) (by decide) rfl (fun b17 => ?_)
      refine zCs (by' := 1) (m := 1) 0 zHa rfl rfl rfl (fun w hw => Vec.sl (hw.holds 1 _ rfl)) (by simp [Value.cells]) (by simp [Value.cells, cell1]) (by simp) (by rw [yK]; simp) rfl (fun v18 => ?_)
      refine zH rfl ?_
      refine zf (fun w hw => ⟨v18, ⟨rfl, rfl, rfl, trivial⟩, trivial, ?_⟩)
      have h1 := hw.one 0 rfl
      have e : vb (UInt8.ofNat (yI n)) = .int .u8 (yI n) := by rw [zBS, Nat.mod_eq_of_lt (by omega)]
      simpa [zAY, Value.cells, e] using h1
    · refine (?_ : CL _ _ _ _ _ _ (Own w [] [zAY (.slice (some ⟨g, 0, none⟩) bs.length cap) bs])) w1 hO'
      refine jj (by kernel_rfl) rfl rfl (fun w' hw => ?_)
      refine (zB7 _ bs.length cap w' hcap).mono ?_
      rintro _ w2 ⟨rfl, hO⟩
      have hO2 := hw.frame0 hO
      rw [List.append_nil] at hO2
      refine (?_ : CL _ _ _ _ _ _ (Own w [] [zAY (.slice (some ⟨g, 0, none⟩) bs.length cap) bs])) w2 hO2
      refine zC rfl ?_
      refine xU (by kernel_rfl) rfl (zJG (by omega)) rfl ?_ (by kernel_rfl)
      refine yg (e := T8) (sz := 1) (vs := [.int .u8 (yI n)]) (by kernel_rfl) rfl rfl (by simp [Value.cells]) (by decide) rfl (fun b17 => ?_)
      refine zJU (by' := 1) (m := 1) (cs := bs.map vb) zHa rfl (fun w hw => ?_) (by simp) rfl (fun w hw => Vec.sl (hw.holds 1 _ rfl)) (by simp [Value.cells]) (by omega) (by omega) (by rw [yK]; omega) rfl (fun v18 => ?_)
      · rcases Vec.sl (hw.holds 0 _ rfl) with ⟨a1, e, e1, e2⟩ | ⟨b1, off1, cap1, e, k1, k2, k3, k4⟩
        · exact .inl ⟨_, by rw [e1], e1, e2⟩
        · simp at e
          obtain ⟨⟨rfl, rfl⟩, rfl⟩ := e
          by_cases hz : bs.length = 0
          · exact .inl ⟨_, by rw [hz], hz, by simpa using hz⟩
          · exact .inr ⟨_, _, _, rfl, ⟨Nat.le_refl _, by omega⟩, by have := k1.1; omega, k3, k4⟩
      refine zH rfl ?_
      refine zf (fun w hw => ⟨v18, ⟨rfl, rfl, rfl, trivial⟩, trivial, ?_⟩)
      have h1 := hw.one 2 rfl
      have e : vb (UInt8.ofNat (yI n)) = .int .u8 (yI n) := by rw [zBS, Nat.mod_eq_of_lt (by omega)]
      simpa [zAY, Value.cells, e] using h1
  refine zM ?_
  -- region 3  codec.go:16
  refine zB ?_
  refine zC rfl ?_
  refine z9 rfl rfl (zt (by omega)) rfl ?_
  refine zH rfl ?_
  refine zA ?_
  refine zS ?_
  refine kh (fun (v6 : Value) (pre : List UInt8) (j : Nat) => [(1, .int .u64 n), (6, v6), (7, .int .i64 ((j : Int) - 1))]) (fun _ pre j => pre ++ be n j = be n (yI n) ∧ j ≤ yI n ∧ pre.length ≤ 8)
    (fun v6 pre _ => [zAY v6 (bs ++ UInt8.ofNat (yI n) :: pre)]) (fun _ _ j => j) (fun w hw => ⟨v6, [], yI n, ⟨rfl, rfl, rfl, trivial⟩, ⟨rfl, Nat.le_refl _, by simp⟩, hw⟩) (fun v6 pre j g2 hs => ?_)
  obtain ⟨h1, h2, h3⟩ := hs
  have hpl : pre.length + j = yI n := by have := congrArg List.length h1; simpa [zAP] using this
  refine zM ?_
  -- region 4  codec.go:16
  refine zB ?_
  refine zC rfl ?_
  refine yY rfl rfl rfl ?_
  refine zA ?_
  refine zU rfl (fun c1 => ?_) (fun c1 => ?_)
  · refine zL ?_
    obtain ⟨j, rfl⟩ : ∃ i, j = i + 1 := ⟨j - 1, by omega⟩
    refine zM ?_
    refine zS ?_
    -- region 6  codec.go:17
    refine zg ?_
    refine zC rfl ?_
    refine zC rfl ?_
    refine zC rfl ?_
    refine zBD (c := ((8 * j : Nat) : Int)) rfl rfl (by rw [zt (by omega)]; omega) rfl ?_
    have hfd : (n : Int).fdiv (2 ^ (min ((8 * j : Nat) : Int).toNat IntKind.u64.bits)) = ((n / 2 ^ (8 * j) : Nat) : Int) := by
      have e1 : min ((8 * j : Nat) : Int).toNat IntKind.u64.bits = 8 * j := by simp only [IntKind.bits]; omega
      have e2 : (2 : Int) ^ (8 * j) = ((2 ^ (8 * j) : Nat) : Int) := by norm_cast
      rw [e1, e2, Int.fdiv_eq_ediv_of_nonneg _ (Int.natCast_nonneg _)]
      norm_cast
    refine zEW rfl rfl (by omega) hfd rfl ?_
    refine xU (c := ((n / 2 ^ (8 * j) % 256 : Nat) : Int)) (by kernel_rfl) rfl (by rw [wu8]; norm_cast) rfl ?_ (by kernel_rfl)
    refine yg (e := T8) (sz := 1) (vs := [.int .u8 ((n / 2 ^ (8 * j) % 256 : Nat) : Int)]) (by kernel_rfl) rfl rfl (by simp [Value.cells]) (by decide) rfl (fun b31 => ?_)
    refine zCs (by' := 1) (m := 1) 0 zHa rfl rfl rfl (fun w hw => Vec.sl (hw.holds 1 _ rfl)) (by simp [Value.cells]) (by simp [Value.cells, cell1]) (by simp; omega) (by rw [yK]; simp; omega) rfl (fun v32 => ?_)
    refine zH rfl ?_
    refine zA ?_
    -- region 5  codec.go:16
    refine zg ?_
    refine zC rfl ?_
    refine z9 (c := (j : Int) - 1) rfl rfl (by rw [zt (by omega)]; omega) rfl ?_
    refine zH rfl ?_
    refine zf (fun w hw => ⟨v32, pre ++ [UInt8.ofNat (n / 2 ^ (8 * j))], j, ⟨rfl, rfl, rfl, trivial⟩, ⟨?_, by omega, by simp; omega⟩, ?_, Nat.lt_succ_self j⟩)
    · rw [← h1]; simp [be]
    · have h4 := hw.one 0 rfl
      simpa [zAY, Value.cells, zBS, Nat.add_assoc] using h4
  · refine yA rfl ?_
    have hj : j = 0 := by omega
    subst hj
    -- region 7  codec.go:19
    refine zB ?_
    refine zC rfl ?_
    refine zH rfl ?_
    refine zA ?_
    refine zR (z3 rfl rfl (fun w hw => ?_))
    have e : pre = be n (yI n) := by simpa [be] using h1
    subst e
    exact hw
end Go.Proofs.Ytcdiehplbmkmeaa
