import Derived.Test.YtcdiehplbmkmeaaBytes
import Derived.Test.YtcdiehplbmkmeaaProg
set_option linter.unusedSectionVars false
set_option linter.unusedSimpArgs false
set_option linter.unusedVariables false
set_option maxRecDepth 10000
namespace Go.Proofs.Ytcdiehplbmkmeaa
open Go Go.Sc Go.Proofs
theorem zAn (n : Nat) (hn : n < 18446744073709551616) (w : World) :
    Rets Try.prog 56 #[.int .u64 n] w fun v w' => v = .int .i64 (za n) ∧ Own w [] [] w' := by
  refine xD (args := [.int .u64 n]) Try.func56 rfl Try.ntmps56 rfl (Own.start w) ?_
  refine zB ?_
  refine zH rfl ?_
  refine zA ?_
  refine zAG (Nat × Nat) (fun s => [(0, .int .u64 s.1), (2, .int .i64 s.2)]) (fun s => za n = za s.1 + s.2 ∧ s.1 < 4294967296 ∧ s.2 ≤ 32) (fun _ => []) ?_ (fun s g ⟨h1, h2, h3⟩ => ?_)
  · refine zB ?_
    refine zC rfl ?_
    refine yY rfl rfl rfl ?_
    refine zA ?_
    refine zU rfl (fun c1 => ?_) (fun c1 => ?_)
    · refine zB ?_
      refine zC rfl ?_
      refine zEC (c := ((n / 4294967296 : Nat) : Int)) rfl rfl (by omega) (by show (n : Int).fdiv 4294967296 = _; rw [Int.fdiv_eq_ediv_of_nonneg _ (by omega)]; omega) rfl ?_
      refine zH rfl ?_
      refine zA ?_
      refine zj ?_
      refine zH rfl ?_
      have hb : za n = za (n / 4294967296) + 32 := kW (k := 32) (by omega)
      exact zf (fun w hw => ⟨(n / 4294967296, 0 + 32), ⟨rfl, rfl, trivial⟩, ⟨by show za n = za (n / 4294967296) + (0 + 32); omega, by omega, by omega⟩, hw⟩)
    · exact xG (fun w hw => ⟨(n, 0), ⟨rfl, rfl, trivial⟩, ⟨by show za n = za n + 0; omega, by omega, by omega⟩, hw⟩)
  refine zAG (Nat × Nat) (fun s => [(0, .int .u64 s.1), (2, .int .i64 s.2)]) (fun s => za n = za s.1 + s.2 ∧ s.1 < 65536 ∧ s.2 ≤ 48) (fun _ => []) ?_ (fun s g ⟨h1, h2, h3⟩ => ?_)
  · refine zB ?_
    refine zC rfl ?_
    refine yY rfl rfl rfl ?_
    refine zA ?_
    refine zU rfl (fun c1 => ?_) (fun c1 => ?_)
    · refine zB ?_
      refine zC rfl ?_
      refine zEC (c := ((s.1 / 65536 : Nat) : Int)) rfl rfl (by omega) (by show (s.1 : Int).fdiv 65536 = _; rw [Int.fdiv_eq_ediv_of_nonneg _ (by omega)]; omega) rfl ?_
      refine zH rfl ?_
      refine zA ?_
      refine zj ?_
      refine zC rfl ?_
      refine zw (c := ((s.2 + 16 : Nat) : Int)) rfl rfl (by rw [zr (by omega)]; omega) rfl ?_
      refine zH rfl ?_
      have hb : za s.1 = za (s.1 / 65536) + 16 := kW (k := 16) (by omega)
      exact zf (fun w hw => ⟨(s.1 / 65536, s.2 + 16), ⟨rfl, rfl, trivial⟩, ⟨by show za n = za (s.1 / 65536) + (s.2 + 16); omega, by omega, by omega⟩, hw⟩)
    · exact xG (fun w hw => ⟨(s.1, s.2), ⟨rfl, rfl, trivial⟩, ⟨by show za n = za s.1 + s.2; omega, by omega, by omega⟩, hw⟩)
  refine zAG (Nat × Nat) (fun s => [(0, .int .u64 s.1), (2, .int .i64 s.2)]) (fun s => za n = za s.1 + s.2 ∧ s.1 < 256 ∧ s.2 ≤ 56) (fun _ => []) ?_ (fun s g ⟨h1, h2, h3⟩ => ?_)
  · refine zB ?_
    refine zC rfl ?_
    refine yY rfl rfl rfl ?_
    refine zA ?_
    refine zU rfl (fun c1 => ?_) (fun c1 => ?_)
    · refine zB ?_
      refine zC rfl ?_
      refine zEC (c := ((s.1 / 256 : Nat) : Int)) rfl rfl (by omega) (by show (s.1 : Int).fdiv 256 = _; rw [Int.fdiv_eq_ediv_of_nonneg _ (by omega)]; omega) rfl ?_
      refine zH rfl ?_
      refine zA ?_
      refine zj ?_
      refine zC rfl ?_
      refine zw (c := ((s.2 + 8 : Nat) : Int)) rfl rfl (by rw [zr (by omega)]; omega) rfl ?_
      refine zH rfl ?_
      have hb : za s.1 = za (s.1 / 256) + 8 := kW (k := 8) (by omega)
      exact zf (fun w hw => ⟨(s.1 / 256, s.2 + 8), ⟨rfl, rfl, trivial⟩, ⟨by show za n = za (s.1 / 256) + (s.2 + 8); omega, by omega, by omega⟩, hw⟩)
    · exact xG (fun w hw => ⟨(s.1, s.2), ⟨rfl, rfl, trivial⟩, ⟨by show za n = za s.1 + s.2; omega, by omega, by omega⟩, hw⟩)
  refine zB ?_
  refine zC rfl ?_
  refine zC rfl ?_
  refine xZ rfl rfl (zIz (by omega)) rfl ?_ (by kernel_rfl)
  have hl : s.1 < (ByteArray.mk lenTabL.toArray).size := by rw [show (ByteArray.mk lenTabL.toArray).size = 256 by kernel_rfl]; exact h2
  refine zJb (s := ⟨lenTabL.toArray⟩) (by kernel_rfl) (by kernel_rfl) rfl rfl hl rfl ?_
  have ht : ((ByteArray.mk lenTabL.toArray)[s.1]).toNat = za s.1 := by
    have := zEX ⟨s.1, h2⟩
    rw [List.getElem?_eq_getElem (show s.1 < lenTabL.length from h2)] at this
    exact Option.some.inj this
  have hle := y3 (n := s.1) (k := 8) h2
  refine xZ (c := (za s.1 : Int)) (by kernel_rfl) rfl (by rw [ht]; exact zr (by omega)) rfl ?_ (by kernel_rfl)
  refine zw (c := (za n : Int)) rfl rfl (by rw [zr (by omega), h1]; omega) rfl ?_
  refine zH rfl ?_
  refine zA ?_
  exact zR (z6 rfl rfl (fun w hw => ⟨rfl, hw⟩))
abbrev T8 : Nat := 5
def BSl (w : World) (v : Value) (bs : List UInt8) : Prop := Sl w v bs.length (bs.map vb)
def zAI (v : Value) (bs : List UInt8) : Res := Res.vec T8 1 v bs.length (bs.map vb)
theorem zGt : slT Try.prog 63 = some (T8, 1, 1) := by kernel_rfl
theorem zDg (v : Value) (bs : List UInt8) (w : World) (hv : BSl w v bs) (hb : bs.length ≤ 1099511627776) :
    Rets Try.prog 85 #[v] w fun v' w' => Own w [] [zAI v' bs] w' := by
  have hs := hv
  obtain ⟨a, cap, rfl, h1, h2, ha⟩ := Sl.shape hv
  cases a with
  | none =>
    have hbs : bs = [] := by
      cases bs with
      | nil => rfl
      | cons x xs => obtain ⟨b, off, e⟩ := ha (by simp); cases e
    subst hbs
    refine xD (args := [.slice none 0 cap]) Try.func85 rfl Try.ntmps85 rfl (Own.start w) ?_
    refine zB ?_
    refine zH rfl ?_
    refine zA ?_
    refine zO ?_
    refine zB ?_
    refine zC rfl ?_
    refine zFv (by kernel_rfl) rfl rfl rfl ?_
    refine zA ?_
    refine zEH rfl ?_
    refine zB ?_
    refine zH rfl ?_
    refine zA ?_
    exact zR (z6 (v := .slice none 0 0) rfl rfl (fun w hw => by simpa [zAI] using yk hw T8 1))
  | some a =>
    refine xD (args := [.slice (some a) bs.length cap]) Try.func85 rfl Try.ntmps85 rfl (Own.start w) ?_
    refine zB ?_
    refine zH rfl ?_
    refine zA ?_
    refine zO ?_
    refine zB ?_
    refine zC rfl ?_
    refine zFv (by kernel_rfl) rfl rfl rfl ?_
    refine zA ?_
    refine xf rfl ?_
    refine zM ?_
    refine zB ?_
    refine yz (e := T8) (sz := 1) (vs := []) (by kernel_rfl) rfl rfl (by simp) (by decide) rfl (fun b5 => ?_)
    refine zC rfl ?_
    refine zCt (by' := 1) (news := bs.map vb) (m := bs.length) 0 zGt rfl rfl rfl (fun w' hw => hw.old (Res.sl _ _ _) hs (by simp)) (by simp) (jo bs) (by omega) (by rw [yJ]; omega) rfl (fun v7 => ?_)
    refine zH rfl ?_
    refine zA ?_
    exact zR (z6 (v := v7) rfl rfl (fun w hw => by simpa [zAI] using hw))
theorem zBe (a : Option Addr) (n cap : Nat) (w : World) (hc : n ≤ cap) :
    Rets Try.prog 84 #[.slice a n cap] w fun v' w' => v' = .slice a n n ∧ Own w [] [] w' := by
  refine xD (args := [.slice a n cap]) Try.func84 rfl Try.ntmps84 rfl (Own.start w) ?_
  refine zB ?_
  refine zH rfl ?_
  refine zA ?_
  refine zB ?_
  refine zC rfl ?_
  refine zC rfl ?_
  refine zHq (by kernel_rfl) rfl rfl ?_
  refine zC rfl ?_
  refine zHq (by kernel_rfl) rfl rfl ?_
  refine zIq (sz := 1) (l := 0) (h := n) (m := n) (by kernel_rfl) rfl rfl ⟨.i64, rfl⟩ ⟨.i64, rfl⟩ (by omega) (by omega) hc rfl ?_
  refine zH rfl ?_
  refine zA ?_
  refine zR (z6 rfl rfl (fun w hw => ⟨?_, hw⟩))
  show zBT a cap 0 n n 1 = _
  cases a <;> simp [zBT, Addr.add]
theorem zCc (v : Value) (bs : List UInt8) (n : Nat) (hn : n < 18446744073709551616) (w : World) (hv : BSl w v bs) (hb : bs.length ≤ 1000000000000) :
    Rets Try.prog 67 #[v, .int .u64 n] w fun v' w' => Own w [] [zAI v' (bs ++ num n)] w' := by
  have hk := zA3 hn
  refine xD (args := [v, .int .u64 n]) Try.func67 rfl Try.ntmps67 rfl (Own.start w) ?_
  refine zB ?_
  refine zH rfl ?_
  refine zA ?_
  -- region 1  codec.go:14
  refine zB ?_
  refine zC rfl ?_
  refine jf (by kernel_rfl) rfl rfl (fun w' hw => ?_)
  refine (zAn n hn w').mono ?_
  rintro _ w1 ⟨rfl, hO⟩
  refine (?_ : CL _ _ _ _ _ _ (Own w [] [])) w1 (by simpa using hw.frame0 hO)
  have hl64 := y3 (n := n) (k := 64) hn
  refine zw (c := ((za n + 7 : Nat) : Int)) rfl rfl (by rw [zr (by omega)]; omega) rfl ?_
  refine j9 (c := (yF n : Int)) rfl rfl (by omega) (by rw [Int.tdiv_eq_ediv_of_nonneg (by omega)]; unfold yF; rw [zr (by omega)]; omega) rfl ?_
  refine zH rfl ?_
  refine zA ?_
  -- region 2  codec.go:15
  refine yG (fun (v6 : Value) => [(1, .int .u64 n), (5, .int .i64 (yF n : Nat)), (6, v6)]) (fun _ => True) (fun v6 => [zAI v6 (bs ++ [UInt8.ofNat (yF n)])]) ?_ (fun v6 g _ => ?_)
  · refine zj ?_
    refine zC rfl ?_
    refine jf (by kernel_rfl) rfl rfl (fun w' hw => ?_)
    refine (zDg v bs w' (hw.old (Res.sl _ _ _) hv (by simp)) (by omega)).mono ?_
    intro v13 w1 hO
    have hO' := hw.frame0 hO
    rcases (hO'.holds 0 _ rfl).2 with ⟨rfl, hz⟩ | ⟨g, cap, cur, rfl, -, hg, hcap, hmax, -, -⟩
    · have hbs : bs = [] := List.eq_nil_of_length_eq_zero hz
      subst hbs
      refine (?_ : CL _ _ _ _ _ _ (Own w [] [zAI (.slice none 0 0) []])) w1 hO'
      refine jf (by kernel_rfl) rfl rfl (fun w' hw => ?_)
      refine (zBe none 0 0 w' (by omega)).mono ?_
      rintro _ w2 ⟨rfl, hO⟩
      refine (?_ : CL _ _ _ _ _ _ (Own w [] [zAI (.slice none 0 0) []])) w2 (by simpa using hw.frame0 hO)
      refine zC rfl ?_
      refine xZ (by kernel_rfl) rfl (zIz (by omega)) rfl ?_ (by kernel_rfl)
      refine yz (e := T8) (sz := 1) (vs := [.int .u8 (yF n)]) (by kernel_rfl) rfl rfl (by simp [Value.cells]) (by decide) rfl (fun b17 => ?_)
      refine zCt (by' := 1) (m := 1) 0 zGt rfl rfl rfl (fun w hw => Vec.sl (hw.holds 1 _ rfl)) (by simp [Value.cells]) (by simp [Value.cells, cell1]) (by simp) (by rw [yJ]; simp) rfl (fun v18 => ?_)
      refine zH rfl ?_
      refine zf (fun w hw => ⟨v18, ⟨rfl, rfl, rfl, trivial⟩, trivial, ?_⟩)
      have h1 := hw.one 0 rfl
      have e : vb (UInt8.ofNat (yF n)) = .int .u8 (yF n) := by rw [zAj, Nat.mod_eq_of_lt (by omega)]
      simpa [zAI, Value.cells, e] using h1
    · refine (?_ : CL _ _ _ _ _ _ (Own w [] [zAI (.slice (some ⟨g, 0, none⟩) bs.length cap) bs])) w1 hO'
      refine jf (by kernel_rfl) rfl rfl (fun w' hw => ?_)
      refine (zBe _ bs.length cap w' hcap).mono ?_
      rintro _ w2 ⟨rfl, hO⟩
      have hO2 := hw.frame0 hO
      rw [List.append_nil] at hO2
      refine (?_ : CL _ _ _ _ _ _ (Own w [] [zAI (.slice (some ⟨g, 0, none⟩) bs.length cap) bs])) w2 hO2
      refine zC rfl ?_
      refine xZ (by kernel_rfl) rfl (zIz (by omega)) rfl ?_ (by kernel_rfl)
      refine yz (e := T8) (sz := 1) (vs := [.int .u8 (yF n)]) (by kernel_rfl) rfl rfl (by simp [Value.cells]) (by decide) rfl (fun b17 => ?_)
      refine zII (by' := 1) (m := 1) (cs := bs.map vb) zGt rfl (fun w hw => ?_) (by simp) rfl (fun w hw => Vec.sl (hw.holds 1 _ rfl)) (by simp [Value.cells]) (by omega) (by omega) (by rw [yJ]; omega) rfl (fun v18 => ?_)
      · rcases Vec.sl (hw.holds 0 _ rfl) with ⟨a1, e, e1, e2⟩ | ⟨b1, off1, cap1, e, k1, k2, k3, k4⟩
        · exact .inl ⟨_, by rw [e1], e1, e2⟩
        · simp at e
          obtain ⟨⟨rfl, rfl⟩, rfl⟩ := e
          by_cases hz : bs.length = 0
          · exact .inl ⟨_, by rw [hz], hz, by simpa using hz⟩
          · exact .inr ⟨_, _, _, rfl, ⟨Nat.le_refl _, by omega⟩, by have := k1.1; omega, k3, k4⟩
      refine zH rfl ?_
      refine zf (fun w hw => ⟨v18, ⟨rfl, rfl, rfl, trivial⟩, trivial, ?_⟩)
      have h1 := hw.one 2 rfl
      have e : vb (UInt8.ofNat (yF n)) = .int .u8 (yF n) := by rw [zAj, Nat.mod_eq_of_lt (by omega)]
      simpa [zAI, Value.cells, e] using h1
  refine zO ?_
  -- region 3  codec.go:16
  refine zB ?_
  refine zC rfl ?_
  refine z9 rfl rfl (zr (by omega)) rfl ?_
  refine zH rfl ?_
  refine zA ?_
  refine zT ?_
  refine jA (fun (v6 : Value) (pre : List UInt8) (j : Nat) => [(1, .int .u64 n), (6, v6), (7, .int .i64 ((j : Int) - 1))]) (fun _ pre j => pre ++ be n j = be n (yF n) ∧ j ≤ yF n ∧ pre.length ≤ 8)
    (fun v6 pre _ => [zAI v6 (bs ++ UInt8.ofNat (yF n) :: pre)]) (fun _ _ j => j) (fun w hw => ⟨v6, [], yF n, ⟨rfl, rfl, rfl, trivial⟩, ⟨rfl, Nat.le_refl _, by simp⟩, hw⟩) (fun v6 pre j g2 hs => ?_)
  obtain ⟨h1, h2, h3⟩ := hs
  have hpl : pre.length + j = yF n := by have := congrArg List.length h1; simpa [zAH] using this
  refine zO ?_
  -- region 4  codec.go:16
  refine zB ?_
  refine zC rfl ?_
  refine yY rfl rfl rfl ?_
  refine zA ?_
  refine zU rfl (fun c1 => ?_) (fun c1 => ?_)
  · refine zM ?_
    obtain ⟨j, rfl⟩ : ∃ i, j = i + 1 := ⟨j - 1, by omega⟩
    refine zO ?_
    refine zT ?_
    -- region 6  codec.go:17
    refine zj ?_
    refine zC rfl ?_
    refine zC rfl ?_
    refine zC rfl ?_
    refine zA5 (c := ((8 * j : Nat) : Int)) rfl rfl (by rw [zr (by omega)]; omega) rfl ?_
    have hfd : (n : Int).fdiv (2 ^ (min ((8 * j : Nat) : Int).toNat IntKind.u64.bits)) = ((n / 2 ^ (8 * j) : Nat) : Int) := by
      have e1 : min ((8 * j : Nat) : Int).toNat IntKind.u64.bits = 8 * j := by simp only [IntKind.bits]; omega
      have e2 : (2 : Int) ^ (8 * j) = ((2 ^ (8 * j) : Nat) : Int) := by norm_cast
      rw [e1, e2, Int.fdiv_eq_ediv_of_nonneg _ (Int.natCast_nonneg _)]
      norm_cast
    refine zEC rfl rfl (by omega) hfd rfl ?_
    refine xZ (c := ((n / 2 ^ (8 * j) % 256 : Nat) : Int)) (by kernel_rfl) rfl (by rw [wu8]; norm_cast) rfl ?_ (by kernel_rfl)
    refine yz (e := T8) (sz := 1) (vs := [.int .u8 ((n / 2 ^ (8 * j) % 256 : Nat) : Int)]) (by kernel_rfl) rfl rfl (by simp [Value.cells]) (by decide) rfl (fun b31 => ?_)
    refine zCt (by' := 1) (m := 1) 0 zGt rfl rfl rfl (fun w hw => Vec.sl (hw.holds 1 _ rfl)) (by simp [Value.cells]) (by simp [Value.cells, cell1]) (by simp; omega) (by rw [yJ]; simp; omega) rfl (fun v32 => ?_)
    refine zH rfl ?_
    refine zA ?_
    -- region 5  codec.go:16
    refine zj ?_
    refine zC rfl ?_
    refine z9 (c := (j : Int) - 1) rfl rfl (by rw [zr (by omega)]; omega) rfl ?_
    refine zH rfl ?_
    refine zf (fun w hw => ⟨v32, pre ++ [UInt8.ofNat (n / 2 ^ (8 * j))], j, ⟨rfl, rfl, rfl, trivial⟩, ⟨?_, by omega, by simp; omega⟩, ?_, Nat.lt_succ_self j⟩)
    · rw [← h1]; simp [be]
    · have h4 := hw.one 0 rfl
      simpa [zAI, Value.cells, zAj, Nat.add_assoc] using h4
  · refine yI rfl ?_
    have hj : j = 0 := by omega
    subst hj
    -- region 7  codec.go:19
    refine zB ?_
    refine zC rfl ?_
    refine zH rfl ?_
    refine zA ?_
    refine zR (z6 rfl rfl (fun w hw => ?_))
    have e : pre = be n (yF n) := by simpa [be] using h1
    subst e
    exact hw
end Go.Proofs.Ytcdiehplbmkmeaa
