import Derived.Test.YthincafbmpialaaGreatSortU4
import Derived.Test.YthincafbmpialaaGreatQuotaP
import Derived.Test.YthincafbmpialaaGreatRefW
set_option linter.unusedSectionVars false
set_option linter.unusedSimpArgs false
set_option linter.unusedVariables false
set_option maxRecDepth 10000
namespace Go.Proofs.YthincafbmpialaaGreat
open Go Go.Sc Go.Proofs
def zU (l : LeaD) : Value := .agg l.cells.toArray
def zq (n : Nat) : Value := .int .u64 n
def zw (n : Int) : Value := .int .i64 n
theorem zDu : KeyL Tryz.prog 9 Value.string := zHM (by kernel_rfl)
theorem zET : KeyL Tryz.prog 28 zq := zEB (by kernel_rfl)
theorem zB3 : kT Tryz.prog 108 = some (9, 2) := by kernel_rfl
theorem zBn : kT Tryz.prog 109 = some (28, 76) := by kernel_rfl
theorem zEL : jK Tryz.prog 2 = some (zw 0) := by kernel_rfl
theorem zLf : jK Tryz.prog 76 = some (zU LeaD.zero) := by kernel_rfl
def zAr (k : ByteArray) (kl : List (Nat × LeaD)) : Int := ye k (kl.map (·.2))
theorem zG3 {k : ByteArray} {kl : List (Nat × LeaD)} {n : Int} (h : n = IntKind.i64.wrap (zAr k kl - zAr k [])) : n = yS k kl := by
  rw [h]; simp [zAr, ye, yS, kG]
theorem zHG {k : ByteArray} {kl todo q1 q2 : List (Nat × LeaD)} {i : Nat} {v : LeaD} {n : Int} (h : n = IntKind.i64.wrap (zAr k kl - zAr k todo)) (ht : todo = q1 ++ (i, v) :: q2) (hk : v.key = k) : IntKind.i64.wrap (n + v.amount) = IntKind.i64.wrap (zAr k kl - zAr k (q1 ++ q2)) := by
  rw [h, zIO, ht]; unfold zAr; rw [zBg, if_pos hk]; congr 1; omega
theorem zIr {k : ByteArray} {kl todo q1 q2 : List (Nat × LeaD)} {i : Nat} {v : LeaD} {n : Int} (h : n = IntKind.i64.wrap (zAr k kl - zAr k todo)) (ht : todo = q1 ++ (i, v) :: q2) (hk : ¬ v.key = k) : n = IntKind.i64.wrap (zAr k kl - zAr k (q1 ++ q2)) := by
  rw [h, ht]; unfold zAr; rw [zBg, if_neg hk]; congr 1; omega
theorem zBq (k : ByteArray) (w : World) : Rets Tryz.prog 76 #[.string k] w fun u_ w' => u_ = .bool (decide (yY k)) ∧ Own w [] [] w' := by
  refine zb Tryz.func76 rfl Tryz.ntmps76 (Own.start w) ?_
  refine zB (zD rfl (zA (zB (zC rfl (zJo rfl rfl rfl (zC rfl (yW (q := k ≠ (⟨#[]⟩ : ByteArray)) 3 2 [8, 7, 6] (((k.size : Nat) : Int) ≤ 64) rfl rfl rfl rfl rfl rfl trivial rfl (fun h1_2 => ?_) (fun g1_6 => ?_))))))))
  ·
   refine zS rfl (gT h1_2) (zC rfl (zS rfl (gT h1_2) (zIC (by kernel_rfl) rfl rfl (zS rfl (gT h1_2) (jh rfl rfl rfl ?_)))))
   exact ya rfl (fun _ hw => hw)
  refine zD rfl (zA ?_)
  exact zP (z8 (v := .bool (decide ((k ≠ (⟨#[]⟩ : ByteArray)) ∧ (((k.size : Nat) : Int) ≤ 64)))) rfl rfl (fun w' hw => ⟨(by congr 1; exact decide_eq_decide.2 (by unfold yY; rw [zLP]; omega)), hw.drop⟩))
theorem zG6 (n : Int) (w : World) : Rets Tryz.prog 107 #[Vi n] w fun u_ w' => u_ = .bool (decide (yl n)) ∧ Own w [] [] w' := by
  refine zb Tryz.func107 rfl Tryz.ntmps107 (Own.start w) ?_
  refine zB (zD rfl (zA (zB (zC rfl (xG rfl rfl rfl (zC rfl (yW (q := 1 ≤ n) 2 2 [7, 6] (n ≤ 1099511627776) rfl rfl rfl rfl rfl rfl trivial rfl (fun h1_2 => ?_) (fun g1_5 => ?_))))))))
  ·
   refine zS rfl (gT h1_2) (zC rfl (zS rfl (gT h1_2) (jh rfl rfl rfl ?_)))
   exact ya rfl (fun _ hw => hw)
  refine zD rfl (zA ?_)
  exact zP (z8 (v := .bool (decide ((1 ≤ n) ∧ (n ≤ 1099511627776)))) rfl rfl (fun w' hw => ⟨rfl, hw.drop⟩))
theorem zBd {S : List Nat} (b bm lm : Nat) (now : Int) (cnt : Nat) (kl : List (Nat × LeaD)) (k : ByteArray) (w : World) (hin : Own w S [Res.row b 111 [.map (some bm), .map (some lm), Vi now, Vn cnt], Res.mp zq zU lm kl] w) : Rets Tryz.prog 78 #[.pointer (some ⟨b, 0, none⟩), .string k] w fun u_ w' => ∃ (n : Int), u_ = Vi n ∧ n = yS k kl ∧ Own w S [Res.row b 111 [.map (some bm), .map (some lm), Vi now, Vn cnt], Res.mp zq zU lm kl] w' := by
  refine zb Tryz.func78 rfl Tryz.ntmps78 hin ?_
  refine zB (zD rfl (zA (zB (zD rfl (zA (zL (zB (zC rfl (zr rfl rfl (zX (o := 1) rfl rfl (zY 0 (v := .map (some lm)) rfl rfl rfl rfl (jz 1 zBn rfl rfl rfl (fun r12 => ?_)))))))))))))
  refine zA (zQ ?_)
  refine xY (fun (todo : List (Nat × LeaD)) (n : Int) => [(1, .string k), (5, Vi n), (12, .pointer (some ⟨r12, 0, none⟩))]) (fun (todo : List (Nat × LeaD)) (n : Int) => n = IntKind.i64.wrap (zAr k kl - zAr k todo)) (fun (todo : List (Nat × LeaD)) (n : Int) => [Res.row b 111 [.map (some bm), .map (some lm), Vi now, Vn cnt], Res.rg zq zU lm r12 kl todo]) (fun (todo : List (Nat × LeaD)) (n : Int) => todo.length) (fun w' hw => ⟨kl, 0, ⟨rfl, rfl, rfl, trivial⟩, (by rw [Int.sub_self]; decide), hw⟩) (fun todo n g hΦ => ?_)
  refine zB (zA9 1 rfl rfl rfl (fun hq0 => ?_) (fun q1 k v q2 hq1 => ?_))
  ·
   refine zp (vs := [.bool false]) rfl rfl rfl (zA (zL (xO rfl (yK rfl (zB (zC rfl (zD rfl (zA ?_))))))))
   exact zP (z8 (v := Vi n) rfl rfl (fun w' hw => ⟨n, rfl, zG3 (hq0 ▸ hΦ), (Own.rgEnd 1 hw rfl)⟩))
  ·
   refine zp (vs := [.bool true, Vn k, .agg (LeaD.cells v).toArray]) rfl rfl rfl (zA (zL (jg rfl (zM (zQ (zB (j9 1 rfl rfl rfl (zp (vs := [Vn k, .agg (LeaD.cells v).toArray]) rfl rfl rfl (yL (v := .agg #[Vn 0, Vn 0, .string (⟨#[]⟩ : ByteArray), Vi 0, Vi 0]) (by kernel_rfl) rfl (fun b7 => zo 2 rfl rfl rfl (yI rfl) rfl (zA (zB ?_))))))))))))
   refine zX (o := 2) rfl rfl (zY 2 (v := .string v.key) rfl rfl rfl rfl (zC rfl (zLL rfl rfl rfl (zA (zZ rfl (fun c3 => ?_) (fun c3 => ?_))))))
   ·
    refine zj (zC rfl (zX (o := 3) rfl rfl (zY 2 (v := Vi v.amount) rfl rfl rfl rfl (z6 (c := IntKind.i64.wrap (n + v.amount)) rfl rfl rfl rfl (zD rfl ?_)))))
    exact zf (fun w' hw => ⟨q1 ++ q2, IntKind.i64.wrap (n + v.amount), ⟨rfl, rfl, rfl, trivial⟩, zHG hΦ hq1 c3, hw.sel [0, 1] rfl (by decide), (by rw [hq1, List.length_append, List.length_append, List.length_cons]; omega)⟩)
   ·
    exact xE (fun w' hw => ⟨q1 ++ q2, n, ⟨rfl, rfl, rfl, trivial⟩, zIr hΦ hq1 c3, hw.sel [0, 1] rfl (by decide), (by rw [hq1, List.length_append, List.length_append, List.length_cons]; omega)⟩)
def zAQ (kl : List (Nat × LeaD)) (s i : Nat) (x : LeaD) (e : Int) : Prop :=
  (e = 17 ∧ x = LeaD.zero ∧ ∀ l, zm i kl = some l → l.session ≠ s) ∨ (e = 0 ∧ zm i kl = some x ∧ x.session = s)
theorem zIa {kl : List (Nat × LeaD)} {s i : Nat} (h : (!(zm i kl).isSome) = true ∨ ((((zm i kl).getD LeaD.zero).session : Nat) : Int) ≠ ((s : Nat) : Int)) : zAQ kl s i LeaD.zero 17 := by
  refine .inl ⟨rfl, rfl, fun l hl => ?_⟩
  rw [hl] at h
  rcases h with h | h
  · cases h
  · intro e; exact h (by rw [Option.getD_some, e])
theorem zHZ {kl : List (Nat × LeaD)} {s i : Nat} (h : ¬ ((!(zm i kl).isSome) = true ∨ ((((zm i kl).getD LeaD.zero).session : Nat) : Int) ≠ ((s : Nat) : Int))) : zAQ kl s i ((zm i kl).getD LeaD.zero) 0 := by
  cases hl : zm i kl with
  | none => rw [hl] at h; exact absurd (.inl rfl) h
  | some l =>
    rw [hl, Option.getD_some] at h
    exact .inr ⟨rfl, hl, Decidable.by_contra fun (q : ¬ l.session = s) => h (.inr fun e => q (by omega))⟩
theorem zD9 {kl : List (Nat × LeaD)} {s i : Nat} {x : LeaD} {e : Int} (h : zAQ kl s i x e) (he : e ≠ 0) : e = 17 ∧ x = LeaD.zero ∧ ∀ l, zm i kl = some l → l.session ≠ s := by
  rcases h with h | h
  · exact h
  · exact absurd h.1 he
theorem zDT {kl : List (Nat × LeaD)} {s i : Nat} {x : LeaD} {e : Int} (h : zAQ kl s i x e) (he : ¬ e ≠ 0) : zm i kl = some x ∧ x.session = s := by
  rcases h with h | h
  · rw [h.1] at he; exact absurd (by decide) he
  · exact h.2
theorem zJA {kl : List (Nat × LeaD)} {s i : Nat} {x : LeaD} {e : Int} (h : zAQ kl s i x e) (he : ¬ e = 0) : zEA kl s i x e kl := by
  have := zD9 h he; exact .inl ⟨this.2.2, this.1, this.2.1, rfl⟩
theorem zHP {kl : List (Nat × LeaD)} {s i : Nat} {x : LeaD} {e : Int} (h : zAQ kl s i x e) (he : e = 0) : zEA kl s i x e (kY i kl) := by
  have := zDT h (fun q => q he); exact .inr ⟨x, this.1, this.2, he, rfl, rfl⟩
theorem zGG {now : Int} {kb : List (ByteArray × Int)} {kl : List (Nat × LeaD)} {s i : Nat} {sp : Int} {x : LeaD} {e : Int} (hs : ¬ ¬ yl sp) (h : zAQ kl s i x e) (he : e ≠ 0) : zBP now kb kl s i sp LeaD.zero e kl := by
  have := zD9 h he; exact .inr (.inl ⟨Decidable.not_not.1 hs, this.2.2, this.1, rfl, rfl⟩)
theorem zEb {now : Int} {kb : List (ByteArray × Int)} {kl : List (Nat × LeaD)} {s i : Nat} {sp n : Int} {x : LeaD} {e : Int} (hs : ¬ ¬ yl sp) (h : zAQ kl s i x e) (he : ¬ e ≠ 0) (hn : n = yS x.key kl) (hc : (zm x.key kb).getD 0 < n) : zBP now kb kl s i sp LeaD.zero 16 kl := by
  have := zDT h he; exact .inr (.inr ⟨Decidable.not_not.1 hs, x, this.1, this.2, .inl ⟨hn ▸ hc, rfl, rfl, rfl⟩⟩)
theorem zFf {now : Int} {kb : List (ByteArray × Int)} {kl : List (Nat × LeaD)} {s i : Nat} {sp n : Int} {x : LeaD} {e : Int} (hs : ¬ ¬ yl sp) (h : zAQ kl s i x e) (he : ¬ e ≠ 0) (hn : n = yS x.key kl) (hc : ¬ (zm x.key kb).getD 0 < n) : zBP now kb kl s i sp (x7 x (now + sp)) 0 (y5 i (x7 x (now + sp)) kl) := by
  have := zDT h he; exact .inr (.inr ⟨Decidable.not_not.1 hs, x, this.1, this.2, .inr ⟨by rw [hn] at hc; omega, rfl, rfl, rfl⟩⟩)
theorem zGm {S : List Nat} (b bm lm : Nat) (now : Int) (cnt : Nat) (kl : List (Nat × LeaD)) (s i : Nat) (w : World) (hin : Own w S [Res.row b 111 [.map (some bm), .map (some lm), Vi now, Vn cnt], Res.mp zq zU lm kl] w) : Rets Tryz.prog 108 #[.pointer (some ⟨b, 0, none⟩), Vn s, Vn i] w fun u_ w' => ∃ (x : LeaD) (e : Int), u_ = .tuple #[.agg (LeaD.cells x).toArray, Vi e] ∧ zAQ kl s i x e ∧ Own w S [Res.row b 111 [.map (some bm), .map (some lm), Vi now, Vn cnt], Res.mp zq zU lm kl] w' := by
  refine zb Tryz.func108 rfl Tryz.ntmps108 hin ?_
  refine zB (yL (v := .agg #[Vn 0, Vn 0, .string (⟨#[]⟩ : ByteArray), Vi 0, Vi 0]) (by kernel_rfl) rfl (fun b6 => zD rfl (zA (zB (zC rfl (zr rfl rfl (zX (o := 1) rfl rfl (zY 0 (v := .map (some lm)) rfl rfl rfl rfl (zC rfl (zDW (k := i) (kv := kl) (zv := LeaD.zero) zET zBn zLf rfl rfl (fun w' hw' => Own.holds hw' 1 _ rfl) rfl (zC rfl (zp (vs := [.agg (LeaD.cells ((zm i kl).getD LeaD.zero)).toArray, .bool ((zm i kl).isSome)]) rfl rfl rfl ?_))))))))))))
  refine zp (vs := [.agg (LeaD.cells ((zm i kl).getD LeaD.zero)).toArray, .bool ((zm i kl).isSome)]) rfl rfl rfl (yL (v := .agg #[Vn 0, Vn 0, .string (⟨#[]⟩ : ByteArray), Vi 0, Vi 0]) (by kernel_rfl) rfl (fun b8 => zo 3 rfl rfl rfl (yI rfl) rfl (zD rfl (zA (zL (zB (zC rfl (zAS (b := (zm i kl).isSome) rfl rfl (zC rfl (y6 (q := (!((zm i kl).isSome)) = true) 4 2 [25, 24, 23, 22] (((((zm i kl).getD LeaD.zero).session : Nat) : Int) ≠ ((s : Nat) : Int)) rfl rfl (yr _) rfl rfl rfl trivial rfl (fun h2_2 => ?_) (fun g2_7 => ?_)))))))))))
  ·
   refine zS rfl (bF h2_2) (zX (o := 1) rfl rfl (zS rfl (bF h2_2) (zY 3 (v := Vn (((zm i kl).getD LeaD.zero).session)) rfl rfl rfl rfl (zS rfl (bF h2_2) (zC rfl (zS rfl (bF h2_2) (kU rfl rfl rfl ?_)))))))
   exact ya rfl (fun _ hw => hw)
  refine zA (zZ rfl (fun c1 => ?_) (fun c1 => ?_))
  ·
   refine zB (yn (cs := [Vn 0, Vn 0, .string (⟨#[]⟩ : ByteArray), Vi 0, Vi 0]) (z := [Vn 0, Vn 0, .string (⟨#[]⟩ : ByteArray), Vi 0, Vi 0]) (pl := [(0, 1), (1, 1), (2, 1), (3, 1), (4, 1)]) (by kernel_rfl) (by kernel_rfl) rfl (zo 2 rfl rfl rfl (yI rfl) rfl (zD rfl (zA ?_))))
   exact zP (yf (cs := [Vn 0, Vn 0, .string (⟨#[]⟩ : ByteArray), Vi 0, Vi 0]) (v := Vi 17) rfl rfl rfl (by kernel_rfl) (Own.rowCells (i := 2) rfl) (fun w' hw => ⟨LeaD.zero, 17, rfl, zIa c1, hw.sel [0, 1] rfl (by decide)⟩))
  ·
   refine zM (zB (yd (cs := (LeaD.cells ((zm i kl).getD LeaD.zero))) 3 rfl rfl rfl (zo 2 rfl rfl rfl (yI rfl) rfl (zD rfl (zA ?_)))))
   exact zP (yf (cs := (LeaD.cells ((zm i kl).getD LeaD.zero))) (v := Vi 0) rfl rfl rfl (by kernel_rfl) (Own.rowCells (i := 2) rfl) (fun w' hw => ⟨(zm i kl).getD LeaD.zero, 0, rfl, zHZ c1, hw.sel [0, 1] rfl (by decide)⟩))
theorem zLn (a c : Int) (w : World) (ha : 0 ≤ a ∧ a ≤ 9223372036854775807) (hc : -9223372036854775808 ≤ c ∧ c ≤ 9223372036854775807) : Rets Tryz.prog 113 #[Vi a, Vi c] w fun u_ w' => ∃ (n e : Int), u_ = .tuple #[Vi n, Vi e] ∧ ((9223372036854775807 < a + c ∧ e = 3 ∧ n = 0) ∨ (a + c ≤ 9223372036854775807 ∧ e = 0 ∧ n = a + c)) ∧ Own w [] [] w' := by
  refine zb Tryz.func113 rfl Tryz.ntmps113 (Own.start w) ?_
  refine zB (zD rfl (zD rfl (zA (zL (zB (zC rfl (y9 rfl rfl rfl (zC rfl (yW (q := 0 < c) 4 2 [12, 11, 10, 9] ((9223372036854775807 - c) < a) rfl rfl rfl rfl rfl rfl trivial rfl (fun h1_2 => ?_) (fun g1_7 => ?_))))))))))
  ·
   refine zS rfl (gT h1_2) (zC rfl (zS rfl (gT h1_2) (zC rfl (zS rfl (gT h1_2) (yT rfl rfl (zz (by omega)) rfl (zS rfl (gT h1_2) (y9 rfl rfl rfl ?_)))))))
   exact ya rfl (fun _ hw => hw)
  refine zC rfl (y6 (q := (0 < c) ∧ ((9223372036854775807 - c) < a)) 8 8 [22, 21, 20, 19, 18, 17, 16, 15] ((c < 0) ∧ (a < ((-9223372036854775808) - c))) rfl rfl rfl rfl rfl rfl trivial rfl (fun h1_8 => ?_) (fun g1_17 => ?_))
  ·
   refine zS rfl (gF h1_8) (zC rfl (zS rfl (gF h1_8) (yZ rfl rfl rfl (zS rfl (gF h1_8) (zC rfl (yW (q := c < 0) 4 11 [21, 20, 19, 18] (a < ((-9223372036854775808) - c)) rfl rfl rfl rfl rfl rfl ⟨_, rfl, rfl, gF h1_8⟩ rfl (fun h1_11 => ?_) (fun g1_16 => ?_)))))))
   ·
    refine zS rfl (gT h1_11) (zC rfl (zS rfl (gT h1_11) (zC rfl (zS rfl (gT h1_11) (yT rfl rfl (zz (by omega)) rfl (zS rfl (gT h1_11) (yZ rfl rfl rfl ?_)))))))
    exact ya rfl (fun _ hw => hw)
   exact ya rfl (fun _ hw => hw)
  refine zA (zZ rfl (fun c1 => ?_) (fun c1 => ?_))
  ·
   refine zB (zD rfl (zD rfl (zA ?_)))
   exact zP (xk (v := Vi 0) (v' := Vi 3) rfl rfl rfl (fun w' hw => ⟨0, 3, rfl, .inl ⟨by omega, rfl, rfl⟩, hw.drop⟩))
  ·
   refine zM (zB (zC rfl (zC rfl (z6 rfl rfl (zz (by omega)) rfl (zD rfl (zD rfl (zA ?_)))))))
   exact zP (xk (v := Vi (a + c)) (v' := Vi 0) rfl rfl rfl (fun w' hw => ⟨a + c, 0, rfl, .inr ⟨by omega, rfl, rfl⟩, hw.drop⟩))
theorem zFo (v : Value) (l : List Int) (w : World) (hl : l.length = 2) (h0 : 0 ≤ zI l 0 ∧ zI l 0 ≤ 9223372036854775807) (h1 : -9223372036854775808 ≤ zI l 1 ∧ zI l 1 ≤ 9223372036854775807) (hv : Rd w [] (Res.sl v l.length (l.flatMap I1))) : Rets Tryz.prog 77 #[v] w fun u_ w' => ∃ (n e : Int), u_ = .tuple #[Vi n, Vi e] ∧ ((9223372036854775807 < zI l 0 + zI l 1 ∧ e = 3 ∧ n = 0) ∨ (zI l 0 + zI l 1 ≤ 9223372036854775807 ∧ e = 0 ∧ n = zI l 0 + zI l 1)) ∧ Own w [] [] w' := by
  refine zb Tryz.func77 rfl Tryz.ntmps77 (Own.start w) ?_
  refine zB (zD rfl (zD rfl (zA (zB (zD rfl (zA (zL (zB (zC rfl (yO (pR hv) rfl rfl (zC rfl (zA ?_))))))))))))
  refine zQ ?_
  refine xY (fun (k : Nat) (n : Int) => [(4, Vi n), (8, v), (9, Vj l.length), (10, Vj k)]) (fun (k : Nat) (n : Int) => k ≤ 2 ∧ ((k = 0 → n = 0) ∧ (k = 1 → n = zI l 0) ∧ (k = 2 → n = zI l 0 + zI l 1)) ∧ ((k < 2 → 0 ≤ n) ∧ n ≤ 9223372036854775807)) (fun (k : Nat) (n : Int) => []) (fun (k : Nat) (n : Int) => 2 - k) (fun w' hw => ⟨0, 0, ⟨rfl, rfl, rfl, rfl, trivial⟩, ⟨by omega, ⟨fun _ => rfl, by omega, by omega⟩, ⟨fun _ => by omega, by omega⟩⟩, hw⟩) (fun k n g hΦ => ?_)
  have hkl := hΦ.1
  have hkI := hΦ.2.1
  have hkn := hΦ.2.2
  refine zB (yZ rfl rfl rfl (zA (zL (zZ rfl (fun c1 => ?_) (fun c1 => ?_)))))
  ·
   have hk2 : k < 2 := by omega
   have hkx : (k = 0 → zI l k = zI l 0) ∧ (k = 1 → zI l k = zI l 1) := ⟨fun h => by rw [h], fun h => by rw [h]⟩
   have hkb : -9223372036854775808 ≤ zI l k ∧ zI l k ≤ 9223372036854775807 := by rcases (show k = 0 ∨ k = 1 by omega) with h | h <;> rw [h] <;> omega
   refine zM (zL (zQ (zB (zH (pR hv) 1 k rfl rfl rfl (by omega) rfl (zR (pR hv) 1 k 0 (fun _ => rfl) rfl rfl (by omega) rfl rfl (zD rfl (zA (zB (zD rfl (zA (zB (zC rfl ?_))))))))))))
   refine zC rfl (zK rfl rfl (fun w' hw => (zLn n (zI l k) w' ⟨hkn.1 hk2, hkn.2⟩ hkb).mono ?_))
   rintro _ w1 ⟨n1_, e2_, rfl, hf6_2, hO⟩
   refine (?_ : CL _ _ _ _ _ _ (Own w [] [])) w1 (hw.frame0 hO)
   refine zC rfl (zp (vs := [Vi n1_, Vi e2_]) rfl rfl rfl (zp (vs := [Vi n1_, Vi e2_]) rfl rfl rfl (zD rfl (zD rfl (zA (zB (zC rfl (kU rfl rfl rfl (zA (zZ rfl (fun c2 => ?_) (fun c2 => ?_)))))))))))
   ·
    refine zB (zC rfl (zD rfl (zD rfl (zA ?_))))
    exact zP (xk (v := Vi 0) (v' := Vi e2_) rfl rfl rfl (fun w' hw => ⟨0, e2_, rfl, .inl ⟨((zBw hk2 hkI hkx hf6_2 h0 h1).1 c2).1, ((zBw hk2 hkI hkx hf6_2 h0 h1).1 c2).2, rfl⟩, hw.drop⟩))
   ·
    refine zM (zj (z6 rfl rfl (zz (by omega)) rfl (zC rfl ?_)))
    exact zf (fun w' hw => ⟨k + 1, n1_, ⟨rfl, rfl, rfl, rfl, trivial⟩, ⟨by omega, (zBw hk2 hkI hkx hf6_2 h0 h1).2 c2⟩, hw, (by omega)⟩)
  ·
   refine yK rfl (zB (zC rfl (zD rfl (zD rfl (zA ?_)))))
   exact zP (xk (v := Vi n) (v' := Vi 0) rfl rfl rfl (fun w' hw => ⟨n, 0, rfl, .inr ⟨by have := hkI.2.2 (by omega); omega, rfl, hkI.2.2 (by omega)⟩, hw.drop⟩))
theorem zL3 {S : List Nat} (b bm lm : Nat) (now : Int) (cnt : Nat) (kb : List (ByteArray × Int)) (kl : List (Nat × LeaD)) (k : ByteArray) (a : Int) (w : World) (hin : Own w S [Res.row b 111 [.map (some bm), .map (some lm), Vi now, Vn cnt], Res.mp Value.string zw bm kb, Res.mp zq zU lm kl] w) : Rets Tryz.prog 62 #[.pointer (some ⟨b, 0, none⟩), .string k, Vi a] w fun u_ w' => ∃ (n e : Int) (kb' : List (ByteArray × Int)), u_ = .tuple #[Vi n, Vi e] ∧ e = kX k a kb ∧ kb' = zCq k a kb ∧ (n = if e = 0 then yS k kl else 0) ∧ Own w S [Res.row b 111 [.map (some bm), .map (some lm), Vi now, Vn cnt], Res.mp Value.string zw bm kb', Res.mp zq zU lm kl] w' := by
  refine zb Tryz.func62 rfl Tryz.ntmps62 hin ?_
  refine zB (zD rfl (zD rfl (zA (zL (zB (zC rfl (yz (by kernel_rfl) rfl rfl rfl (zC rfl (zS rfl rfl (zC rfl (zS rfl rfl (zK rfl rfl (fun w' hw => ?_)))))))))))))
  refine (zBq k w').mono ?_
  rintro _ w1 ⟨rfl, hO⟩
  refine (?_ : CL _ _ _ _ _ _ (Own w S [Res.row b 111 [.map (some bm), .map (some lm), Vi now, Vn cnt], Res.mp Value.string zw bm kb, Res.mp zq zU lm kl])) w1 (hw.frame0 hO)
  refine zS rfl rfl (kR (q := yY k) rfl rfl (xo rfl rfl (zC rfl (y6 (q := ¬ (yY k)) 2 7 [19, 18] (a < 0) rfl rfl rfl rfl rfl rfl trivial rfl (fun h1_7 => ?_) (fun g1_10 => ?_)))))
  ·
   refine zS rfl (gF h1_7) (zC rfl (zS rfl (gF h1_7) (yZ rfl rfl rfl ?_)))
   exact ya rfl (fun _ hw => hw)
  refine zA (zZ rfl (fun c1 => ?_) (fun c1 => ?_))
  ·
   refine zB (zD rfl (zD rfl (zA ?_)))
   exact zP (xk (v := Vi 0) (v' := Vi 1) rfl rfl rfl (fun w' hw => ⟨0, 1, kb, rfl, (zC1 c1).symm, zD4 (zC1 c1) (by decide), rfl, hw⟩))
  ·
   refine zM (zB (zC rfl (zr rfl rfl (zX (o := 0) rfl rfl (zY 0 (v := .map (some bm)) rfl rfl rfl rfl (zC rfl (zDW (k := k) (kv := kb) (zv := 0) zDu zB3 zEL rfl rfl (fun w' hw' => Own.holds hw' 1 _ rfl) rfl (zC rfl (zp (vs := [Vi ((zm k kb).getD 0), .bool ((zm k kb).isSome)]) rfl rfl rfl (zp (vs := [Vi ((zm k kb).getD 0), .bool ((zm k kb).isSome)]) rfl rfl rfl (zD rfl (zD rfl ?_))))))))))))
   refine zA (zL (zQ (zB (zC rfl (xM rfl rfl rfl (zD rfl (zA (zZ rfl (fun c2 => ?_) (fun c2 => ?_)))))))))
   ·
    refine zj (zC rfl (zr rfl rfl (zX (o := 0) rfl rfl (zY 0 (v := .map (some bm)) rfl rfl rfl rfl (zC rfl (zEY 1 (k := k) zDu zB3 rfl rfl rfl (zA (zB (zC rfl (zC rfl (zK rfl rfl (fun w' hw => (zBd b bm lm now cnt kl k w' (hw.give [0, 2] rfl (by decide))).mono ?_))))))))))))
    rintro _ w1 ⟨n1_, rfl, hf9_2, hO⟩
    refine (?_ : CL _ _ _ _ _ _ (Own w S [Res.mp Value.string zw bm (kY k kb), Res.row b 111 [.map (some bm), .map (some lm), Vi now, Vn cnt], Res.mp zq zU lm kl])) w1 (hw.frameL [0, 2] rfl hO)
    refine zD rfl (zD rfl (zA ?_))
    exact zP (xk (v := Vi n1_) (v' := Vi 0) rfl rfl rfl (fun w' hw => ⟨n1_, 0, kY k kb, rfl, (zC4 c1 c2).symm, zHm (zC4 c1 c2) c2, hf9_2, hw.sel [1, 0, 2] rfl (by decide)⟩))
   ·
    refine zB (zC rfl (zAS (b := (zm k kb).isSome) rfl rfl (zC rfl (yW (q := (!((zm k kb).isSome)) = true) 6 2 [53, 52, 51, 50, 49, 48] (64 ≤ ((kb.length : Nat) : Int)) rfl rfl (yr _) rfl rfl rfl trivial rfl (fun h7_2 => ?_) (fun g7_9 => ?_)))))
    ·
     refine zS rfl (bT h7_2) (zC rfl (zS rfl (bT h7_2) (zr rfl rfl (zS rfl (bT h7_2) (zX (o := 0) rfl rfl (zS rfl (bT h7_2) (zY 0 (v := .map (some bm)) rfl rfl rfl rfl (zS rfl (bT h7_2) (zDj Value.string zw (kv := kb) zB3 rfl (fun w' hw' => Own.holds hw' 1 _ rfl) rfl (zS rfl (bT h7_2) (xG rfl rfl rfl ?_)))))))))))
     exact ya rfl (fun _ hw => hw)
    refine zD rfl (zA (zZ rfl (fun c3 => ?_) (fun c3 => ?_)))
    ·
     refine zB (zD rfl (zD rfl (zA ?_)))
     exact zP (xk (v := Vi 0) (v' := Vi 7) rfl rfl rfl (fun w' hw => ⟨0, 7, kb, rfl, (zCH c1 c2 c3).symm, zD4 (zCH c1 c2 c3) (by decide), rfl, hw⟩))
    ·
     refine zj (zC rfl (zr rfl rfl (zX (o := 0) rfl rfl (zY 0 (v := .map (some bm)) rfl rfl rfl rfl (zC rfl (zC rfl (k8 1 (k := k) (v := a) zDu zB3 rfl rfl rfl rfl (zA (zB (zC rfl (zC rfl (zK rfl rfl (fun w' hw => ?_)))))))))))))
     refine (zBd b bm lm now cnt kl k w' (hw.give [0, 2] rfl (by decide))).mono ?_
     rintro _ w1 ⟨n2_, rfl, hf9_2, hO⟩
     refine (?_ : CL _ _ _ _ _ _ (Own w S [Res.mp Value.string zw bm (y5 k a kb), Res.row b 111 [.map (some bm), .map (some lm), Vi now, Vn cnt], Res.mp zq zU lm kl])) w1 (hw.frameL [0, 2] rfl hO)
     refine zD rfl (zD rfl (zA ?_))
     exact zP (xk (v := Vi n2_) (v' := Vi 0) rfl rfl rfl (fun w' hw => ⟨n2_, 0, y5 k a kb, rfl, (zDE c1 c3).symm, zHs (zDE c1 c3) c2, hf9_2, hw.sel [1, 0, 2] rfl (by decide)⟩))
theorem zJ4 (w : World) : Rets Tryz.prog 20 #[] w fun u_ w' => ∃ (b bm lm : Nat), u_ = .pointer (some ⟨b, 0, none⟩) ∧ Own w [] [Res.row b 111 [.map (some bm), .map (some lm), Vi 0, Vn 0], Res.mp Value.string zw bm ([] : List (ByteArray × Int)), Res.mp zq zU lm ([] : List (Nat × LeaD))] w' := by
  refine zb Tryz.func20 rfl Tryz.ntmps20 (Own.start w) ?_
  refine zB (zD rfl (zA (zB (zBA (α := Int) Value.string zw rfl rfl (fun m1 => zBA (α := LeaD) zq zU rfl rfl (fun m2 => yn (cs := [.map (some m1), .map (some m2), Vi 0, Vn 0]) (z := [.map none, .map none, Vi 0, Vn 0]) (pl := [(0, 1), (1, 1), (2, 1), (3, 1)]) (by kernel_rfl) (by kernel_rfl) rfl (yb rfl rfl (fun b4 => zD rfl (zA ?_)))))))))
  exact zP (z8 (v := .pointer (some ⟨b4, 0, none⟩)) rfl rfl (fun w' hw => ⟨b4, m1, m2, rfl, hw.sel [2, 0, 1] rfl (by decide)⟩))
theorem zK4 {S : List Nat} (b bm lm : Nat) (now : Int) (cnt : Nat) (kb : List (ByteArray × Int)) (kl : List (Nat × LeaD)) (s : Nat) (k : ByteArray) (a sp : Int) (w : World) (hlen : 0 ≤ yS k kl ∧ yS k kl ≤ 9223372036854775807) (ha : xD a) (ht : 0 ≤ now ∧ now ≤ 2305843009213693952) (hc : cnt ≤ 1000000000) (hin : Own w S [Res.row b 111 [.map (some bm), .map (some lm), Vi now, Vn cnt], Res.mp Value.string zw bm kb, Res.mp zq zU lm kl] w) : Rets Tryz.prog 64 #[.pointer (some ⟨b, 0, none⟩), Vn s, .string k, Vi a, Vi sp] w fun u_ w' => ∃ (x : LeaD) (e : Int) (cnt' : Nat) (kl' : List (Nat × LeaD)), u_ = .tuple #[.agg (LeaD.cells x).toArray, Vi e] ∧ e = xz s k a sp kb kl ∧ x = j0 e cnt s k a (now + sp) ∧ cnt' = zCi e cnt ∧ kl' = zFU e x kl ∧ Own w S [Res.row b 111 [.map (some bm), .map (some lm), Vi now, Vn cnt'], Res.mp Value.string zw bm kb, Res.mp zq zU lm kl'] w' := by
  refine zb Tryz.func64 rfl Tryz.ntmps64 hin ?_
  refine zB (yL (v := .agg #[Vn 0, Vn 0, .string (⟨#[]⟩ : ByteArray), Vi 0, Vi 0]) (by kernel_rfl) rfl (fun b10 => zD rfl (zA (zL (zB (zC rfl (yz (by kernel_rfl) rfl rfl rfl (zC rfl (zS rfl rfl (zC rfl (zS rfl rfl (xM rfl rfl rfl ?_))))))))))))
  refine xo rfl rfl (zC rfl (y6 (q := ((s : Nat) : Int) = ((0 : Nat) : Int)) 3 6 [26, 25, 24] (¬ (yY k)) rfl rfl rfl rfl rfl rfl trivial rfl (fun h1_6 => ?_) (fun g1_10 => ?_)))
  ·
   refine zS rfl (gF h1_6) (zC rfl (zS rfl (gF h1_6) (zK rfl rfl (fun w' hw => (zBq k w').mono ?_))))
   rintro _ w1 ⟨rfl, hO⟩
   refine (?_ : CL _ _ _ _ _ _ (Own w S [Res.row b 111 [.map (some bm), .map (some lm), Vi now, Vn cnt], Res.mp Value.string zw bm kb, Res.mp zq zU lm kl, Res.row b10 76 [Vn 0, Vn 0, .string (⟨#[]⟩ : ByteArray), Vi 0, Vi 0]])) w1 (hw.frame0 hO)
   refine zS rfl (gF h1_6) (kR (q := yY k) rfl rfl ?_)
   exact ya rfl (fun _ hw => hw)
  refine zC rfl (y6 (q := (((s : Nat) : Int) = ((0 : Nat) : Int)) ∨ (¬ (yY k))) 2 11 [30, 29] (a < 1) rfl rfl rfl rfl rfl rfl trivial rfl (fun h1_11 => ?_) (fun g1_14 => ?_))
  ·
   refine zS rfl (gF h1_11) (zC rfl (zS rfl (gF h1_11) (yZ rfl rfl rfl ?_)))
   exact ya rfl (fun _ hw => hw)
  refine zC rfl (y6 (q := ((((s : Nat) : Int) = ((0 : Nat) : Int)) ∨ (¬ (yY k))) ∨ (a < 1)) 3 15 [35, 34, 33] (¬ (yl sp)) rfl rfl rfl rfl rfl rfl trivial rfl (fun h1_15 => ?_) (fun g1_19 => ?_))
  ·
   refine zS rfl (gF h1_15) (zC rfl (zS rfl (gF h1_15) (zK rfl rfl (fun w' hw => (zG6 sp w').mono ?_))))
   rintro _ w1 ⟨rfl, hO⟩
   refine (?_ : CL _ _ _ _ _ _ (Own w S [Res.row b 111 [.map (some bm), .map (some lm), Vi now, Vn cnt], Res.mp Value.string zw bm kb, Res.mp zq zU lm kl, Res.row b10 76 [Vn 0, Vn 0, .string (⟨#[]⟩ : ByteArray), Vi 0, Vi 0]])) w1 (hw.frame0 hO)
   refine zS rfl (gF h1_15) (kR (q := yl sp) rfl rfl ?_)
   exact ya rfl (fun _ hw => hw)
  refine zA (zZ rfl (fun c1 => ?_) (fun c1 => ?_))
  ·
   refine zB (yn (cs := [Vn 0, Vn 0, .string (⟨#[]⟩ : ByteArray), Vi 0, Vi 0]) (z := [Vn 0, Vn 0, .string (⟨#[]⟩ : ByteArray), Vi 0, Vi 0]) (pl := [(0, 1), (1, 1), (2, 1), (3, 1), (4, 1)]) (by kernel_rfl) (by kernel_rfl) rfl (zo 3 rfl rfl rfl (yI rfl) rfl (zD rfl (zA ?_))))
   exact zP (yf (cs := [Vn 0, Vn 0, .string (⟨#[]⟩ : ByteArray), Vi 0, Vi 0]) (v := Vi 1) rfl rfl rfl (by kernel_rfl) (Own.rowCells (i := 3) rfl) (fun w' hw => ⟨LeaD.zero, 1, cnt, kl, rfl, (zJn (larg.1 c1)).symm, rfl, rfl, rfl, hw.sel [0, 1, 2] rfl (by decide)⟩))
  ·
   have hla : ¬ xj s k a sp := fun q => c1 (larg.2 q)
   have hsp : yl sp := Decidable.by_contra fun q => c1 (.inr q)
   have ha1 : 1 ≤ a := Int.not_lt.1 fun q => c1 (.inl (.inr q))
   unfold yl at hsp
   refine zM (zB (zC rfl (zr rfl rfl (zX (o := 0) rfl rfl (zY 0 (v := .map (some bm)) rfl rfl rfl rfl (zC rfl (zDW (k := k) (kv := kb) (zv := 0) zDu zB3 zEL rfl rfl (fun w' hw' => Own.holds hw' 1 _ rfl) rfl (zC rfl (zp (vs := [Vi ((zm k kb).getD 0), .bool ((zm k kb).isSome)]) rfl rfl rfl (zp (vs := [Vi ((zm k kb).getD 0), .bool ((zm k kb).isSome)]) rfl rfl rfl (zD rfl (zD rfl ?_))))))))))))
   refine zA (zL (zB (zC rfl (zAS (b := (zm k kb).isSome) rfl rfl (zA (zE5 rfl (fun c2 => ?_) (fun c2 => ?_)))))))
   ·
    refine zB (yn (cs := [Vn 0, Vn 0, .string (⟨#[]⟩ : ByteArray), Vi 0, Vi 0]) (z := [Vn 0, Vn 0, .string (⟨#[]⟩ : ByteArray), Vi 0, Vi 0]) (pl := [(0, 1), (1, 1), (2, 1), (3, 1), (4, 1)]) (by kernel_rfl) (by kernel_rfl) rfl (zo 3 rfl rfl rfl (yI rfl) rfl (zD rfl (zA ?_))))
    exact zP (yf (cs := [Vn 0, Vn 0, .string (⟨#[]⟩ : ByteArray), Vi 0, Vi 0]) (v := Vi 8) rfl rfl rfl (by kernel_rfl) (Own.rowCells (i := 3) rfl) (fun w' hw => ⟨LeaD.zero, 8, cnt, kl, rfl, (zLT hla c2).symm, rfl, rfl, rfl, hw.sel [0, 1, 2] rfl (by decide)⟩))
   ·
    have hc2 : ¬ (!(zm k kb).isSome) = true := by rw [c2]; decide
    refine zM (zB (zC rfl (zC rfl (zK rfl rfl (fun w' hw => (zBd b bm lm now cnt kl k w' (hw.give [0, 2] rfl (by decide))).mono ?_)))))
    rintro _ w1 ⟨n1_, rfl, hf6_2, hO⟩
    refine (?_ : CL _ _ _ _ _ _ (Own w S [Res.mp Value.string zw bm kb, Res.row b10 76 [Vn 0, Vn 0, .string (⟨#[]⟩ : ByteArray), Vi 0, Vi 0], Res.row b 111 [.map (some bm), .map (some lm), Vi now, Vn cnt], Res.mp zq zU lm kl])) w1 (hw.frameL [0, 2] rfl hO)
    refine zC rfl (xF (e := 2) (sz := 1) (vs := [Vi n1_, Vi a]) (by kernel_rfl) rfl rfl (by simp [Value.cells]) (by decide) rfl (fun b55 => zK rfl rfl (fun w' hw => (zFo (.slice (some ⟨b55, 0, none⟩) 2 2) [n1_, a] w' rfl (by show 0 ≤ n1_ ∧ n1_ ≤ _; rw [hf6_2]; exact hlen) (by show _ ≤ a ∧ a ≤ _; exact ⟨by omega, ha.2⟩) (hw.rdVec0 4 rfl)).mono ?_)))
    rintro _ w1 ⟨n2_, e3_, rfl, hf6_5, hO⟩
    have hsum := zHH hf6_5 hf6_2
    refine (?_ : CL _ _ _ _ _ _ (Own w S [Res.mp Value.string zw bm kb, Res.row b10 76 [Vn 0, Vn 0, .string (⟨#[]⟩ : ByteArray), Vi 0, Vi 0], Res.row b 111 [.map (some bm), .map (some lm), Vi now, Vn cnt], Res.mp zq zU lm kl, Res.vec 2 1 (.slice (some ⟨b55, 0, none⟩) 2 2) [n1_, a].length ([n1_, a].flatMap I1)])) w1 (hw.frame0 hO)
    refine zC rfl (zp (vs := [Vi n2_, Vi e3_]) rfl rfl rfl (zp (vs := [Vi n2_, Vi e3_]) rfl rfl rfl (zD rfl (zD rfl (zA (zL (zQ (zB (zC rfl (kU rfl rfl rfl (zD rfl (zA ?_))))))))))))
    refine zZ rfl (fun c3 => ?_) (fun c3 => ?_)
    ·
     refine zB (yn (cs := [Vn 0, Vn 0, .string (⟨#[]⟩ : ByteArray), Vi 0, Vi 0]) (z := [Vn 0, Vn 0, .string (⟨#[]⟩ : ByteArray), Vi 0, Vi 0]) (pl := [(0, 1), (1, 1), (2, 1), (3, 1), (4, 1)]) (by kernel_rfl) (by kernel_rfl) rfl (zC rfl (zo 1 rfl rfl rfl (yI rfl) rfl (zD rfl (zA ?_)))))
     exact zP (yf (cs := [Vn 0, Vn 0, .string (⟨#[]⟩ : ByteArray), Vi 0, Vi 0]) (v := Vi e3_) rfl rfl rfl (by kernel_rfl) (Own.rowCells (i := 1) rfl) (fun w' hw => ⟨LeaD.zero, e3_, cnt, kl, rfl, (by rw [(jw hsum c3).2]; exact (zME hla hc2 (jw hsum c3).1).symm), (by rw [(jw hsum c3).2]; rfl), (by rw [(jw hsum c3).2]; rfl), (by rw [(jw hsum c3).2]; rfl), hw.sel [2, 0, 3] rfl (by decide)⟩))
    ·
     refine zB (zC rfl (zC rfl (y9 rfl rfl rfl (zD rfl (zA (zZ rfl (fun c4 => ?_) (fun c4 => ?_)))))))
     ·
      refine zB (yn (cs := [Vn 0, Vn 0, .string (⟨#[]⟩ : ByteArray), Vi 0, Vi 0]) (z := [Vn 0, Vn 0, .string (⟨#[]⟩ : ByteArray), Vi 0, Vi 0]) (pl := [(0, 1), (1, 1), (2, 1), (3, 1), (4, 1)]) (by kernel_rfl) (by kernel_rfl) rfl (zo 1 rfl rfl rfl (yI rfl) rfl (zD rfl (zA ?_))))
      exact zP (yf (cs := [Vn 0, Vn 0, .string (⟨#[]⟩ : ByteArray), Vi 0, Vi 0]) (v := Vi 16) rfl rfl rfl (by kernel_rfl) (Own.rowCells (i := 1) rfl) (fun w' hw => ⟨LeaD.zero, 16, cnt, kl, rfl, (zKn hla hc2 (jJ hsum c3).1 (by rw [← (jJ hsum c3).2]; exact c4)).symm, rfl, rfl, rfl, hw.sel [2, 0, 3] rfl (by decide)⟩))
     ·
      refine zB (zC rfl (zr rfl rfl (zX (o := 1) rfl rfl (zY 2 (v := .map (some lm)) rfl rfl rfl rfl (zDj zq zU (kv := kl) zBn rfl (fun w' hw' => Own.holds hw' 3 _ rfl) rfl (xG rfl rfl rfl (zD rfl (zA (zZ rfl (fun c5 => ?_) (fun c5 => ?_))))))))))
      ·
       refine zB (yn (cs := [Vn 0, Vn 0, .string (⟨#[]⟩ : ByteArray), Vi 0, Vi 0]) (z := [Vn 0, Vn 0, .string (⟨#[]⟩ : ByteArray), Vi 0, Vi 0]) (pl := [(0, 1), (1, 1), (2, 1), (3, 1), (4, 1)]) (by kernel_rfl) (by kernel_rfl) rfl (zo 1 rfl rfl rfl (yI rfl) rfl (zD rfl (zA ?_))))
       exact zP (yf (cs := [Vn 0, Vn 0, .string (⟨#[]⟩ : ByteArray), Vi 0, Vi 0]) (v := Vi 7) rfl rfl rfl (by kernel_rfl) (Own.rowCells (i := 1) rfl) (fun w' hw => ⟨LeaD.zero, 7, cnt, kl, rfl, (zLS hla hc2 (jJ hsum c3).1 (by rw [← (jJ hsum c3).2]; exact c4) c5).symm, rfl, rfl, rfl, hw.sel [2, 0, 3] rfl (by decide)⟩))
      ·
       refine zM (zB (zC rfl (zr rfl rfl (zX (o := 3) rfl rfl (zY 2 (v := Vn cnt) rfl rfl rfl rfl (z6 rfl rfl (kq (by omega)) rfl (zr rfl rfl (zX (o := 3) rfl rfl (xr (cs := [.map (some bm), .map (some lm), Vi now, Vn cnt]) 2 rfl rfl rfl rfl rfl (zA (zL (zi [0, 1, 2, 3, 4] rfl (by decide) (by kernel_rfl) (fun w' hw hS => ?_)))))))))))))
       refine zG 0 rfl (zN) hS (zG 1 rfl (yJ rfl) hS (zG 2 rfl (zy (o := 3) rfl) hS (zG 3 rfl (z7 2 (v := Vn (cnt + 1)) rfl rfl rfl) hS (zG 4 rfl (zN) hS (zG 5 rfl (zN) hS (zG 6 rfl (zN) hS (zG 7 rfl (zN) hS (zG 8 rfl (yJ rfl) hS (zG 9 rfl (zy (o := 2) rfl) hS (zG 10 rfl (z7 2 (v := Vi now) rfl rfl rfl) hS (zG 11 rfl (zN) hS (zG 12 rfl (kF rfl rfl (zz (by omega))) hS ?_))))))))))))
       refine zG 13 rfl (jq (cs := [Vn (cnt + 1), Vn s, .string k, Vi a, Vi (now + sp)]) (z := [Vn 0, Vn 0, .string (⟨#[]⟩ : ByteArray), Vi 0, Vi 0]) (pl := [(0, 1), (1, 1), (2, 1), (3, 1), (4, 1)]) (by kernel_rfl) (by kernel_rfl)) hS (ze 14 rfl hw (yL (v := .agg #[Vn 0, Vn 0, .string (⟨#[]⟩ : ByteArray), Vi 0, Vi 0]) (by kernel_rfl) rfl (fun b16 => zF [0, 1, 2, 3, 4] rfl (by decide) (fun w' hw hS => ze 15 rfl hw (zo 5 rfl rfl rfl (yI rfl) rfl (zF [0, 1, 2, 3, 4] rfl (by decide) (fun w' hw hS => zO ?_)))))))
       refine (?_ : C _ _ _ _ _ _ _ (Own w S [Res.mp Value.string zw bm kb, Res.row b10 76 [Vn 0, Vn 0, .string (⟨#[]⟩ : ByteArray), Vi 0, Vi 0], Res.row b 111 [.map (some bm), .map (some lm), Vi now, Vn (cnt + 1)], Res.mp zq zU lm kl, Res.vec 2 1 (.slice (some ⟨b55, 0, none⟩) 2 2) [n1_, a].length ([n1_, a].flatMap I1), Res.row b16 76 [Vn (cnt + 1), Vn s, .string k, Vi a, Vi (now + sp)]])) _ hw
       refine zL (zi [0, 1, 2, 4, 5] rfl (by decide) (by kernel_rfl) (fun w' hw hS => zG 0 rfl (zN) hS (zG 1 rfl (yJ rfl) hS (zG 2 rfl (zy (o := 1) rfl) hS (zG 3 rfl (z7 2 (v := .map (some lm)) rfl rfl rfl) hS (zG 4 rfl (zy (o := 0) rfl) hS (zG 5 rfl (z7 4 (v := Vn (cnt + 1)) rfl rfl rfl) hS (zG 6 rfl (je (cs := [Vn (cnt + 1), Vn s, .string k, Vi a, Vi (now + sp)]) 4 rfl rfl) hS (ze 7 rfl hw (k8 3 (k := cnt + 1) (v := ({ id := cnt + 1, session := s, key := k, amount := a, until_ := now + sp } : LeaD)) zET zBn rfl rfl rfl rfl (zF [0, 1, 2, 4, 5] rfl (by decide) (fun w' hw hS => zO ?_))))))))))))
       refine (?_ : C _ _ _ _ _ _ _ (Own w S [Res.mp Value.string zw bm kb, Res.row b10 76 [Vn 0, Vn 0, .string (⟨#[]⟩ : ByteArray), Vi 0, Vi 0], Res.row b 111 [.map (some bm), .map (some lm), Vi now, Vn (cnt + 1)], Res.mp zq zU lm (y5 (cnt + 1) ({ id := cnt + 1, session := s, key := k, amount := a, until_ := now + sp } : LeaD) kl), Res.vec 2 1 (.slice (some ⟨b55, 0, none⟩) 2 2) [n1_, a].length ([n1_, a].flatMap I1), Res.row b16 76 [Vn (cnt + 1), Vn s, .string k, Vi a, Vi (now + sp)]])) _ hw
       refine zB (yd (cs := [Vn (cnt + 1), Vn s, .string k, Vi a, Vi (now + sp)]) 5 rfl rfl rfl (zo 1 rfl rfl rfl (yI rfl) rfl (zD rfl (zA ?_))))
       exact zP (yf (cs := [Vn (cnt + 1), Vn s, .string k, Vi a, Vi (now + sp)]) (v := Vi 0) rfl rfl rfl (by kernel_rfl) (Own.rowCells (i := 1) rfl) (fun w' hw => ⟨⟨cnt + 1, s, k, a, now + sp⟩, 0, cnt + 1, y5 (cnt + 1) ⟨cnt + 1, s, k, a, now + sp⟩ kl, rfl, (zLu hla hc2 (jJ hsum c3).1 (by rw [← (jJ hsum c3).2]; exact c4) c5).symm, rfl, rfl, rfl, hw.sel [2, 0, 3] rfl (by decide)⟩))
theorem zIf {S : List Nat} (b bm lm : Nat) (now : Int) (cnt : Nat) (kb : List (ByteArray × Int)) (kl : List (Nat × LeaD)) (s i : Nat) (sp : Int) (w : World) (ht : 0 ≤ now ∧ now ≤ 2305843009213693952) (hin : Own w S [Res.row b 111 [.map (some bm), .map (some lm), Vi now, Vn cnt], Res.mp Value.string zw bm kb, Res.mp zq zU lm kl] w) : Rets Tryz.prog 65 #[.pointer (some ⟨b, 0, none⟩), Vn s, Vn i, Vi sp] w fun u_ w' => ∃ (x : LeaD) (e : Int) (kl' : List (Nat × LeaD)), u_ = .tuple #[.agg (LeaD.cells x).toArray, Vi e] ∧ zBP now kb kl s i sp x e kl' ∧ Own w S [Res.row b 111 [.map (some bm), .map (some lm), Vi now, Vn cnt], Res.mp Value.string zw bm kb, Res.mp zq zU lm kl'] w' := by
  refine zb Tryz.func65 rfl Tryz.ntmps65 hin ?_
  refine zB (yL (v := .agg #[Vn 0, Vn 0, .string (⟨#[]⟩ : ByteArray), Vi 0, Vi 0]) (by kernel_rfl) rfl (fun b8 => zD rfl (zA (zL (zB (zC rfl (yz (by kernel_rfl) rfl rfl rfl (zC rfl (zS rfl rfl (zC rfl (zS rfl rfl (zK rfl rfl (fun w' hw => ?_)))))))))))))
  refine (zG6 sp w').mono ?_
  rintro _ w1 ⟨rfl, hO⟩
  refine (?_ : CL _ _ _ _ _ _ (Own w S [Res.row b 111 [.map (some bm), .map (some lm), Vi now, Vn cnt], Res.mp Value.string zw bm kb, Res.mp zq zU lm kl, Res.row b8 76 [Vn 0, Vn 0, .string (⟨#[]⟩ : ByteArray), Vi 0, Vi 0]])) w1 (hw.frame0 hO)
  refine zS rfl rfl (kR (q := yl sp) rfl rfl (xo rfl rfl (zA (zZ rfl (fun c1 => ?_) (fun c1 => ?_)))))
  ·
   refine zB (yn (cs := [Vn 0, Vn 0, .string (⟨#[]⟩ : ByteArray), Vi 0, Vi 0]) (z := [Vn 0, Vn 0, .string (⟨#[]⟩ : ByteArray), Vi 0, Vi 0]) (pl := [(0, 1), (1, 1), (2, 1), (3, 1), (4, 1)]) (by kernel_rfl) (by kernel_rfl) rfl (zo 3 rfl rfl rfl (yI rfl) rfl (zD rfl (zA ?_))))
   exact zP (yf (cs := [Vn 0, Vn 0, .string (⟨#[]⟩ : ByteArray), Vi 0, Vi 0]) (v := Vi 1) rfl rfl rfl (by kernel_rfl) (Own.rowCells (i := 3) rfl) (fun w' hw => ⟨LeaD.zero, 1, kl, rfl, .inl ⟨c1, rfl, rfl, rfl⟩, hw.sel [0, 1, 2] rfl (by decide)⟩))
  ·
   have hsp : 1 ≤ sp ∧ sp ≤ 1099511627776 := Decidable.not_not.1 c1
   refine zM (zB (zC rfl (zC rfl (zC rfl (zK rfl rfl (fun w' hw => (zGm b bm lm now cnt kl s i w' (hw.give [0, 2] rfl (by decide))).mono ?_))))))
   rintro _ w1 ⟨x1_, e2_, rfl, hf3_3, hO⟩
   refine (?_ : CL _ _ _ _ _ _ (Own w S [Res.mp Value.string zw bm kb, Res.row b8 76 [Vn 0, Vn 0, .string (⟨#[]⟩ : ByteArray), Vi 0, Vi 0], Res.row b 111 [.map (some bm), .map (some lm), Vi now, Vn cnt], Res.mp zq zU lm kl])) w1 (hw.frameL [0, 2] rfl hO)
   refine zC rfl (zp (vs := [.agg (LeaD.cells x1_).toArray, Vi e2_]) rfl rfl rfl (zp (vs := [.agg (LeaD.cells x1_).toArray, Vi e2_]) rfl rfl rfl (yL (v := .agg #[Vn 0, Vn 0, .string (⟨#[]⟩ : ByteArray), Vi 0, Vi 0]) (by kernel_rfl) rfl (fun b10 => zo 4 rfl rfl rfl (yI rfl) rfl (zD rfl (zA (zL (zQ (zB (zC rfl (kU rfl rfl rfl (zD rfl ?_))))))))))))
   refine zA (zZ rfl (fun c2 => ?_) (fun c2 => ?_))
   ·
    refine zB (yn (cs := [Vn 0, Vn 0, .string (⟨#[]⟩ : ByteArray), Vi 0, Vi 0]) (z := [Vn 0, Vn 0, .string (⟨#[]⟩ : ByteArray), Vi 0, Vi 0]) (pl := [(0, 1), (1, 1), (2, 1), (3, 1), (4, 1)]) (by kernel_rfl) (by kernel_rfl) rfl (zC rfl (zo 1 rfl rfl rfl (yI rfl) rfl (zD rfl (zA ?_)))))
    exact zP (yf (cs := [Vn 0, Vn 0, .string (⟨#[]⟩ : ByteArray), Vi 0, Vi 0]) (v := Vi e2_) rfl rfl rfl (by kernel_rfl) (Own.rowCells (i := 1) rfl) (fun w' hw => ⟨LeaD.zero, e2_, kl, rfl, zGG c1 hf3_3 c2, hw.sel [2, 0, 3] rfl (by decide)⟩))
   ·
    refine zL (zi [0, 1, 4] rfl (by decide) (by kernel_rfl) (fun w' hw hS => zG 0 rfl (zN) hS (zG 1 rfl (zy (o := 2) rfl) hS (zG 2 rfl (z7 2 (v := .string x1_.key) rfl rfl rfl) hS (zG 4 rfl (zN) hS (zG 5 rfl (yJ rfl) hS (zG 6 rfl (zy (o := 0) rfl) hS (zG 8 rfl (zy (o := 2) rfl) hS (zG 9 rfl (z7 2 (v := .string x1_.key) rfl rfl rfl) hS (zc 3 7 ?_ ?_))))))))))
    ·
     refine zT 3 rfl hw (zK rfl rfl (fun w' hw => (zBd b bm lm now cnt kl x1_.key w' (hw.give [2, 3] rfl (by decide))).mono ?_))
     rintro _ w1 ⟨n3_, rfl, hf6_3, hO⟩
     refine (?_ : CL _ _ _ _ _ _ (Own w S [Res.mp Value.string zw bm kb, Res.row b8 76 [Vn 0, Vn 0, .string (⟨#[]⟩ : ByteArray), Vi 0, Vi 0], Res.row b10 76 (LeaD.cells x1_), Res.row b 111 [.map (some bm), .map (some lm), Vi now, Vn cnt], Res.mp zq zU lm kl])) w1 (hw.frameL [2, 3] rfl hO)
     refine zF [0, 1, 2] rfl (by decide) (fun w' hw hS => ze 7 rfl hw (zY 3 (v := .map (some bm)) rfl rfl rfl rfl (zF [0, 1, 2] rfl (by decide) (fun w' hw hS => zG 10 rfl (zHL (k := x1_.key) (kv := kb) (zv := 0) zDu zB3 zEL rfl rfl (fun w' hw' => Own.holds hw' 0 _ rfl)) hS (zG 11 rfl (zA8 rfl rfl) hS (zG 12 rfl (xV) hS (zO ?_)))))))
     refine (?_ : C _ _ _ _ _ _ _ (Own w S [Res.mp Value.string zw bm kb, Res.row b8 76 [Vn 0, Vn 0, .string (⟨#[]⟩ : ByteArray), Vi 0, Vi 0], Res.row b10 76 (LeaD.cells x1_), Res.row b 111 [.map (some bm), .map (some lm), Vi now, Vn cnt], Res.mp zq zU lm kl])) _ hw
     refine zZ rfl (fun c3 => ?_) (fun c3 => ?_)
     ·
      refine zB (yn (cs := [Vn 0, Vn 0, .string (⟨#[]⟩ : ByteArray), Vi 0, Vi 0]) (z := [Vn 0, Vn 0, .string (⟨#[]⟩ : ByteArray), Vi 0, Vi 0]) (pl := [(0, 1), (1, 1), (2, 1), (3, 1), (4, 1)]) (by kernel_rfl) (by kernel_rfl) rfl (zo 1 rfl rfl rfl (yI rfl) rfl (zD rfl (zA ?_))))
      exact zP (yf (cs := [Vn 0, Vn 0, .string (⟨#[]⟩ : ByteArray), Vi 0, Vi 0]) (v := Vi 16) rfl rfl rfl (by kernel_rfl) (Own.rowCells (i := 1) rfl) (fun w' hw => ⟨LeaD.zero, 16, kl, rfl, zEb c1 hf3_3 c2 hf6_3 c3, hw.sel [3, 0, 4] rfl (by decide)⟩))
     ·
      refine zM (zL (zi [0, 1, 3, 4] rfl (by decide) (by kernel_rfl) (fun w' hw hS => zG 0 rfl (zy (o := 4) rfl) hS (zG 2 rfl (zN) hS (zG 3 rfl (yJ rfl) hS (zG 4 rfl (zy (o := 2) rfl) hS (zG 5 rfl (z7 2 (v := Vi now) rfl rfl rfl) hS (zG 6 rfl (zN) hS (zG 7 rfl (kF rfl rfl (zz (by omega))) hS (ze 1 rfl hw (zY 2 (v := Vi x1_.until_) rfl rfl rfl rfl (zF [0, 1, 3, 4] rfl (by decide) (fun w' hw hS => ?_)))))))))))))
      refine zG 8 rfl (zHx (c := max x1_.until_ (now + sp)) rfl rfl (zLg _ _)) hS (zG 9 rfl (zy (o := 4) rfl) hS (ze 10 rfl hw (xr (cs := (LeaD.cells x1_)) 2 rfl rfl rfl rfl rfl (zF [0, 1, 3, 4] rfl (by decide) (fun w' hw hS => zO ?_)))))
      refine (?_ : C _ _ _ _ _ _ _ (Own w S [Res.mp Value.string zw bm kb, Res.row b8 76 [Vn 0, Vn 0, .string (⟨#[]⟩ : ByteArray), Vi 0, Vi 0], Res.row b10 76 [Vn x1_.id, Vn x1_.session, .string x1_.key, Vi x1_.amount, Vi (max x1_.until_ (now + sp))], Res.row b 111 [.map (some bm), .map (some lm), Vi now, Vn cnt], Res.mp zq zU lm kl])) _ hw
      refine zL (zi [0, 1, 2, 3] rfl (by decide) (by kernel_rfl) (fun w' hw hS => zG 0 rfl (zN) hS (zG 1 rfl (yJ rfl) hS (zG 2 rfl (zy (o := 1) rfl) hS (zG 3 rfl (z7 3 (v := .map (some lm)) rfl rfl rfl) hS (zG 4 rfl (zN) hS (zG 5 rfl (je 2 rfl rfl) hS (ze 6 rfl hw (k8 4 (k := i) (v := ({ x1_ with until_ := max x1_.until_ (now + sp) } : LeaD)) zET zBn rfl rfl rfl rfl (zF [0, 1, 2, 3] rfl (by decide) (fun w' hw hS => zO ?_)))))))))))
      refine (?_ : C _ _ _ _ _ _ _ (Own w S [Res.mp Value.string zw bm kb, Res.row b8 76 [Vn 0, Vn 0, .string (⟨#[]⟩ : ByteArray), Vi 0, Vi 0], Res.row b10 76 [Vn x1_.id, Vn x1_.session, .string x1_.key, Vi x1_.amount, Vi (max x1_.until_ (now + sp))], Res.row b 111 [.map (some bm), .map (some lm), Vi now, Vn cnt], Res.mp zq zU lm (y5 i ({ x1_ with until_ := max x1_.until_ (now + sp) } : LeaD) kl)])) _ hw
      refine zB (yd 2 rfl rfl rfl (zo 1 rfl rfl rfl (yI rfl) rfl (zD rfl (zA ?_))))
      exact zP (yf (cs := [Vn x1_.id, Vn x1_.session, .string x1_.key, Vi x1_.amount, Vi (max x1_.until_ (now + sp))]) (v := Vi 0) rfl rfl rfl (by kernel_rfl) (Own.rowCells (i := 1) rfl) (fun w' hw => ⟨x7 x1_ (now + sp), 0, y5 i (x7 x1_ (now + sp)) kl, rfl, zFf c1 hf3_3 c2 hf6_3 c3, hw.sel [3, 0, 4] rfl (by decide)⟩))
    ·
     refine zT 7 rfl hw (zY 2 (v := .map (some bm)) rfl rfl rfl rfl (zF [0, 1, 4] rfl (by decide) (fun w' hw hS => zG 10 rfl (zHL (k := x1_.key) (kv := kb) (zv := 0) zDu zB3 zEL rfl rfl (fun w' hw' => Own.holds hw' 0 _ rfl)) hS (ze 3 rfl hw (zK rfl rfl (fun w' hw => (zBd b bm lm now cnt kl x1_.key w' (hw.give [2, 3] rfl (by decide))).mono ?_))))))
     rintro _ w1 ⟨n4_, rfl, hf6_3, hO⟩
     refine (?_ : CL _ _ _ _ _ _ (Own w S [Res.mp Value.string zw bm kb, Res.row b8 76 [Vn 0, Vn 0, .string (⟨#[]⟩ : ByteArray), Vi 0, Vi 0], Res.row b10 76 (LeaD.cells x1_), Res.row b 111 [.map (some bm), .map (some lm), Vi now, Vn cnt], Res.mp zq zU lm kl])) w1 (hw.frameL [2, 3] rfl hO)
     refine zF [0, 1, 2] rfl (by decide) (fun w' hw hS => zG 11 rfl (zA8 rfl rfl) hS (zG 12 rfl (xV) hS (zO ?_)))
     refine (?_ : C _ _ _ _ _ _ _ (Own w S [Res.mp Value.string zw bm kb, Res.row b8 76 [Vn 0, Vn 0, .string (⟨#[]⟩ : ByteArray), Vi 0, Vi 0], Res.row b10 76 (LeaD.cells x1_), Res.row b 111 [.map (some bm), .map (some lm), Vi now, Vn cnt], Res.mp zq zU lm kl])) _ hw
     refine zZ rfl (fun c4 => ?_) (fun c4 => ?_)
     ·
      refine zB (yn (cs := [Vn 0, Vn 0, .string (⟨#[]⟩ : ByteArray), Vi 0, Vi 0]) (z := [Vn 0, Vn 0, .string (⟨#[]⟩ : ByteArray), Vi 0, Vi 0]) (pl := [(0, 1), (1, 1), (2, 1), (3, 1), (4, 1)]) (by kernel_rfl) (by kernel_rfl) rfl (zo 1 rfl rfl rfl (yI rfl) rfl (zD rfl (zA ?_))))
      exact zP (yf (cs := [Vn 0, Vn 0, .string (⟨#[]⟩ : ByteArray), Vi 0, Vi 0]) (v := Vi 16) rfl rfl rfl (by kernel_rfl) (Own.rowCells (i := 1) rfl) (fun w' hw => ⟨LeaD.zero, 16, kl, rfl, zEb c1 hf3_3 c2 hf6_3 c4, hw.sel [3, 0, 4] rfl (by decide)⟩))
     ·
      refine zM (zL (zi [0, 1, 3, 4] rfl (by decide) (by kernel_rfl) (fun w' hw hS => zG 0 rfl (zy (o := 4) rfl) hS (zG 2 rfl (zN) hS (zG 3 rfl (yJ rfl) hS (zG 4 rfl (zy (o := 2) rfl) hS (zG 5 rfl (z7 2 (v := Vi now) rfl rfl rfl) hS (zG 6 rfl (zN) hS (zG 7 rfl (kF rfl rfl (zz (by omega))) hS (ze 1 rfl hw (zY 2 (v := Vi x1_.until_) rfl rfl rfl rfl (zF [0, 1, 3, 4] rfl (by decide) (fun w' hw hS => ?_)))))))))))))
      refine zG 8 rfl (zHx (c := max x1_.until_ (now + sp)) rfl rfl (zLg _ _)) hS (zG 9 rfl (zy (o := 4) rfl) hS (ze 10 rfl hw (xr (cs := (LeaD.cells x1_)) 2 rfl rfl rfl rfl rfl (zF [0, 1, 3, 4] rfl (by decide) (fun w' hw hS => zO ?_)))))
      refine (?_ : C _ _ _ _ _ _ _ (Own w S [Res.mp Value.string zw bm kb, Res.row b8 76 [Vn 0, Vn 0, .string (⟨#[]⟩ : ByteArray), Vi 0, Vi 0], Res.row b10 76 [Vn x1_.id, Vn x1_.session, .string x1_.key, Vi x1_.amount, Vi (max x1_.until_ (now + sp))], Res.row b 111 [.map (some bm), .map (some lm), Vi now, Vn cnt], Res.mp zq zU lm kl])) _ hw
      refine zL (zi [0, 1, 2, 3] rfl (by decide) (by kernel_rfl) (fun w' hw hS => zG 0 rfl (zN) hS (zG 1 rfl (yJ rfl) hS (zG 2 rfl (zy (o := 1) rfl) hS (zG 3 rfl (z7 3 (v := .map (some lm)) rfl rfl rfl) hS (zG 4 rfl (zN) hS (zG 5 rfl (je 2 rfl rfl) hS (ze 6 rfl hw (k8 4 (k := i) (v := ({ x1_ with until_ := max x1_.until_ (now + sp) } : LeaD)) zET zBn rfl rfl rfl rfl (zF [0, 1, 2, 3] rfl (by decide) (fun w' hw hS => zO ?_)))))))))))
      refine (?_ : C _ _ _ _ _ _ _ (Own w S [Res.mp Value.string zw bm kb, Res.row b8 76 [Vn 0, Vn 0, .string (⟨#[]⟩ : ByteArray), Vi 0, Vi 0], Res.row b10 76 [Vn x1_.id, Vn x1_.session, .string x1_.key, Vi x1_.amount, Vi (max x1_.until_ (now + sp))], Res.row b 111 [.map (some bm), .map (some lm), Vi now, Vn cnt], Res.mp zq zU lm (y5 i ({ x1_ with until_ := max x1_.until_ (now + sp) } : LeaD) kl)])) _ hw
      refine zB (yd 2 rfl rfl rfl (zo 1 rfl rfl rfl (yI rfl) rfl (zD rfl (zA ?_))))
      exact zP (yf (cs := [Vn x1_.id, Vn x1_.session, .string x1_.key, Vi x1_.amount, Vi (max x1_.until_ (now + sp))]) (v := Vi 0) rfl rfl rfl (by kernel_rfl) (Own.rowCells (i := 1) rfl) (fun w' hw => ⟨x7 x1_ (now + sp), 0, y5 i (x7 x1_ (now + sp)) kl, rfl, zFf c1 hf3_3 c2 hf6_3 c4, hw.sel [3, 0, 4] rfl (by decide)⟩))
theorem zKH {S : List Nat} (b bm lm : Nat) (now : Int) (cnt : Nat) (kl : List (Nat × LeaD)) (s i : Nat) (w : World) (hin : Own w S [Res.row b 111 [.map (some bm), .map (some lm), Vi now, Vn cnt], Res.mp zq zU lm kl] w) : Rets Tryz.prog 66 #[.pointer (some ⟨b, 0, none⟩), Vn s, Vn i] w fun u_ w' => ∃ (x : LeaD) (e : Int) (kl' : List (Nat × LeaD)), u_ = .tuple #[.agg (LeaD.cells x).toArray, Vi e] ∧ zEA kl s i x e kl' ∧ Own w S [Res.row b 111 [.map (some bm), .map (some lm), Vi now, Vn cnt], Res.mp zq zU lm kl'] w' := by
  refine zb Tryz.func66 rfl Tryz.ntmps66 hin ?_
  refine zB (yL (v := .agg #[Vn 0, Vn 0, .string (⟨#[]⟩ : ByteArray), Vi 0, Vi 0]) (by kernel_rfl) rfl (fun b6 => zD rfl (zA (zL (zB (zC rfl (yz (by kernel_rfl) rfl rfl rfl (zA (xO rfl (zM (zB (zC rfl ?_))))))))))))
  refine zC rfl (zC rfl (zK rfl rfl (fun w' hw => (zGm b bm lm now cnt kl s i w' (hw.give [0, 1] rfl (by decide))).mono ?_)))
  rintro _ w1 ⟨x1_, e2_, rfl, hf3_3, hO⟩
  refine (?_ : CL _ _ _ _ _ _ (Own w S [Res.row b6 76 [Vn 0, Vn 0, .string (⟨#[]⟩ : ByteArray), Vi 0, Vi 0], Res.row b 111 [.map (some bm), .map (some lm), Vi now, Vn cnt], Res.mp zq zU lm kl])) w1 (hw.frameL [0, 1] rfl hO)
  refine zC rfl (zp (vs := [.agg (LeaD.cells x1_).toArray, Vi e2_]) rfl rfl rfl (zp (vs := [.agg (LeaD.cells x1_).toArray, Vi e2_]) rfl rfl rfl (yL (v := .agg #[Vn 0, Vn 0, .string (⟨#[]⟩ : ByteArray), Vi 0, Vi 0]) (by kernel_rfl) rfl (fun b8 => zo 3 rfl rfl rfl (yI rfl) rfl (zD rfl (zA (zL (zB (zC rfl (xM rfl rfl rfl (zA (zZ rfl (fun c2 => ?_) (fun c2 => ?_)))))))))))))
  ·
   refine zj (zC rfl (zr rfl rfl (zX (o := 1) rfl rfl (zY 1 (v := .map (some lm)) rfl rfl rfl rfl (zC rfl (zEY 2 (k := i) zET zBn rfl rfl rfl (zA (zB (yd (cs := (LeaD.cells x1_)) 3 rfl rfl rfl (zC rfl (zo 0 rfl rfl rfl (yI rfl) rfl (zD rfl ?_))))))))))))
   refine zA ?_
   exact zP (yf (cs := (LeaD.cells x1_)) (v := Vi e2_) rfl rfl rfl (by kernel_rfl) (Own.rowCells (i := 0) rfl) (fun w' hw => ⟨x1_, e2_, kY i kl, rfl, zHP hf3_3 c2, hw.sel [1, 2] rfl (by decide)⟩))
  ·
   refine zM (zB (yd (cs := (LeaD.cells x1_)) 3 rfl rfl rfl (zC rfl (zo 0 rfl rfl rfl (yI rfl) rfl (zD rfl (zA ?_))))))
   exact zP (yf (cs := (LeaD.cells x1_)) (v := Vi e2_) rfl rfl rfl (by kernel_rfl) (Own.rowCells (i := 0) rfl) (fun w' hw => ⟨x1_, e2_, kl, rfl, zJA hf3_3 c2, hw.sel [1, 2] rfl (by decide)⟩))
theorem zKC {S : List Nat} (b bm lm : Nat) (now : Int) (cnt : Nat) (kl : List (Nat × LeaD)) (n : Int) (w : World) (ht : 0 ≤ now ∧ now ≤ 2305843009213693952) (hn : xD n) (hk : KNd kl) (hl : kl.length ≤ 128) (hin : Own w S [Res.row b 111 [.map (some bm), .map (some lm), Vi now, Vn cnt], Res.mp zq zU lm kl] w) : Rets Tryz.prog 55 #[.pointer (some ⟨b, 0, none⟩), Vi n] w fun u_ w' => ∃ (gv : Value) (gs : List Nat) (e now' : Int) (kl' : List (Nat × LeaD)), u_ = .tuple #[gv, Vi e] ∧ e = kH now n ∧ now' = kW now n ∧ kl' = xu now n kl ∧ gs.Perm (zB8 now n kl) ∧ gs.Pairwise (fun x y => x ≤ y) ∧ Own w S [Res.row b 111 [.map (some bm), .map (some lm), Vi now', Vn cnt], Res.mp zq zU lm kl', Res.vec 28 1 gv gs.length (gs.flatMap U1)] w' := by
  refine zb Tryz.func55 rfl Tryz.ntmps55 hin ?_
  refine zB (zD rfl (zD rfl (zA (zL (zQ (zB (zC rfl (yz (by kernel_rfl) rfl rfl rfl (zC rfl (zS rfl rfl (zC rfl (zS rfl rfl ?_))))))))))))
  refine yZ rfl rfl rfl (xo rfl rfl (zC rfl (y6 (q := n < 0) 2 6 [17, 16] (1099511627776 < n) rfl rfl rfl rfl rfl rfl trivial rfl (fun h1_6 => ?_) (fun g1_9 => ?_))))
  ·
   refine zS rfl (gF h1_6) (zC rfl (zS rfl (gF h1_6) (y9 rfl rfl rfl ?_)))
   exact ya rfl (fun _ hw => hw)
  refine zD rfl (zA (zZ rfl (fun c1 => ?_) (fun c1 => ?_)))
  ·
   refine zB (zD rfl (zD rfl (zA ?_)))
   exact zP (xk (v := .slice none 0 0) (v' := Vi 1) rfl rfl rfl (fun w' hw => ⟨.slice none 0 0, [], 1, now, kl, rfl, (kP (kl := kl) (zDX c1) (by decide)).1, (kP (kl := kl) (zDX c1) (by decide)).2.1, (kP (kl := kl) (zDX c1) (by decide)).2.2.1, (kP (kl := kl) (zDX c1) (by decide)).2.2.2, List.Pairwise.nil, (yQ hw 28 1)⟩))
  ·
   refine zB (zC rfl (zr rfl rfl (zX (o := 2) rfl rfl (zY 0 (v := Vi now) rfl rfl rfl rfl (zC rfl (yT rfl rfl (zz (by omega)) rfl (y9 rfl rfl rfl (zD rfl (zA (zZ rfl (fun c2 => ?_) (fun c2 => ?_)))))))))))
   ·
    refine zB (zD rfl (zD rfl (zA ?_)))
    exact zP (xk (v := .slice none 0 0) (v' := Vi 3) rfl rfl rfl (fun w' hw => ⟨.slice none 0 0, [], 3, now, kl, rfl, (kP (kl := kl) (zDb c1 c2) (by decide)).1, (kP (kl := kl) (zDb c1 c2) (by decide)).2.1, (kP (kl := kl) (zDb c1 c2) (by decide)).2.2.1, (kP (kl := kl) (zDb c1 c2) (by decide)).2.2.2, List.Pairwise.nil, (yQ hw 28 1)⟩))
   ·
    refine zM (zB (zC rfl (zr rfl rfl (zX (o := 2) rfl rfl (zY 0 (v := Vi now) rfl rfl rfl rfl (zC rfl (z6 rfl rfl (zz (by omega)) rfl (zr rfl rfl (zX (o := 2) rfl rfl (xr (cs := [.map (some bm), .map (some lm), Vi now, Vn cnt]) 0 rfl rfl rfl rfl rfl (zA (zL ?_))))))))))))
    refine zB (zC rfl (zr rfl rfl (zX (o := 1) rfl rfl (zY 0 (v := .map (some lm)) rfl rfl rfl rfl (jz 1 zBn rfl rfl rfl (fun r39 => zA (zQ ?_)))))))
    refine zFk (fun (todo kv : List (Nat × LeaD)) (gv : Value) (gs : List Nat) => [(0, .pointer (some ⟨b, 0, none⟩)), (4, gv), (39, .pointer (some ⟨r39, 0, none⟩))]) (fun (todo kv : List (Nat × LeaD)) (gv : Value) (gs : List Nat) => PassI (now + n) kl todo kv gs) (fun (todo kv : List (Nat × LeaD)) (gv : Value) (gs : List Nat) => [Res.row b 111 [.map (some bm), .map (some lm), Vi (now + n), Vn cnt], Res.rg zq zU lm r39 kv todo, Res.vec 28 1 gv gs.length (gs.flatMap U1)]) (fun (todo kv : List (Nat × LeaD)) (gv : Value) (gs : List Nat) => todo.length) (fun w' hw => ⟨kl, kl, .slice none 0 0, [], ⟨rfl, rfl, rfl, trivial⟩, PassI.start _ _, (yQ hw 28 1)⟩) (fun todo kv gv gs g hΦ => ?_)
    have hgl : gs.length ≤ 128 := Nat.le_trans (PassI.len hΦ) hl
    refine zB (zA9 1 rfl rfl rfl (fun hq0 => ?_) (fun q1 k v q2 hq1 => ?_))
    ·
     refine zp (vs := [.bool false]) rfl rfl rfl (zA (zL (xO rfl (yK rfl (zB (zC rfl (zK rfl rfl (fun w' hw => (zGw gv gs w' (by first | assumption | omega | (simp <;> omega) | (constructor <;> (first | omega | (simp only [zd]; omega) | (simp <;> omega)))) (hw.give [2] rfl (by decide))).mono ?_))))))))
     rintro _ w1 ⟨l'1_, rfl, hf12_1, hf12_1_1, hO⟩
     refine (?_ : CL _ _ _ _ _ _ (Own w S [Res.row b 111 [.map (some bm), .map (some lm), Vi (now + n), Vn cnt], Res.rg zq zU lm r39 kv todo, Res.vec 28 1 gv l'1_.length (l'1_.flatMap U1)])) w1 (hw.frameL [2] rfl hO)
     refine zA (zB (zC rfl (zD rfl (zD rfl (zA ?_)))))
     exact zP (xk (v := gv) (v' := Vi 0) rfl rfl rfl (fun w' hw => ⟨gv, l'1_, 0, now + n, kv, rfl, (hΦ.done hq0 hk (zDx c1 c2)).1, (hΦ.done hq0 hk (zDx c1 c2)).2.1, (hΦ.done hq0 hk (zDx c1 c2)).2.2.1, hf12_1.trans (hΦ.done hq0 hk (zDx c1 c2)).2.2.2, hf12_1_1.imp (fun q => ole_nat.1 q), (Own.rgEnd 1 hw rfl)⟩))
    ·
     refine zp (vs := [.bool true, Vn k, .agg (LeaD.cells v).toArray]) rfl rfl rfl (zA (zL (jg rfl (zM (zQ (zB (j9 1 rfl rfl rfl (zp (vs := [Vn k, .agg (LeaD.cells v).toArray]) rfl rfl rfl (zp (vs := [Vn k, .agg (LeaD.cells v).toArray]) rfl rfl rfl (yL (v := .agg #[Vn 0, Vn 0, .string (⟨#[]⟩ : ByteArray), Vi 0, Vi 0]) (by kernel_rfl) rfl (fun b7 => zD rfl (zo 3 rfl rfl rfl (yI rfl) rfl ?_))))))))))))
     refine zA (zAw (by kernel_rfl) (by kernel_rfl) (yF rfl (zy (o := 4) rfl) (yF rfl (z7 3 (v := Vi v.until_) rfl rfl rfl) (yF rfl (zN) (yF rfl (yJ rfl) (yF rfl (zy (o := 2) rfl) (yF rfl (z7 0 (v := Vi (now + n)) rfl rfl rfl) (yF rfl (zBC rfl rfl) (zFY (zZ rfl (fun c5 => ?_) (fun c5 => ?_)))))))))))
     ·
      refine zB (zC rfl (zC rfl (xF (e := 28) (sz := 1) (vs := [Vn k]) (by kernel_rfl) rfl rfl (by simp [Value.cells]) (by decide) rfl (fun b54 => x2 (g := U1) (sz := 1) (by' := 8) (fun _ => rfl) (l := gs) (l' := [k]) (by simp [cell1, U1]) 2 (by kernel_rfl) rfl rfl rfl (fun w' hw' => Vec.sl (Own.holds hw' 4 _ rfl)) (by first | omega | (simp; omega)) (by decide) rfl (fun v55 => zD rfl (zA (zj (zC rfl (zr rfl rfl (zX (o := 1) rfl rfl (zY 0 (v := .map (some lm)) rfl rfl rfl rfl (zC rfl ?_))))))))))))
      refine zGt 1 (k := k) zET zBn rfl rfl rfl (hΦ.out hk hq1) ?_
      exact zf (fun w' hw => ⟨q1 ++ q2, kY k kv, v55, gs ++ [k], ⟨rfl, rfl, rfl, trivial⟩, hΦ.yes hk hq1 c5, hw.sel [0, 1, 2] rfl (by decide), (by rw [hq1, List.length_append, List.length_append, List.length_cons]; omega)⟩)
     ·
      exact xE (fun w' hw => ⟨q1 ++ q2, kv, gv, gs, ⟨rfl, rfl, rfl, trivial⟩, hΦ.no hq1 c5, hw.sel [0, 1, 2] rfl (by decide), (by rw [hq1, List.length_append, List.length_append, List.length_cons]; omega)⟩)
end Go.Proofs.YthincafbmpialaaGreat
