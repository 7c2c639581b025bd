import Derived.Test.YtcdiehplbmkmeaaSortU4
import Derived.Test.YtcdiehplbmkmeaaQuotaP
import Derived.Test.YtcdiehplbmkmeaaOutS
set_option linter.unusedSectionVars false
set_option linter.unusedSimpArgs false
set_option linter.unusedVariables false
set_option maxRecDepth 10000
namespace Go.Proofs.Ytcdiehplbmkmeaa
open Go Go.Sc Go.Proofs
def zY (l : LeaD) : Value := .agg l.cells.toArray
def zx (n : Nat) : Value := .int .u64 n
def z4 (n : Int) : Value := .int .i64 n
theorem zCs : KeyL Try.prog 9 Value.string := zF0 (by kernel_rfl)
theorem zEb : KeyL Try.prog 28 zx := zCS (by kernel_rfl)
theorem zCP : xg Try.prog 68 = some (9, 2) := by kernel_rfl
theorem zB5 : xg Try.prog 69 = some (28, 73) := by kernel_rfl
theorem zBX : xt Try.prog 2 = some (z4 0) := by kernel_rfl
theorem zJa : xt Try.prog 73 = some (zY LeaD.zero) := by kernel_rfl
def jb (k : ByteArray) (kl : List (Nat × LeaD)) : Int := yM k (kl.map (·.2))
theorem zGS {k : ByteArray} {kl : List (Nat × LeaD)} {n : Int} (h : n = IntKind.i64.wrap (jb k kl - jb k [])) : n = z3 k kl := by
  rw [h]; simp [jb, yM, z3, xF]
theorem zGD {k : ByteArray} {kl todo q1 q2 : List (Nat × LeaD)} {i : Nat} {v : LeaD} {n : Int} (h : n = IntKind.i64.wrap (jb k kl - jb k todo)) (ht : todo = q1 ++ (i, v) :: q2) (hk : v.key = k) : IntKind.i64.wrap (n + v.amount) = IntKind.i64.wrap (jb k kl - jb k (q1 ++ q2)) := by
  rw [h, zFf, ht]; unfold jb; rw [zAP, if_pos hk]; congr 1; omega
theorem zHB {k : ByteArray} {kl todo q1 q2 : List (Nat × LeaD)} {i : Nat} {v : LeaD} {n : Int} (h : n = IntKind.i64.wrap (jb k kl - jb k todo)) (ht : todo = q1 ++ (i, v) :: q2) (hk : ¬ v.key = k) : n = IntKind.i64.wrap (jb k kl - jb k (q1 ++ q2)) := by
  rw [h, ht]; unfold jb; rw [zAP, if_neg hk]; congr 1; omega
theorem zD4 (k : ByteArray) (w : World) : Rets Try.prog 77 #[.string k] w fun u_ w' => u_ = .bool (decide (yp k)) ∧ Own w [] [] w' := by
  refine zg Try.func77 rfl Try.ntmps77 (Own.start w) ?_
  refine zB (zH rfl (zA (zB (zC rfl (zJU rfl rfl rfl (zC rfl (yW (q := k ≠ (⟨#[]⟩ : ByteArray)) 3 2 [8, 7, 6] (((k.size : Nat) : Int) ≤ 64) rfl rfl rfl rfl rfl rfl trivial rfl (fun h1_2 => ?_) (fun g1_6 => ?_))))))))
  ·
   refine zV rfl (gT h1_2) (zC rfl (zV rfl (gT h1_2) (zFQ (by kernel_rfl) rfl rfl (zV rfl (gT h1_2) (zAQ rfl rfl rfl ?_)))))
   exact yg rfl (fun _ hw => hw)
  refine zH rfl (zA ?_)
  exact zR (z6 (v := .bool (decide ((k ≠ (⟨#[]⟩ : ByteArray)) ∧ (((k.size : Nat) : Int) ≤ 64)))) rfl rfl (fun w' hw => ⟨(by congr 1; exact decide_eq_decide.2 (by unfold yp; rw [zJZ]; omega)), hw.drop⟩))
theorem zFj (n : Int) (w : World) : Rets Try.prog 78 #[Vi n] w fun u_ w' => u_ = .bool (decide (yE n)) ∧ Own w [] [] w' := by
  refine zg Try.func78 rfl Try.ntmps78 (Own.start w) ?_
  refine zB (zH rfl (zA (zB (zC rfl (yY rfl rfl rfl (zC rfl (yW (q := 1 ≤ n) 2 2 [7, 6] (n ≤ 1099511627776) rfl rfl rfl rfl rfl rfl trivial rfl (fun h1_2 => ?_) (fun g1_5 => ?_))))))))
  ·
   refine zV rfl (gT h1_2) (zC rfl (zV rfl (gT h1_2) (zAQ rfl rfl rfl ?_)))
   exact yg rfl (fun _ hw => hw)
  refine zH rfl (zA ?_)
  exact zR (z6 (v := .bool (decide ((1 ≤ n) ∧ (n ≤ 1099511627776)))) rfl rfl (fun w' hw => ⟨rfl, hw.drop⟩))
theorem jW {S : List Nat} (b bm lm : Nat) (now : Int) (cnt : Nat) (kl : List (Nat × LeaD)) (k : ByteArray) (w : World) (hin : Own w S [Res.row b 71 [.map (some bm), .map (some lm), Vi now, Vn cnt], Res.mp zx zY lm kl] w) : Rets Try.prog 57 #[.pointer (some ⟨b, 0, none⟩), .string k] w fun u_ w' => ∃ (n : Int), u_ = Vi n ∧ n = z3 k kl ∧ Own w S [Res.row b 71 [.map (some bm), .map (some lm), Vi now, Vn cnt], Res.mp zx zY lm kl] w' := by
  refine zg Try.func57 rfl Try.ntmps57 hin ?_
  refine zB (zH rfl (zA (zB (zH rfl (zA (zO (zB (zC rfl (yA rfl rfl (zc (o := 1) rfl rfl (ze 0 (v := .map (some lm)) rfl rfl rfl rfl (zCq 1 zB5 rfl rfl rfl (fun r12 => ?_)))))))))))))
  refine zA (zT ?_)
  refine y4 (fun (todo : List (Nat × LeaD)) (n : Int) => [(1, .string k), (5, Vi n), (12, .pointer (some ⟨r12, 0, none⟩))]) (fun (todo : List (Nat × LeaD)) (n : Int) => n = IntKind.i64.wrap (jb k kl - jb k todo)) (fun (todo : List (Nat × LeaD)) (n : Int) => [Res.row b 71 [.map (some bm), .map (some lm), Vi now, Vn cnt], Res.rg zx zY lm r12 kl todo]) (fun (todo : List (Nat × LeaD)) (n : Int) => todo.length) (fun w' hw => ⟨kl, 0, ⟨rfl, rfl, rfl, trivial⟩, (by rw [Int.sub_self]; decide), hw⟩) (fun todo n g hΦ => ?_)
  refine zB (zD3 1 rfl rfl rfl (fun hq0 => ?_) (fun q1 k v q2 hq1 => ?_))
  ·
   refine zl (vs := [.bool false]) rfl rfl rfl (zA (zO (xf rfl (yI rfl (zB (zC rfl (zH rfl (zA ?_))))))))
   exact zR (z6 (v := Vi n) rfl rfl (fun w' hw => ⟨n, rfl, zGS (hq0 ▸ hΦ), (Own.rgEnd 1 hw rfl)⟩))
  ·
   refine zl (vs := [.bool true, Vn k, .agg (LeaD.cells v).toArray]) rfl rfl rfl (zA (zO (zEH rfl (zM (zT (zB (zC0 1 rfl rfl rfl (zl (vs := [Vn k, .agg (LeaD.cells v).toArray]) rfl rfl rfl (yR (v := .agg #[Vn 0, Vn 0, .string (⟨#[]⟩ : ByteArray), Vi 0, Vi 0]) (by kernel_rfl) rfl (fun b7 => zt 2 rfl rfl rfl (yC rfl) rfl (zA (zB ?_))))))))))))
   refine zc (o := 2) rfl rfl (ze 2 (v := .string v.key) rfl rfl rfl rfl (zC rfl (zHt rfl rfl rfl (zA (zU rfl (fun c3 => ?_) (fun c3 => ?_))))))
   ·
    refine zj (zC rfl (zc (o := 3) rfl rfl (ze 2 (v := Vi v.amount) rfl rfl rfl rfl (zw (c := IntKind.i64.wrap (n + v.amount)) rfl rfl rfl rfl (zH rfl ?_)))))
    exact zf (fun w' hw => ⟨q1 ++ q2, IntKind.i64.wrap (n + v.amount), ⟨rfl, rfl, rfl, trivial⟩, zGD hΦ hq1 c3, hw.sel [0, 1] rfl (by decide), (by rw [hq1, List.length_append, List.length_append, List.length_cons]; omega)⟩)
   ·
    exact xG (fun w' hw => ⟨q1 ++ q2, n, ⟨rfl, rfl, rfl, trivial⟩, zHB hΦ hq1 c3, hw.sel [0, 1] rfl (by decide), (by rw [hq1, List.length_append, List.length_append, List.length_cons]; omega)⟩)
def jO (kl : List (Nat × LeaD)) (s i : Nat) (x : LeaD) (e : Int) : Prop :=
  (e = 17 ∧ x = LeaD.zero ∧ ∀ l, zX i kl = some l → l.session ≠ s) ∨ (e = 0 ∧ zX i kl = some x ∧ x.session = s)
theorem zHZ {kl : List (Nat × LeaD)} {s i : Nat} (h : (!(zX i kl).isSome) = true ∨ ((((zX i kl).getD LeaD.zero).session : Nat) : Int) ≠ ((s : Nat) : Int)) : jO kl s i LeaD.zero 17 := by
  refine .inl ⟨rfl, rfl, fun l hl => ?_⟩
  rw [hl] at h
  rcases h with h | h
  · cases h
  · intro e; exact h (by rw [Option.getD_some, e])
theorem zFN {kl : List (Nat × LeaD)} {s i : Nat} (h : ¬ ((!(zX i kl).isSome) = true ∨ ((((zX i kl).getD LeaD.zero).session : Nat) : Int) ≠ ((s : Nat) : Int))) : jO kl s i ((zX i kl).getD LeaD.zero) 0 := by
  cases hl : zX i kl with
  | none => rw [hl] at h; exact absurd (.inl rfl) h
  | some l =>
    rw [hl, Option.getD_some] at h
    exact .inr ⟨rfl, hl, Decidable.by_contra fun (q : ¬ l.session = s) => h (.inr fun e => q (by omega))⟩
theorem zCk {kl : List (Nat × LeaD)} {s i : Nat} {x : LeaD} {e : Int} (h : jO kl s i x e) (he : e ≠ 0) : e = 17 ∧ x = LeaD.zero ∧ ∀ l, zX i kl = some l → l.session ≠ s := by
  rcases h with h | h
  · exact h
  · exact absurd h.1 he
theorem zCE {kl : List (Nat × LeaD)} {s i : Nat} {x : LeaD} {e : Int} (h : jO kl s i x e) (he : ¬ e ≠ 0) : zX i kl = some x ∧ x.session = s := by
  rcases h with h | h
  · rw [h.1] at he; exact absurd (by decide) he
  · exact h.2
theorem zG8 {kl : List (Nat × LeaD)} {s i : Nat} {x : LeaD} {e : Int} (h : jO kl s i x e) (he : ¬ e = 0) : zCZ kl s i x e kl := by
  have := zCk h he; exact .inl ⟨this.2.2, this.1, this.2.1, rfl⟩
theorem zFI {kl : List (Nat × LeaD)} {s i : Nat} {x : LeaD} {e : Int} (h : jO kl s i x e) (he : e = 0) : zCZ kl s i x e (xo i kl) := by
  have := zCE h (fun q => q he); exact .inr ⟨x, this.1, this.2, he, rfl, rfl⟩
theorem zEz {now : Int} {kb : List (ByteArray × Int)} {kl : List (Nat × LeaD)} {s i : Nat} {sp : Int} {x : LeaD} {e : Int} (hs : ¬ ¬ yE sp) (h : jO kl s i x e) (he : e ≠ 0) : zAK now kb kl s i sp LeaD.zero e kl := by
  have := zCk h he; exact .inr (.inl ⟨Decidable.not_not.1 hs, this.2.2, this.1, rfl, rfl⟩)
theorem zDE {now : Int} {kb : List (ByteArray × Int)} {kl : List (Nat × LeaD)} {s i : Nat} {sp n : Int} {x : LeaD} {e : Int} (hs : ¬ ¬ yE sp) (h : jO kl s i x e) (he : ¬ e ≠ 0) (hn : n = z3 x.key kl) (hc : (zX x.key kb).getD 0 < n) : zAK now kb kl s i sp LeaD.zero 16 kl := by
  have := zCE h he; exact .inr (.inr ⟨Decidable.not_not.1 hs, x, this.1, this.2, .inl ⟨hn ▸ hc, rfl, rfl, rfl⟩⟩)
theorem zDv {now : Int} {kb : List (ByteArray × Int)} {kl : List (Nat × LeaD)} {s i : Nat} {sp n : Int} {x : LeaD} {e : Int} (hs : ¬ ¬ yE sp) (h : jO kl s i x e) (he : ¬ e ≠ 0) (hn : n = z3 x.key kl) (hc : ¬ (zX x.key kb).getD 0 < n) : zAK now kb kl s i sp (xH x (now + sp)) 0 (yj i (xH x (now + sp)) kl) := by
  have := zCE h he; exact .inr (.inr ⟨Decidable.not_not.1 hs, x, this.1, this.2, .inr ⟨by rw [hn] at hc; omega, rfl, rfl, rfl⟩⟩)
theorem zE1 {S : List Nat} (b bm lm : Nat) (now : Int) (cnt : Nat) (kl : List (Nat × LeaD)) (s i : Nat) (w : World) (hin : Own w S [Res.row b 71 [.map (some bm), .map (some lm), Vi now, Vn cnt], Res.mp zx zY lm kl] w) : Rets Try.prog 80 #[.pointer (some ⟨b, 0, none⟩), Vn s, Vn i] w fun u_ w' => ∃ (x : LeaD) (e : Int), u_ = .tuple #[.agg (LeaD.cells x).toArray, Vi e] ∧ jO kl s i x e ∧ Own w S [Res.row b 71 [.map (some bm), .map (some lm), Vi now, Vn cnt], Res.mp zx zY lm kl] w' := by
  refine zg Try.func80 rfl Try.ntmps80 hin ?_
  refine zB (yR (v := .agg #[Vn 0, Vn 0, .string (⟨#[]⟩ : ByteArray), Vi 0, Vi 0]) (by kernel_rfl) rfl (fun b6 => zH rfl (zA (zB (zC rfl (yA rfl rfl (zc (o := 1) rfl rfl (ze 0 (v := .map (some lm)) rfl rfl rfl rfl (zC rfl (zBI (k := i) (kv := kl) (zv := LeaD.zero) zEb zB5 zJa rfl rfl (fun w' hw' => Own.holds hw' 1 _ rfl) rfl (zC rfl (zl (vs := [.agg (LeaD.cells ((zX i kl).getD LeaD.zero)).toArray, .bool ((zX i kl).isSome)]) rfl rfl rfl ?_))))))))))))
  refine zl (vs := [.agg (LeaD.cells ((zX i kl).getD LeaD.zero)).toArray, .bool ((zX i kl).isSome)]) rfl rfl rfl (yR (v := .agg #[Vn 0, Vn 0, .string (⟨#[]⟩ : ByteArray), Vi 0, Vi 0]) (by kernel_rfl) rfl (fun b8 => zt 3 rfl rfl rfl (yC rfl) rfl (zH rfl (zA (zO (zB (zC rfl (jt (b := (zX i kl).isSome) rfl rfl (zC rfl (xP (q := (!((zX i kl).isSome)) = true) 4 2 [25, 24, 23, 22] (((((zX i kl).getD LeaD.zero).session : Nat) : Int) ≠ ((s : Nat) : Int)) rfl rfl (xE _) rfl rfl rfl trivial rfl (fun h2_2 => ?_) (fun g2_7 => ?_)))))))))))
  ·
   refine zV rfl (bF h2_2) (zc (o := 1) rfl rfl (zV rfl (bF h2_2) (ze 3 (v := Vn (((zX i kl).getD LeaD.zero).session)) rfl rfl rfl rfl (zV rfl (bF h2_2) (zC rfl (zV rfl (bF h2_2) (jU rfl rfl rfl ?_)))))))
   exact yg rfl (fun _ hw => hw)
  refine zA (zU rfl (fun c1 => ?_) (fun c1 => ?_))
  ·
   refine zB (yN (cs := [Vn 0, Vn 0, .string (⟨#[]⟩ : ByteArray), Vi 0, Vi 0]) (z := [Vn 0, Vn 0, .string (⟨#[]⟩ : ByteArray), Vi 0, Vi 0]) (pl := [(0, 1), (1, 1), (2, 1), (3, 1), (4, 1)]) (by kernel_rfl) (by kernel_rfl) rfl (zt 2 rfl rfl rfl (yC rfl) rfl (zH rfl (zA ?_))))
   exact zR (yU (cs := [Vn 0, Vn 0, .string (⟨#[]⟩ : ByteArray), Vi 0, Vi 0]) (v := Vi 17) rfl rfl rfl (by kernel_rfl) (Own.rowCells (i := 2) rfl) (fun w' hw => ⟨LeaD.zero, 17, rfl, zHZ c1, hw.sel [0, 1] rfl (by decide)⟩))
  ·
   refine zM (zB (yr (cs := (LeaD.cells ((zX i kl).getD LeaD.zero))) 3 rfl rfl rfl (zt 2 rfl rfl rfl (yC rfl) rfl (zH rfl (zA ?_)))))
   exact zR (yU (cs := (LeaD.cells ((zX i kl).getD LeaD.zero))) (v := Vi 0) rfl rfl rfl (by kernel_rfl) (Own.rowCells (i := 2) rfl) (fun w' hw => ⟨(zX i kl).getD LeaD.zero, 0, rfl, zFN c1, hw.sel [0, 1] rfl (by decide)⟩))
theorem zJM (a c : Int) (w : World) (ha : 0 ≤ a ∧ a ≤ 9223372036854775807) (hc : -9223372036854775808 ≤ c ∧ c ≤ 9223372036854775807) : Rets Try.prog 88 #[Vi a, Vi c] w fun u_ w' => ∃ (n e : Int), u_ = .tuple #[Vi n, Vi e] ∧ ((9223372036854775807 < a + c ∧ e = 3 ∧ n = 0) ∨ (a + c ≤ 9223372036854775807 ∧ e = 0 ∧ n = a + c)) ∧ Own w [] [] w' := by
  refine zg Try.func88 rfl Try.ntmps88 (Own.start w) ?_
  refine zB (zH rfl (zH rfl (zA (zO (zB (zC rfl (kD rfl rfl rfl (zC rfl (yW (q := 0 < c) 4 2 [12, 11, 10, 9] ((9223372036854775807 - c) < a) rfl rfl rfl rfl rfl rfl trivial rfl (fun h1_2 => ?_) (fun g1_7 => ?_))))))))))
  ·
   refine zV rfl (gT h1_2) (zC rfl (zV rfl (gT h1_2) (zC rfl (zV rfl (gT h1_2) (z9 rfl rfl (zr (by omega)) rfl (zV rfl (gT h1_2) (kD rfl rfl rfl ?_)))))))
   exact yg rfl (fun _ hw => hw)
  refine zC rfl (xP (q := (0 < c) ∧ ((9223372036854775807 - c) < a)) 8 8 [22, 21, 20, 19, 18, 17, 16, 15] ((c < 0) ∧ (a < ((-9223372036854775808) - c))) rfl rfl rfl rfl rfl rfl trivial rfl (fun h1_8 => ?_) (fun g1_17 => ?_))
  ·
   refine zV rfl (gF h1_8) (zC rfl (zV rfl (gF h1_8) (yT rfl rfl rfl (zV rfl (gF h1_8) (zC rfl (yW (q := c < 0) 4 11 [21, 20, 19, 18] (a < ((-9223372036854775808) - c)) rfl rfl rfl rfl rfl rfl ⟨_, rfl, rfl, gF h1_8⟩ rfl (fun h1_11 => ?_) (fun g1_16 => ?_)))))))
   ·
    refine zV rfl (gT h1_11) (zC rfl (zV rfl (gT h1_11) (zC rfl (zV rfl (gT h1_11) (z9 rfl rfl (zr (by omega)) rfl (zV rfl (gT h1_11) (yT rfl rfl rfl ?_)))))))
    exact yg rfl (fun _ hw => hw)
   exact yg rfl (fun _ hw => hw)
  refine zA (zU rfl (fun c1 => ?_) (fun c1 => ?_))
  ·
   refine zB (zH rfl (zH rfl (zA ?_)))
   exact zR (yV (v := Vi 0) (v' := Vi 3) rfl rfl rfl (fun w' hw => ⟨0, 3, rfl, .inl ⟨by omega, rfl, rfl⟩, hw.drop⟩))
  ·
   refine zM (zB (zC rfl (zC rfl (zw rfl rfl (zr (by omega)) rfl (zH rfl (zH rfl (zA ?_)))))))
   exact zR (yV (v := Vi (a + c)) (v' := Vi 0) rfl rfl rfl (fun w' hw => ⟨a + c, 0, rfl, .inr ⟨by omega, rfl, rfl⟩, hw.drop⟩))
theorem zHP (v : Value) (l : List Int) (w : World) (hl : l.length = 2) (h0 : 0 ≤ zG l 0 ∧ zG l 0 ≤ 9223372036854775807) (h1 : -9223372036854775808 ≤ zG l 1 ∧ zG l 1 ≤ 9223372036854775807) (hv : Rd w [] (Res.sl v l.length (l.flatMap I1))) : Rets Try.prog 79 #[v] w fun u_ w' => ∃ (n e : Int), u_ = .tuple #[Vi n, Vi e] ∧ ((9223372036854775807 < zG l 0 + zG l 1 ∧ e = 3 ∧ n = 0) ∨ (zG l 0 + zG l 1 ≤ 9223372036854775807 ∧ e = 0 ∧ n = zG l 0 + zG l 1)) ∧ Own w [] [] w' := by
  refine zg Try.func79 rfl Try.ntmps79 (Own.start w) ?_
  refine zB (zH rfl (zH rfl (zA (zB (zH rfl (zA (zO (zB (zC rfl (yl (pR hv) rfl rfl (zC rfl (zA ?_))))))))))))
  refine zT ?_
  refine y4 (fun (k : Nat) (n : Int) => [(4, Vi n), (8, v), (9, Vj l.length), (10, Vj k)]) (fun (k : Nat) (n : Int) => k ≤ 2 ∧ ((k = 0 → n = 0) ∧ (k = 1 → n = zG l 0) ∧ (k = 2 → n = zG l 0 + zG l 1)) ∧ ((k < 2 → 0 ≤ n) ∧ n ≤ 9223372036854775807)) (fun (k : Nat) (n : Int) => []) (fun (k : Nat) (n : Int) => 2 - k) (fun w' hw => ⟨0, 0, ⟨rfl, rfl, rfl, rfl, trivial⟩, ⟨by omega, ⟨fun _ => rfl, by omega, by omega⟩, ⟨fun _ => by omega, by omega⟩⟩, hw⟩) (fun k n g hΦ => ?_)
  have hkl := hΦ.1
  have hkI := hΦ.2.1
  have hkn := hΦ.2.2
  refine zB (yT rfl rfl rfl (zA (zO (zU rfl (fun c1 => ?_) (fun c1 => ?_)))))
  ·
   have hk2 : k < 2 := by omega
   have hkx : (k = 0 → zG l k = zG l 0) ∧ (k = 1 → zG l k = zG l 1) := ⟨fun h => by rw [h], fun h => by rw [h]⟩
   have hkb : -9223372036854775808 ≤ zG l k ∧ zG l k ≤ 9223372036854775807 := by rcases (show k = 0 ∨ k = 1 by omega) with h | h <;> rw [h] <;> omega
   refine zM (zO (zT (zB (zD (pR hv) 1 k rfl rfl rfl (by omega) rfl (zL (pR hv) 1 k 0 (fun _ => rfl) rfl rfl (by omega) rfl rfl (zH rfl (zA (zB (zH rfl (zA (zB (zC rfl ?_))))))))))))
   refine zC rfl (zQ rfl rfl (fun w' hw => (zJM n (zG l k) w' ⟨hkn.1 hk2, hkn.2⟩ hkb).mono ?_))
   rintro _ w1 ⟨n1_, e2_, rfl, hf6_2, hO⟩
   refine (?_ : CL _ _ _ _ _ _ (Own w [] [])) w1 (hw.frame0 hO)
   refine zC rfl (zl (vs := [Vi n1_, Vi e2_]) rfl rfl rfl (zl (vs := [Vi n1_, Vi e2_]) rfl rfl rfl (zH rfl (zH rfl (zA (zB (zC rfl (jU rfl rfl rfl (zA (zU rfl (fun c2 => ?_) (fun c2 => ?_)))))))))))
   ·
    refine zB (zC rfl (zH rfl (zH rfl (zA ?_))))
    exact zR (yV (v := Vi 0) (v' := Vi e2_) rfl rfl rfl (fun w' hw => ⟨0, e2_, rfl, .inl ⟨((zBA hk2 hkI hkx hf6_2 h0 h1).1 c2).1, ((zBA hk2 hkI hkx hf6_2 h0 h1).1 c2).2, rfl⟩, hw.drop⟩))
   ·
    refine zM (zj (zw rfl rfl (zr (by omega)) rfl (zC rfl ?_)))
    exact zf (fun w' hw => ⟨k + 1, n1_, ⟨rfl, rfl, rfl, rfl, trivial⟩, ⟨by omega, (zBA hk2 hkI hkx hf6_2 h0 h1).2 c2⟩, hw, (by omega)⟩)
  ·
   refine yI rfl (zB (zC rfl (zH rfl (zH rfl (zA ?_)))))
   exact zR (yV (v := Vi n) (v' := Vi 0) rfl rfl rfl (fun w' hw => ⟨n, 0, rfl, .inr ⟨by have := hkI.2.2 (by omega); omega, rfl, hkI.2.2 (by omega)⟩, hw.drop⟩))
theorem zJR {S : List Nat} (b bm lm : Nat) (now : Int) (cnt : Nat) (kb : List (ByteArray × Int)) (kl : List (Nat × LeaD)) (k : ByteArray) (a : Int) (w : World) (hin : Own w S [Res.row b 71 [.map (some bm), .map (some lm), Vi now, Vn cnt], Res.mp Value.string z4 bm kb, Res.mp zx zY lm kl] w) : Rets Try.prog 58 #[.pointer (some ⟨b, 0, none⟩), .string k, Vi a] w fun u_ w' => ∃ (n e : Int) (kb' : List (ByteArray × Int)), u_ = .tuple #[Vi n, Vi e] ∧ e = xj k a kb ∧ kb' = zBR k a kb ∧ (n = if e = 0 then z3 k kl else 0) ∧ Own w S [Res.row b 71 [.map (some bm), .map (some lm), Vi now, Vn cnt], Res.mp Value.string z4 bm kb', Res.mp zx zY lm kl] w' := by
  refine zg Try.func58 rfl Try.ntmps58 hin ?_
  refine zB (zH rfl (zH rfl (zA (zO (zB (zC rfl (xS (by kernel_rfl) rfl rfl rfl (zC rfl (zV rfl rfl (zC rfl (zV rfl rfl (zQ rfl rfl (fun w' hw => ?_)))))))))))))
  refine (zD4 k w').mono ?_
  rintro _ w1 ⟨rfl, hO⟩
  refine (?_ : CL _ _ _ _ _ _ (Own w S [Res.row b 71 [.map (some bm), .map (some lm), Vi now, Vn cnt], Res.mp Value.string z4 bm kb, Res.mp zx zY lm kl])) w1 (hw.frame0 hO)
  refine zV rfl rfl (ku (q := yp k) rfl rfl (x2 rfl rfl (zC rfl (xP (q := ¬ (yp k)) 2 7 [19, 18] (a < 0) rfl rfl rfl rfl rfl rfl trivial rfl (fun h1_7 => ?_) (fun g1_10 => ?_)))))
  ·
   refine zV rfl (gF h1_7) (zC rfl (zV rfl (gF h1_7) (yT rfl rfl rfl ?_)))
   exact yg rfl (fun _ hw => hw)
  refine zA (zU rfl (fun c1 => ?_) (fun c1 => ?_))
  ·
   refine zB (zH rfl (zH rfl (zA ?_)))
   exact zR (yV (v := Vi 0) (v' := Vi 1) rfl rfl rfl (fun w' hw => ⟨0, 1, kb, rfl, (zBj c1).symm, zCx (zBj c1) (by decide), rfl, hw⟩))
  ·
   refine zM (zB (zC rfl (yA rfl rfl (zc (o := 0) rfl rfl (ze 0 (v := .map (some bm)) rfl rfl rfl rfl (zC rfl (zBI (k := k) (kv := kb) (zv := 0) zCs zCP zBX rfl rfl (fun w' hw' => Own.holds hw' 1 _ rfl) rfl (zC rfl (zl (vs := [Vi ((zX k kb).getD 0), .bool ((zX k kb).isSome)]) rfl rfl rfl (zl (vs := [Vi ((zX k kb).getD 0), .bool ((zX k kb).isSome)]) rfl rfl rfl (zH rfl (zH rfl ?_))))))))))))
   refine zA (zO (zT (zB (zC rfl (yn rfl rfl rfl (zH rfl (zA (zU rfl (fun c2 => ?_) (fun c2 => ?_)))))))))
   ·
    refine zj (zC rfl (yA rfl rfl (zc (o := 0) rfl rfl (ze 0 (v := .map (some bm)) rfl rfl rfl rfl (zC rfl (zC8 1 (k := k) zCs zCP rfl rfl rfl (zA (zB (zC rfl (zC rfl (zQ rfl rfl (fun w' hw => (jW b bm lm now cnt kl k w' (hw.give [0, 2] rfl (by decide))).mono ?_))))))))))))
    rintro _ w1 ⟨n1_, rfl, hf9_2, hO⟩
    refine (?_ : CL _ _ _ _ _ _ (Own w S [Res.mp Value.string z4 bm (xo k kb), Res.row b 71 [.map (some bm), .map (some lm), Vi now, Vn cnt], Res.mp zx zY lm kl])) w1 (hw.frameL [0, 2] rfl hO)
    refine zH rfl (zH rfl (zA ?_))
    exact zR (yV (v := Vi n1_) (v' := Vi 0) rfl rfl rfl (fun w' hw => ⟨n1_, 0, xo k kb, rfl, (zBW c1 c2).symm, zFq (zBW c1 c2) c2, hf9_2, hw.sel [1, 0, 2] rfl (by decide)⟩))
   ·
    refine zB (zC rfl (jt (b := (zX k kb).isSome) rfl rfl (zC rfl (yW (q := (!((zX k kb).isSome)) = true) 6 2 [53, 52, 51, 50, 49, 48] (64 ≤ ((kb.length : Nat) : Int)) rfl rfl (xE _) rfl rfl rfl trivial rfl (fun h7_2 => ?_) (fun g7_9 => ?_)))))
    ·
     refine zV rfl (bT h7_2) (zC rfl (zV rfl (bT h7_2) (yA rfl rfl (zV rfl (bT h7_2) (zc (o := 0) rfl rfl (zV rfl (bT h7_2) (ze 0 (v := .map (some bm)) rfl rfl rfl rfl (zV rfl (bT h7_2) (zCB Value.string z4 (kv := kb) zCP rfl (fun w' hw' => Own.holds hw' 1 _ rfl) rfl (zV rfl (bT h7_2) (yY rfl rfl rfl ?_)))))))))))
     exact yg rfl (fun _ hw => hw)
    refine zH rfl (zA (zU rfl (fun c3 => ?_) (fun c3 => ?_)))
    ·
     refine zB (zH rfl (zH rfl (zA ?_)))
     exact zR (yV (v := Vi 0) (v' := Vi 7) rfl rfl rfl (fun w' hw => ⟨0, 7, kb, rfl, (zBE c1 c2 c3).symm, zCx (zBE c1 c2 c3) (by decide), rfl, hw⟩))
    ·
     refine zj (zC rfl (yA rfl rfl (zc (o := 0) rfl rfl (ze 0 (v := .map (some bm)) rfl rfl rfl rfl (zC rfl (zC rfl (zAD 1 (k := k) (v := a) zCs zCP rfl rfl rfl rfl (zA (zB (zC rfl (zC rfl (zQ rfl rfl (fun w' hw => ?_)))))))))))))
     refine (jW b bm lm now cnt kl k w' (hw.give [0, 2] rfl (by decide))).mono ?_
     rintro _ w1 ⟨n2_, rfl, hf9_2, hO⟩
     refine (?_ : CL _ _ _ _ _ _ (Own w S [Res.mp Value.string z4 bm (yj k a kb), Res.row b 71 [.map (some bm), .map (some lm), Vi now, Vn cnt], Res.mp zx zY lm kl])) w1 (hw.frameL [0, 2] rfl hO)
     refine zH rfl (zH rfl (zA ?_))
     exact zR (yV (v := Vi n2_) (v' := Vi 0) rfl rfl rfl (fun w' hw => ⟨n2_, 0, yj k a kb, rfl, (zBv c1 c3).symm, zE7 (zBv c1 c3) c2, hf9_2, hw.sel [1, 0, 2] rfl (by decide)⟩))
theorem zHX {S : List Nat} (b bm lm : Nat) (now : Int) (cnt : Nat) (kb : List (ByteArray × Int)) (kl : List (Nat × LeaD)) (k : ByteArray) (w : World) (hin : Own w S [Res.row b 71 [.map (some bm), .map (some lm), Vi now, Vn cnt], Res.mp Value.string z4 bm kb, Res.mp zx zY lm kl] w) : Rets Try.prog 31 #[.pointer (some ⟨b, 0, none⟩), .string k] w fun u_ w' => ∃ (n : Int), u_ = .tuple #[Vi ((zX k kb).getD 0), Vi n] ∧ n = z3 k kl ∧ Own w S [Res.row b 71 [.map (some bm), .map (some lm), Vi now, Vn cnt], Res.mp Value.string z4 bm kb, Res.mp zx zY lm kl] w' := by
  refine zg Try.func31 rfl Try.ntmps31 hin ?_
  refine zB (zH rfl (zH rfl (zA (zO (zB (zC rfl (xS (by kernel_rfl) rfl rfl rfl (zA (xf rfl (zM (zO (zW [1] rfl (by decide) (by kernel_rfl) (fun w' hw hS => ?_)))))))))))))
  refine zE 0 rfl (zJ) hS (zE 1 rfl (zo rfl) hS (zE 2 rfl (zk (o := 0) rfl) hS (zE 4 rfl (zJ) hS (zE 6 rfl (zJ) hS (zE 7 rfl (zJ) hS (zS 3 8 ?_ ?_))))))
  ·
   refine zP 3 rfl hw (ze 0 (v := .map (some bm)) rfl rfl rfl rfl (zF [1] rfl (by decide) (fun w' hw hS => zE 5 rfl (zEB (k := k) (kv := kb) (zv := 0) zCs zCP zBX rfl rfl (fun w' hw' => Own.holds hw' 0 _ rfl)) hS (zZ 8 rfl hw (zQ rfl rfl (fun w' hw => (jW b bm lm now cnt kl k w' (hw.give [0, 2] rfl (by decide))).mono ?_))))))
   rintro _ w1 ⟨n1_, rfl, hf3_8, hO⟩
   refine (?_ : CL _ _ _ _ _ _ (Own w S [Res.mp Value.string z4 bm kb, Res.row b 71 [.map (some bm), .map (some lm), Vi now, Vn cnt], Res.mp zx zY lm kl])) w1 (hw.frameL [0, 2] rfl hO)
   refine zF [0] rfl (by decide) (fun w' hw hS => zE 9 rfl (xN) hS (zE 10 rfl (xN) hS (zK ?_)))
   refine (?_ : C _ _ _ _ _ _ _ (Own w S [Res.mp Value.string z4 bm kb, Res.row b 71 [.map (some bm), .map (some lm), Vi now, Vn cnt], Res.mp zx zY lm kl])) _ hw
   exact zR (yV (v := Vi ((zX k kb).getD 0)) (v' := Vi n1_) rfl rfl rfl (fun w' hw => ⟨n1_, rfl, hf3_8, hw.sel [1, 0, 2] rfl (by decide)⟩))
  ·
   refine zP 8 rfl hw (zQ rfl rfl (fun w' hw => (jW b bm lm now cnt kl k w' (hw.give [0, 2] rfl (by decide))).mono ?_))
   rintro _ w1 ⟨n2_, rfl, hf3_8, hO⟩
   refine (?_ : CL _ _ _ _ _ _ (Own w S [Res.mp Value.string z4 bm kb, Res.row b 71 [.map (some bm), .map (some lm), Vi now, Vn cnt], Res.mp zx zY lm kl])) w1 (hw.frameL [0, 2] rfl hO)
   refine zF [0] rfl (by decide) (fun w' hw hS => zZ 3 rfl hw (ze 1 (v := .map (some bm)) rfl rfl rfl rfl (zF [0] rfl (by decide) (fun w' hw hS => zE 5 rfl (zEB (k := k) (kv := kb) (zv := 0) zCs zCP zBX rfl rfl (fun w' hw' => Own.holds hw' 0 _ rfl)) hS (zE 9 rfl (xN) hS (zE 10 rfl (xN) hS (zK ?_)))))))
   refine (?_ : C _ _ _ _ _ _ _ (Own w S [Res.mp Value.string z4 bm kb, Res.row b 71 [.map (some bm), .map (some lm), Vi now, Vn cnt], Res.mp zx zY lm kl])) _ hw
   exact zR (yV (v := Vi ((zX k kb).getD 0)) (v' := Vi n2_) rfl rfl rfl (fun w' hw => ⟨n2_, rfl, hf3_8, hw.sel [1, 0, 2] rfl (by decide)⟩))
theorem zJG (w : World) : Rets Try.prog 19 #[] w fun u_ w' => ∃ (b bm lm : Nat), u_ = .pointer (some ⟨b, 0, none⟩) ∧ Own w [] [Res.row b 71 [.map (some bm), .map (some lm), Vi 0, Vn 0], Res.mp Value.string z4 bm ([] : List (ByteArray × Int)), Res.mp zx zY lm ([] : List (Nat × LeaD))] w' := by
  refine zg Try.func19 rfl Try.ntmps19 (Own.start w) ?_
  refine zB (zH rfl (zA (zB (jj (α := Int) Value.string z4 rfl rfl (fun m1 => jj (α := LeaD) zx zY rfl rfl (fun m2 => yN (cs := [.map (some m1), .map (some m2), Vi 0, Vn 0]) (z := [.map none, .map none, Vi 0, Vn 0]) (pl := [(0, 1), (1, 1), (2, 1), (3, 1)]) (by kernel_rfl) (by kernel_rfl) rfl (ya rfl rfl (fun b4 => zH rfl (zA ?_)))))))))
  exact zR (z6 (v := .pointer (some ⟨b4, 0, none⟩)) rfl rfl (fun w' hw => ⟨b4, m1, m2, rfl, hw.sel [2, 0, 1] rfl (by decide)⟩))
theorem zIl {S : List Nat} (b bm lm : Nat) (now : Int) (cnt : Nat) (kb : List (ByteArray × Int)) (kl : List (Nat × LeaD)) (s : Nat) (k : ByteArray) (a sp : Int) (w : World) (hlen : 0 ≤ z3 k kl ∧ z3 k kl ≤ 9223372036854775807) (ha : yd a) (ht : 0 ≤ now ∧ now ≤ 2305843009213693952) (hc : cnt ≤ 1000000000) (hin : Own w S [Res.row b 71 [.map (some bm), .map (some lm), Vi now, Vn cnt], Res.mp Value.string z4 bm kb, Res.mp zx zY lm kl] w) : Rets Try.prog 60 #[.pointer (some ⟨b, 0, none⟩), Vn s, .string k, Vi a, Vi sp] w fun u_ w' => ∃ (x : LeaD) (e : Int) (cnt' : Nat) (kl' : List (Nat × LeaD)), u_ = .tuple #[.agg (LeaD.cells x).toArray, Vi e] ∧ e = xA s k a sp kb kl ∧ x = k9 e cnt s k a (now + sp) ∧ cnt' = zAW e cnt ∧ kl' = zD1 e x kl ∧ Own w S [Res.row b 71 [.map (some bm), .map (some lm), Vi now, Vn cnt'], Res.mp Value.string z4 bm kb, Res.mp zx zY lm kl'] w' := by
  refine zg Try.func60 rfl Try.ntmps60 hin ?_
  refine zB (yR (v := .agg #[Vn 0, Vn 0, .string (⟨#[]⟩ : ByteArray), Vi 0, Vi 0]) (by kernel_rfl) rfl (fun b10 => zH rfl (zA (zO (zB (zC rfl (xS (by kernel_rfl) rfl rfl rfl (zC rfl (zV rfl rfl (zC rfl (zV rfl rfl (yn rfl rfl rfl ?_))))))))))))
  refine x2 rfl rfl (zC rfl (xP (q := ((s : Nat) : Int) = ((0 : Nat) : Int)) 3 6 [26, 25, 24] (¬ (yp k)) rfl rfl rfl rfl rfl rfl trivial rfl (fun h1_6 => ?_) (fun g1_10 => ?_)))
  ·
   refine zV rfl (gF h1_6) (zC rfl (zV rfl (gF h1_6) (zQ rfl rfl (fun w' hw => (zD4 k w').mono ?_))))
   rintro _ w1 ⟨rfl, hO⟩
   refine (?_ : CL _ _ _ _ _ _ (Own w S [Res.row b 71 [.map (some bm), .map (some lm), Vi now, Vn cnt], Res.mp Value.string z4 bm kb, Res.mp zx zY lm kl, Res.row b10 73 [Vn 0, Vn 0, .string (⟨#[]⟩ : ByteArray), Vi 0, Vi 0]])) w1 (hw.frame0 hO)
   refine zV rfl (gF h1_6) (ku (q := yp k) rfl rfl ?_)
   exact yg rfl (fun _ hw => hw)
  refine zC rfl (xP (q := (((s : Nat) : Int) = ((0 : Nat) : Int)) ∨ (¬ (yp k))) 2 11 [30, 29] (a < 1) rfl rfl rfl rfl rfl rfl trivial rfl (fun h1_11 => ?_) (fun g1_14 => ?_))
  ·
   refine zV rfl (gF h1_11) (zC rfl (zV rfl (gF h1_11) (yT rfl rfl rfl ?_)))
   exact yg rfl (fun _ hw => hw)
  refine zC rfl (xP (q := ((((s : Nat) : Int) = ((0 : Nat) : Int)) ∨ (¬ (yp k))) ∨ (a < 1)) 3 15 [35, 34, 33] (¬ (yE sp)) rfl rfl rfl rfl rfl rfl trivial rfl (fun h1_15 => ?_) (fun g1_19 => ?_))
  ·
   refine zV rfl (gF h1_15) (zC rfl (zV rfl (gF h1_15) (zQ rfl rfl (fun w' hw => (zFj sp w').mono ?_))))
   rintro _ w1 ⟨rfl, hO⟩
   refine (?_ : CL _ _ _ _ _ _ (Own w S [Res.row b 71 [.map (some bm), .map (some lm), Vi now, Vn cnt], Res.mp Value.string z4 bm kb, Res.mp zx zY lm kl, Res.row b10 73 [Vn 0, Vn 0, .string (⟨#[]⟩ : ByteArray), Vi 0, Vi 0]])) w1 (hw.frame0 hO)
   refine zV rfl (gF h1_15) (ku (q := yE sp) rfl rfl ?_)
   exact yg rfl (fun _ hw => hw)
  refine zA (zU rfl (fun c1 => ?_) (fun c1 => ?_))
  ·
   refine zB (yN (cs := [Vn 0, Vn 0, .string (⟨#[]⟩ : ByteArray), Vi 0, Vi 0]) (z := [Vn 0, Vn 0, .string (⟨#[]⟩ : ByteArray), Vi 0, Vi 0]) (pl := [(0, 1), (1, 1), (2, 1), (3, 1), (4, 1)]) (by kernel_rfl) (by kernel_rfl) rfl (zt 3 rfl rfl rfl (yC rfl) rfl (zH rfl (zA ?_))))
   exact zR (yU (cs := [Vn 0, Vn 0, .string (⟨#[]⟩ : ByteArray), Vi 0, Vi 0]) (v := Vi 1) rfl rfl rfl (by kernel_rfl) (Own.rowCells (i := 3) rfl) (fun w' hw => ⟨LeaD.zero, 1, cnt, kl, rfl, (zH2 (larg.1 c1)).symm, rfl, rfl, rfl, hw.sel [0, 1, 2] rfl (by decide)⟩))
  ·
   have hla : ¬ yu s k a sp := fun q => c1 (larg.2 q)
   have hsp : yE sp := Decidable.by_contra fun q => c1 (.inr q)
   have ha1 : 1 ≤ a := Int.not_lt.1 fun q => c1 (.inl (.inr q))
   unfold yE at hsp
   refine zM (zB (zC rfl (yA rfl rfl (zc (o := 0) rfl rfl (ze 0 (v := .map (some bm)) rfl rfl rfl rfl (zC rfl (zBI (k := k) (kv := kb) (zv := 0) zCs zCP zBX rfl rfl (fun w' hw' => Own.holds hw' 1 _ rfl) rfl (zC rfl (zl (vs := [Vi ((zX k kb).getD 0), .bool ((zX k kb).isSome)]) rfl rfl rfl (zl (vs := [Vi ((zX k kb).getD 0), .bool ((zX k kb).isSome)]) rfl rfl rfl (zH rfl (zH rfl ?_))))))))))))
   refine zA (zO (zB (zC rfl (jt (b := (zX k kb).isSome) rfl rfl (zA (jw rfl (fun c2 => ?_) (fun c2 => ?_)))))))
   ·
    refine zB (yN (cs := [Vn 0, Vn 0, .string (⟨#[]⟩ : ByteArray), Vi 0, Vi 0]) (z := [Vn 0, Vn 0, .string (⟨#[]⟩ : ByteArray), Vi 0, Vi 0]) (pl := [(0, 1), (1, 1), (2, 1), (3, 1), (4, 1)]) (by kernel_rfl) (by kernel_rfl) rfl (zt 3 rfl rfl rfl (yC rfl) rfl (zH rfl (zA ?_))))
    exact zR (yU (cs := [Vn 0, Vn 0, .string (⟨#[]⟩ : ByteArray), Vi 0, Vi 0]) (v := Vi 8) rfl rfl rfl (by kernel_rfl) (Own.rowCells (i := 3) rfl) (fun w' hw => ⟨LeaD.zero, 8, cnt, kl, rfl, (zJ4 hla c2).symm, rfl, rfl, rfl, hw.sel [0, 1, 2] rfl (by decide)⟩))
   ·
    have hc2 : ¬ (!(zX k kb).isSome) = true := by rw [c2]; decide
    refine zM (zB (zC rfl (zC rfl (zQ rfl rfl (fun w' hw => (jW b bm lm now cnt kl k w' (hw.give [0, 2] rfl (by decide))).mono ?_)))))
    rintro _ w1 ⟨n1_, rfl, hf6_2, hO⟩
    refine (?_ : CL _ _ _ _ _ _ (Own w S [Res.mp Value.string z4 bm kb, Res.row b10 73 [Vn 0, Vn 0, .string (⟨#[]⟩ : ByteArray), Vi 0, Vi 0], Res.row b 71 [.map (some bm), .map (some lm), Vi now, Vn cnt], Res.mp zx zY lm kl])) w1 (hw.frameL [0, 2] rfl hO)
    refine zC rfl (yz (e := 2) (sz := 1) (vs := [Vi n1_, Vi a]) (by kernel_rfl) rfl rfl (by simp [Value.cells]) (by decide) rfl (fun b55 => zQ rfl rfl (fun w' hw => (zHP (.slice (some ⟨b55, 0, none⟩) 2 2) [n1_, a] w' rfl (by show 0 ≤ n1_ ∧ n1_ ≤ _; rw [hf6_2]; exact hlen) (by show _ ≤ a ∧ a ≤ _; exact ⟨by omega, ha.2⟩) (hw.rdVec0 4 rfl)).mono ?_)))
    rintro _ w1 ⟨n2_, e3_, rfl, hf6_5, hO⟩
    have hsum := zGM hf6_5 hf6_2
    refine (?_ : CL _ _ _ _ _ _ (Own w S [Res.mp Value.string z4 bm kb, Res.row b10 73 [Vn 0, Vn 0, .string (⟨#[]⟩ : ByteArray), Vi 0, Vi 0], Res.row b 71 [.map (some bm), .map (some lm), Vi now, Vn cnt], Res.mp zx zY lm kl, Res.vec 2 1 (.slice (some ⟨b55, 0, none⟩) 2 2) [n1_, a].length ([n1_, a].flatMap I1)])) w1 (hw.frame0 hO)
    refine zC rfl (zl (vs := [Vi n2_, Vi e3_]) rfl rfl rfl (zl (vs := [Vi n2_, Vi e3_]) rfl rfl rfl (zH rfl (zH rfl (zA (zO (zT (zB (zC rfl (jU rfl rfl rfl (zH rfl (zA ?_))))))))))))
    refine zU rfl (fun c3 => ?_) (fun c3 => ?_)
    ·
     refine zB (yN (cs := [Vn 0, Vn 0, .string (⟨#[]⟩ : ByteArray), Vi 0, Vi 0]) (z := [Vn 0, Vn 0, .string (⟨#[]⟩ : ByteArray), Vi 0, Vi 0]) (pl := [(0, 1), (1, 1), (2, 1), (3, 1), (4, 1)]) (by kernel_rfl) (by kernel_rfl) rfl (zC rfl (zt 1 rfl rfl rfl (yC rfl) rfl (zH rfl (zA ?_)))))
     exact zR (yU (cs := [Vn 0, Vn 0, .string (⟨#[]⟩ : ByteArray), Vi 0, Vi 0]) (v := Vi e3_) rfl rfl rfl (by kernel_rfl) (Own.rowCells (i := 1) rfl) (fun w' hw => ⟨LeaD.zero, e3_, cnt, kl, rfl, (by rw [(kh hsum c3).2]; exact (zJf hla hc2 (kh hsum c3).1).symm), (by rw [(kh hsum c3).2]; rfl), (by rw [(kh hsum c3).2]; rfl), (by rw [(kh hsum c3).2]; rfl), hw.sel [2, 0, 3] rfl (by decide)⟩))
    ·
     refine zB (zC rfl (zC rfl (kD rfl rfl rfl (zH rfl (zA (zU rfl (fun c4 => ?_) (fun c4 => ?_)))))))
     ·
      refine zB (yN (cs := [Vn 0, Vn 0, .string (⟨#[]⟩ : ByteArray), Vi 0, Vi 0]) (z := [Vn 0, Vn 0, .string (⟨#[]⟩ : ByteArray), Vi 0, Vi 0]) (pl := [(0, 1), (1, 1), (2, 1), (3, 1), (4, 1)]) (by kernel_rfl) (by kernel_rfl) rfl (zt 1 rfl rfl rfl (yC rfl) rfl (zH rfl (zA ?_))))
      exact zR (yU (cs := [Vn 0, Vn 0, .string (⟨#[]⟩ : ByteArray), Vi 0, Vi 0]) (v := Vi 16) rfl rfl rfl (by kernel_rfl) (Own.rowCells (i := 1) rfl) (fun w' hw => ⟨LeaD.zero, 16, cnt, kl, rfl, (zIH hla hc2 (kK hsum c3).1 (by rw [← (kK hsum c3).2]; exact c4)).symm, rfl, rfl, rfl, hw.sel [2, 0, 3] rfl (by decide)⟩))
     ·
      refine zB (zC rfl (yA rfl rfl (zc (o := 1) rfl rfl (ze 2 (v := .map (some lm)) rfl rfl rfl rfl (zCB zx zY (kv := kl) zB5 rfl (fun w' hw' => Own.holds hw' 3 _ rfl) rfl (yY rfl rfl rfl (zH rfl (zA (zU rfl (fun c5 => ?_) (fun c5 => ?_))))))))))
      ·
       refine zB (yN (cs := [Vn 0, Vn 0, .string (⟨#[]⟩ : ByteArray), Vi 0, Vi 0]) (z := [Vn 0, Vn 0, .string (⟨#[]⟩ : ByteArray), Vi 0, Vi 0]) (pl := [(0, 1), (1, 1), (2, 1), (3, 1), (4, 1)]) (by kernel_rfl) (by kernel_rfl) rfl (zt 1 rfl rfl rfl (yC rfl) rfl (zH rfl (zA ?_))))
       exact zR (yU (cs := [Vn 0, Vn 0, .string (⟨#[]⟩ : ByteArray), Vi 0, Vi 0]) (v := Vi 7) rfl rfl rfl (by kernel_rfl) (Own.rowCells (i := 1) rfl) (fun w' hw => ⟨LeaD.zero, 7, cnt, kl, rfl, (zJE hla hc2 (kK hsum c3).1 (by rw [← (kK hsum c3).2]; exact c4) c5).symm, rfl, rfl, rfl, hw.sel [2, 0, 3] rfl (by decide)⟩))
      ·
       refine zM (zB (zC rfl (yA rfl rfl (zc (o := 3) rfl rfl (ze 2 (v := Vn cnt) rfl rfl rfl rfl (zw rfl rfl (zC1 (by omega)) rfl (yA rfl rfl (zc (o := 3) rfl rfl (zA6 (cs := [.map (some bm), .map (some lm), Vi now, Vn cnt]) 2 rfl rfl rfl rfl rfl (zA (zO (zW [0, 1, 2, 3, 4] rfl (by decide) (by kernel_rfl) (fun w' hw hS => ?_)))))))))))))
       refine zE 0 rfl (zJ) hS (zE 1 rfl (zo rfl) hS (zE 2 rfl (zk (o := 3) rfl) hS (zE 3 rfl (zp 2 (v := Vn (cnt + 1)) rfl rfl rfl) hS (zE 4 rfl (zJ) hS (zE 5 rfl (zJ) hS (zE 6 rfl (zJ) hS (zE 7 rfl (zJ) hS (zE 8 rfl (zo rfl) hS (zE 9 rfl (zk (o := 2) rfl) hS (zE 10 rfl (zp 2 (v := Vi now) rfl rfl rfl) hS (zE 11 rfl (zJ) hS (zE 12 rfl (xb rfl rfl (zr (by omega))) hS ?_))))))))))))
       refine zE 13 rfl (zDz (cs := [Vn (cnt + 1), Vn s, .string k, Vi a, Vi (now + sp)]) (z := [Vn 0, Vn 0, .string (⟨#[]⟩ : ByteArray), Vi 0, Vi 0]) (pl := [(0, 1), (1, 1), (2, 1), (3, 1), (4, 1)]) (by kernel_rfl) (by kernel_rfl)) hS (zZ 14 rfl hw (yR (v := .agg #[Vn 0, Vn 0, .string (⟨#[]⟩ : ByteArray), Vi 0, Vi 0]) (by kernel_rfl) rfl (fun b16 => zF [0, 1, 2, 3, 4] rfl (by decide) (fun w' hw hS => zZ 15 rfl hw (zt 5 rfl rfl rfl (yC rfl) rfl (zF [0, 1, 2, 3, 4] rfl (by decide) (fun w' hw hS => zK ?_)))))))
       refine (?_ : C _ _ _ _ _ _ _ (Own w S [Res.mp Value.string z4 bm kb, Res.row b10 73 [Vn 0, Vn 0, .string (⟨#[]⟩ : ByteArray), Vi 0, Vi 0], Res.row b 71 [.map (some bm), .map (some lm), Vi now, Vn (cnt + 1)], Res.mp zx zY lm kl, Res.vec 2 1 (.slice (some ⟨b55, 0, none⟩) 2 2) [n1_, a].length ([n1_, a].flatMap I1), Res.row b16 73 [Vn (cnt + 1), Vn s, .string k, Vi a, Vi (now + sp)]])) _ hw
       refine zO (zW [0, 1, 2, 4, 5] rfl (by decide) (by kernel_rfl) (fun w' hw hS => zE 0 rfl (zJ) hS (zE 1 rfl (zo rfl) hS (zE 2 rfl (zk (o := 1) rfl) hS (zE 3 rfl (zp 2 (v := .map (some lm)) rfl rfl rfl) hS (zE 4 rfl (zk (o := 0) rfl) hS (zE 5 rfl (zp 4 (v := Vn (cnt + 1)) rfl rfl rfl) hS (zE 6 rfl (zAs (cs := [Vn (cnt + 1), Vn s, .string k, Vi a, Vi (now + sp)]) 4 rfl rfl) hS (zZ 7 rfl hw (zAD 3 (k := cnt + 1) (v := ({ id := cnt + 1, session := s, key := k, amount := a, until_ := now + sp } : LeaD)) zEb zB5 rfl rfl rfl rfl (zF [0, 1, 2, 4, 5] rfl (by decide) (fun w' hw hS => zK ?_))))))))))))
       refine (?_ : C _ _ _ _ _ _ _ (Own w S [Res.mp Value.string z4 bm kb, Res.row b10 73 [Vn 0, Vn 0, .string (⟨#[]⟩ : ByteArray), Vi 0, Vi 0], Res.row b 71 [.map (some bm), .map (some lm), Vi now, Vn (cnt + 1)], Res.mp zx zY lm (yj (cnt + 1) ({ id := cnt + 1, session := s, key := k, amount := a, until_ := now + sp } : LeaD) kl), Res.vec 2 1 (.slice (some ⟨b55, 0, none⟩) 2 2) [n1_, a].length ([n1_, a].flatMap I1), Res.row b16 73 [Vn (cnt + 1), Vn s, .string k, Vi a, Vi (now + sp)]])) _ hw
       refine zB (yr (cs := [Vn (cnt + 1), Vn s, .string k, Vi a, Vi (now + sp)]) 5 rfl rfl rfl (zt 1 rfl rfl rfl (yC rfl) rfl (zH rfl (zA ?_))))
       exact zR (yU (cs := [Vn (cnt + 1), Vn s, .string k, Vi a, Vi (now + sp)]) (v := Vi 0) rfl rfl rfl (by kernel_rfl) (Own.rowCells (i := 1) rfl) (fun w' hw => ⟨⟨cnt + 1, s, k, a, now + sp⟩, 0, cnt + 1, yj (cnt + 1) ⟨cnt + 1, s, k, a, now + sp⟩ kl, rfl, (zJ7 hla hc2 (kK hsum c3).1 (by rw [← (kK hsum c3).2]; exact c4) c5).symm, rfl, rfl, rfl, hw.sel [2, 0, 3] rfl (by decide)⟩))
theorem zHC {S : List Nat} (b bm lm : Nat) (now : Int) (cnt : Nat) (kb : List (ByteArray × Int)) (kl : List (Nat × LeaD)) (s i : Nat) (sp : Int) (w : World) (ht : 0 ≤ now ∧ now ≤ 2305843009213693952) (hin : Own w S [Res.row b 71 [.map (some bm), .map (some lm), Vi now, Vn cnt], Res.mp Value.string z4 bm kb, Res.mp zx zY lm kl] w) : Rets Try.prog 61 #[.pointer (some ⟨b, 0, none⟩), Vn s, Vn i, Vi sp] w fun u_ w' => ∃ (x : LeaD) (e : Int) (kl' : List (Nat × LeaD)), u_ = .tuple #[.agg (LeaD.cells x).toArray, Vi e] ∧ zAK now kb kl s i sp x e kl' ∧ Own w S [Res.row b 71 [.map (some bm), .map (some lm), Vi now, Vn cnt], Res.mp Value.string z4 bm kb, Res.mp zx zY lm kl'] w' := by
  refine zg Try.func61 rfl Try.ntmps61 hin ?_
  refine zB (yR (v := .agg #[Vn 0, Vn 0, .string (⟨#[]⟩ : ByteArray), Vi 0, Vi 0]) (by kernel_rfl) rfl (fun b8 => zH rfl (zA (zO (zB (zC rfl (xS (by kernel_rfl) rfl rfl rfl (zC rfl (zV rfl rfl (zC rfl (zV rfl rfl (zQ rfl rfl (fun w' hw => ?_)))))))))))))
  refine (zFj sp w').mono ?_
  rintro _ w1 ⟨rfl, hO⟩
  refine (?_ : CL _ _ _ _ _ _ (Own w S [Res.row b 71 [.map (some bm), .map (some lm), Vi now, Vn cnt], Res.mp Value.string z4 bm kb, Res.mp zx zY lm kl, Res.row b8 73 [Vn 0, Vn 0, .string (⟨#[]⟩ : ByteArray), Vi 0, Vi 0]])) w1 (hw.frame0 hO)
  refine zV rfl rfl (ku (q := yE sp) rfl rfl (x2 rfl rfl (zA (zU rfl (fun c1 => ?_) (fun c1 => ?_)))))
  ·
   refine zB (yN (cs := [Vn 0, Vn 0, .string (⟨#[]⟩ : ByteArray), Vi 0, Vi 0]) (z := [Vn 0, Vn 0, .string (⟨#[]⟩ : ByteArray), Vi 0, Vi 0]) (pl := [(0, 1), (1, 1), (2, 1), (3, 1), (4, 1)]) (by kernel_rfl) (by kernel_rfl) rfl (zt 3 rfl rfl rfl (yC rfl) rfl (zH rfl (zA ?_))))
   exact zR (yU (cs := [Vn 0, Vn 0, .string (⟨#[]⟩ : ByteArray), Vi 0, Vi 0]) (v := Vi 1) rfl rfl rfl (by kernel_rfl) (Own.rowCells (i := 3) rfl) (fun w' hw => ⟨LeaD.zero, 1, kl, rfl, .inl ⟨c1, rfl, rfl, rfl⟩, hw.sel [0, 1, 2] rfl (by decide)⟩))
  ·
   have hsp : 1 ≤ sp ∧ sp ≤ 1099511627776 := Decidable.not_not.1 c1
   refine zM (zB (zC rfl (zC rfl (zC rfl (zQ rfl rfl (fun w' hw => (zE1 b bm lm now cnt kl s i w' (hw.give [0, 2] rfl (by decide))).mono ?_))))))
   rintro _ w1 ⟨x1_, e2_, rfl, hf3_3, hO⟩
   refine (?_ : CL _ _ _ _ _ _ (Own w S [Res.mp Value.string z4 bm kb, Res.row b8 73 [Vn 0, Vn 0, .string (⟨#[]⟩ : ByteArray), Vi 0, Vi 0], Res.row b 71 [.map (some bm), .map (some lm), Vi now, Vn cnt], Res.mp zx zY lm kl])) w1 (hw.frameL [0, 2] rfl hO)
   refine zC rfl (zl (vs := [.agg (LeaD.cells x1_).toArray, Vi e2_]) rfl rfl rfl (zl (vs := [.agg (LeaD.cells x1_).toArray, Vi e2_]) rfl rfl rfl (yR (v := .agg #[Vn 0, Vn 0, .string (⟨#[]⟩ : ByteArray), Vi 0, Vi 0]) (by kernel_rfl) rfl (fun b10 => zt 4 rfl rfl rfl (yC rfl) rfl (zH rfl (zA (zO (zT (zB (zC rfl (jU rfl rfl rfl (zH rfl ?_))))))))))))
   refine zA (zU rfl (fun c2 => ?_) (fun c2 => ?_))
   ·
    refine zB (yN (cs := [Vn 0, Vn 0, .string (⟨#[]⟩ : ByteArray), Vi 0, Vi 0]) (z := [Vn 0, Vn 0, .string (⟨#[]⟩ : ByteArray), Vi 0, Vi 0]) (pl := [(0, 1), (1, 1), (2, 1), (3, 1), (4, 1)]) (by kernel_rfl) (by kernel_rfl) rfl (zC rfl (zt 1 rfl rfl rfl (yC rfl) rfl (zH rfl (zA ?_)))))
    exact zR (yU (cs := [Vn 0, Vn 0, .string (⟨#[]⟩ : ByteArray), Vi 0, Vi 0]) (v := Vi e2_) rfl rfl rfl (by kernel_rfl) (Own.rowCells (i := 1) rfl) (fun w' hw => ⟨LeaD.zero, e2_, kl, rfl, zEz c1 hf3_3 c2, hw.sel [2, 0, 3] rfl (by decide)⟩))
   ·
    refine zO (zW [0, 1, 4] rfl (by decide) (by kernel_rfl) (fun w' hw hS => zE 0 rfl (zJ) hS (zE 1 rfl (zk (o := 2) rfl) hS (zE 2 rfl (zp 2 (v := .string x1_.key) rfl rfl rfl) hS (zE 4 rfl (zJ) hS (zE 5 rfl (zo rfl) hS (zE 6 rfl (zk (o := 0) rfl) hS (zE 8 rfl (zk (o := 2) rfl) hS (zE 9 rfl (zp 2 (v := .string x1_.key) rfl rfl rfl) hS (zS 3 7 ?_ ?_))))))))))
    ·
     refine zP 3 rfl hw (zQ rfl rfl (fun w' hw => (jW b bm lm now cnt kl x1_.key w' (hw.give [2, 3] rfl (by decide))).mono ?_))
     rintro _ w1 ⟨n3_, rfl, hf6_3, hO⟩
     refine (?_ : CL _ _ _ _ _ _ (Own w S [Res.mp Value.string z4 bm kb, Res.row b8 73 [Vn 0, Vn 0, .string (⟨#[]⟩ : ByteArray), Vi 0, Vi 0], Res.row b10 73 (LeaD.cells x1_), Res.row b 71 [.map (some bm), .map (some lm), Vi now, Vn cnt], Res.mp zx zY lm kl])) w1 (hw.frameL [2, 3] rfl hO)
     refine zF [0, 1, 2] rfl (by decide) (fun w' hw hS => zZ 7 rfl hw (ze 3 (v := .map (some bm)) rfl rfl rfl rfl (zF [0, 1, 2] rfl (by decide) (fun w' hw hS => zE 10 rfl (zEB (k := x1_.key) (kv := kb) (zv := 0) zCs zCP zBX rfl rfl (fun w' hw' => Own.holds hw' 0 _ rfl)) hS (zE 11 rfl (zCY rfl rfl) hS (zE 12 rfl (xN) hS (zK ?_)))))))
     refine (?_ : C _ _ _ _ _ _ _ (Own w S [Res.mp Value.string z4 bm kb, Res.row b8 73 [Vn 0, Vn 0, .string (⟨#[]⟩ : ByteArray), Vi 0, Vi 0], Res.row b10 73 (LeaD.cells x1_), Res.row b 71 [.map (some bm), .map (some lm), Vi now, Vn cnt], Res.mp zx zY lm kl])) _ hw
     refine zU rfl (fun c3 => ?_) (fun c3 => ?_)
     ·
      refine zB (yN (cs := [Vn 0, Vn 0, .string (⟨#[]⟩ : ByteArray), Vi 0, Vi 0]) (z := [Vn 0, Vn 0, .string (⟨#[]⟩ : ByteArray), Vi 0, Vi 0]) (pl := [(0, 1), (1, 1), (2, 1), (3, 1), (4, 1)]) (by kernel_rfl) (by kernel_rfl) rfl (zt 1 rfl rfl rfl (yC rfl) rfl (zH rfl (zA ?_))))
      exact zR (yU (cs := [Vn 0, Vn 0, .string (⟨#[]⟩ : ByteArray), Vi 0, Vi 0]) (v := Vi 16) rfl rfl rfl (by kernel_rfl) (Own.rowCells (i := 1) rfl) (fun w' hw => ⟨LeaD.zero, 16, kl, rfl, zDE c1 hf3_3 c2 hf6_3 c3, hw.sel [3, 0, 4] rfl (by decide)⟩))
     ·
      refine zM (zO (zW [0, 1, 3, 4] rfl (by decide) (by kernel_rfl) (fun w' hw hS => zE 0 rfl (zk (o := 4) rfl) hS (zE 2 rfl (zJ) hS (zE 3 rfl (zo rfl) hS (zE 4 rfl (zk (o := 2) rfl) hS (zE 5 rfl (zp 2 (v := Vi now) rfl rfl rfl) hS (zE 6 rfl (zJ) hS (zE 7 rfl (xb rfl rfl (zr (by omega))) hS (zZ 1 rfl hw (ze 2 (v := Vi x1_.until_) rfl rfl rfl rfl (zF [0, 1, 3, 4] rfl (by decide) (fun w' hw hS => ?_)))))))))))))
      refine zE 8 rfl (zHk (c := max x1_.until_ (now + sp)) rfl rfl (zJc _ _)) hS (zE 9 rfl (zk (o := 4) rfl) hS (zZ 10 rfl hw (zA6 (cs := (LeaD.cells x1_)) 2 rfl rfl rfl rfl rfl (zF [0, 1, 3, 4] rfl (by decide) (fun w' hw hS => zK ?_)))))
      refine (?_ : C _ _ _ _ _ _ _ (Own w S [Res.mp Value.string z4 bm kb, Res.row b8 73 [Vn 0, Vn 0, .string (⟨#[]⟩ : ByteArray), Vi 0, Vi 0], Res.row b10 73 [Vn x1_.id, Vn x1_.session, .string x1_.key, Vi x1_.amount, Vi (max x1_.until_ (now + sp))], Res.row b 71 [.map (some bm), .map (some lm), Vi now, Vn cnt], Res.mp zx zY lm kl])) _ hw
      refine zO (zW [0, 1, 2, 3] rfl (by decide) (by kernel_rfl) (fun w' hw hS => zE 0 rfl (zJ) hS (zE 1 rfl (zo rfl) hS (zE 2 rfl (zk (o := 1) rfl) hS (zE 3 rfl (zp 3 (v := .map (some lm)) rfl rfl rfl) hS (zE 4 rfl (zJ) hS (zE 5 rfl (zAs 2 rfl rfl) hS (zZ 6 rfl hw (zAD 4 (k := i) (v := ({ x1_ with until_ := max x1_.until_ (now + sp) } : LeaD)) zEb zB5 rfl rfl rfl rfl (zF [0, 1, 2, 3] rfl (by decide) (fun w' hw hS => zK ?_)))))))))))
      refine (?_ : C _ _ _ _ _ _ _ (Own w S [Res.mp Value.string z4 bm kb, Res.row b8 73 [Vn 0, Vn 0, .string (⟨#[]⟩ : ByteArray), Vi 0, Vi 0], Res.row b10 73 [Vn x1_.id, Vn x1_.session, .string x1_.key, Vi x1_.amount, Vi (max x1_.until_ (now + sp))], Res.row b 71 [.map (some bm), .map (some lm), Vi now, Vn cnt], Res.mp zx zY lm (yj i ({ x1_ with until_ := max x1_.until_ (now + sp) } : LeaD) kl)])) _ hw
      refine zB (yr 2 rfl rfl rfl (zt 1 rfl rfl rfl (yC rfl) rfl (zH rfl (zA ?_))))
      exact zR (yU (cs := [Vn x1_.id, Vn x1_.session, .string x1_.key, Vi x1_.amount, Vi (max x1_.until_ (now + sp))]) (v := Vi 0) rfl rfl rfl (by kernel_rfl) (Own.rowCells (i := 1) rfl) (fun w' hw => ⟨xH x1_ (now + sp), 0, yj i (xH x1_ (now + sp)) kl, rfl, zDv c1 hf3_3 c2 hf6_3 c3, hw.sel [3, 0, 4] rfl (by decide)⟩))
    ·
     refine zP 7 rfl hw (ze 2 (v := .map (some bm)) rfl rfl rfl rfl (zF [0, 1, 4] rfl (by decide) (fun w' hw hS => zE 10 rfl (zEB (k := x1_.key) (kv := kb) (zv := 0) zCs zCP zBX rfl rfl (fun w' hw' => Own.holds hw' 0 _ rfl)) hS (zZ 3 rfl hw (zQ rfl rfl (fun w' hw => (jW b bm lm now cnt kl x1_.key w' (hw.give [2, 3] rfl (by decide))).mono ?_))))))
     rintro _ w1 ⟨n4_, rfl, hf6_3, hO⟩
     refine (?_ : CL _ _ _ _ _ _ (Own w S [Res.mp Value.string z4 bm kb, Res.row b8 73 [Vn 0, Vn 0, .string (⟨#[]⟩ : ByteArray), Vi 0, Vi 0], Res.row b10 73 (LeaD.cells x1_), Res.row b 71 [.map (some bm), .map (some lm), Vi now, Vn cnt], Res.mp zx zY lm kl])) w1 (hw.frameL [2, 3] rfl hO)
     refine zF [0, 1, 2] rfl (by decide) (fun w' hw hS => zE 11 rfl (zCY rfl rfl) hS (zE 12 rfl (xN) hS (zK ?_)))
     refine (?_ : C _ _ _ _ _ _ _ (Own w S [Res.mp Value.string z4 bm kb, Res.row b8 73 [Vn 0, Vn 0, .string (⟨#[]⟩ : ByteArray), Vi 0, Vi 0], Res.row b10 73 (LeaD.cells x1_), Res.row b 71 [.map (some bm), .map (some lm), Vi now, Vn cnt], Res.mp zx zY lm kl])) _ hw
     refine zU rfl (fun c4 => ?_) (fun c4 => ?_)
     ·
      refine zB (yN (cs := [Vn 0, Vn 0, .string (⟨#[]⟩ : ByteArray), Vi 0, Vi 0]) (z := [Vn 0, Vn 0, .string (⟨#[]⟩ : ByteArray), Vi 0, Vi 0]) (pl := [(0, 1), (1, 1), (2, 1), (3, 1), (4, 1)]) (by kernel_rfl) (by kernel_rfl) rfl (zt 1 rfl rfl rfl (yC rfl) rfl (zH rfl (zA ?_))))
      exact zR (yU (cs := [Vn 0, Vn 0, .string (⟨#[]⟩ : ByteArray), Vi 0, Vi 0]) (v := Vi 16) rfl rfl rfl (by kernel_rfl) (Own.rowCells (i := 1) rfl) (fun w' hw => ⟨LeaD.zero, 16, kl, rfl, zDE c1 hf3_3 c2 hf6_3 c4, hw.sel [3, 0, 4] rfl (by decide)⟩))
     ·
      refine zM (zO (zW [0, 1, 3, 4] rfl (by decide) (by kernel_rfl) (fun w' hw hS => zE 0 rfl (zk (o := 4) rfl) hS (zE 2 rfl (zJ) hS (zE 3 rfl (zo rfl) hS (zE 4 rfl (zk (o := 2) rfl) hS (zE 5 rfl (zp 2 (v := Vi now) rfl rfl rfl) hS (zE 6 rfl (zJ) hS (zE 7 rfl (xb rfl rfl (zr (by omega))) hS (zZ 1 rfl hw (ze 2 (v := Vi x1_.until_) rfl rfl rfl rfl (zF [0, 1, 3, 4] rfl (by decide) (fun w' hw hS => ?_)))))))))))))
      refine zE 8 rfl (zHk (c := max x1_.until_ (now + sp)) rfl rfl (zJc _ _)) hS (zE 9 rfl (zk (o := 4) rfl) hS (zZ 10 rfl hw (zA6 (cs := (LeaD.cells x1_)) 2 rfl rfl rfl rfl rfl (zF [0, 1, 3, 4] rfl (by decide) (fun w' hw hS => zK ?_)))))
      refine (?_ : C _ _ _ _ _ _ _ (Own w S [Res.mp Value.string z4 bm kb, Res.row b8 73 [Vn 0, Vn 0, .string (⟨#[]⟩ : ByteArray), Vi 0, Vi 0], Res.row b10 73 [Vn x1_.id, Vn x1_.session, .string x1_.key, Vi x1_.amount, Vi (max x1_.until_ (now + sp))], Res.row b 71 [.map (some bm), .map (some lm), Vi now, Vn cnt], Res.mp zx zY lm kl])) _ hw
      refine zO (zW [0, 1, 2, 3] rfl (by decide) (by kernel_rfl) (fun w' hw hS => zE 0 rfl (zJ) hS (zE 1 rfl (zo rfl) hS (zE 2 rfl (zk (o := 1) rfl) hS (zE 3 rfl (zp 3 (v := .map (some lm)) rfl rfl rfl) hS (zE 4 rfl (zJ) hS (zE 5 rfl (zAs 2 rfl rfl) hS (zZ 6 rfl hw (zAD 4 (k := i) (v := ({ x1_ with until_ := max x1_.until_ (now + sp) } : LeaD)) zEb zB5 rfl rfl rfl rfl (zF [0, 1, 2, 3] rfl (by decide) (fun w' hw hS => zK ?_)))))))))))
      refine (?_ : C _ _ _ _ _ _ _ (Own w S [Res.mp Value.string z4 bm kb, Res.row b8 73 [Vn 0, Vn 0, .string (⟨#[]⟩ : ByteArray), Vi 0, Vi 0], Res.row b10 73 [Vn x1_.id, Vn x1_.session, .string x1_.key, Vi x1_.amount, Vi (max x1_.until_ (now + sp))], Res.row b 71 [.map (some bm), .map (some lm), Vi now, Vn cnt], Res.mp zx zY lm (yj i ({ x1_ with until_ := max x1_.until_ (now + sp) } : LeaD) kl)])) _ hw
      refine zB (yr 2 rfl rfl rfl (zt 1 rfl rfl rfl (yC rfl) rfl (zH rfl (zA ?_))))
      exact zR (yU (cs := [Vn x1_.id, Vn x1_.session, .string x1_.key, Vi x1_.amount, Vi (max x1_.until_ (now + sp))]) (v := Vi 0) rfl rfl rfl (by kernel_rfl) (Own.rowCells (i := 1) rfl) (fun w' hw => ⟨xH x1_ (now + sp), 0, yj i (xH x1_ (now + sp)) kl, rfl, zDv c1 hf3_3 c2 hf6_3 c4, hw.sel [3, 0, 4] rfl (by decide)⟩))
theorem zIW {S : List Nat} (b bm lm : Nat) (now : Int) (cnt : Nat) (kl : List (Nat × LeaD)) (s i : Nat) (w : World) (hin : Own w S [Res.row b 71 [.map (some bm), .map (some lm), Vi now, Vn cnt], Res.mp zx zY lm kl] w) : Rets Try.prog 62 #[.pointer (some ⟨b, 0, none⟩), Vn s, Vn i] w fun u_ w' => ∃ (x : LeaD) (e : Int) (kl' : List (Nat × LeaD)), u_ = .tuple #[.agg (LeaD.cells x).toArray, Vi e] ∧ zCZ kl s i x e kl' ∧ Own w S [Res.row b 71 [.map (some bm), .map (some lm), Vi now, Vn cnt], Res.mp zx zY lm kl'] w' := by
  refine zg Try.func62 rfl Try.ntmps62 hin ?_
  refine zB (yR (v := .agg #[Vn 0, Vn 0, .string (⟨#[]⟩ : ByteArray), Vi 0, Vi 0]) (by kernel_rfl) rfl (fun b6 => zH rfl (zA (zO (zB (zC rfl (xS (by kernel_rfl) rfl rfl rfl (zA (xf rfl (zM (zB (zC rfl ?_))))))))))))
  refine zC rfl (zC rfl (zQ rfl rfl (fun w' hw => (zE1 b bm lm now cnt kl s i w' (hw.give [0, 1] rfl (by decide))).mono ?_)))
  rintro _ w1 ⟨x1_, e2_, rfl, hf3_3, hO⟩
  refine (?_ : CL _ _ _ _ _ _ (Own w S [Res.row b6 73 [Vn 0, Vn 0, .string (⟨#[]⟩ : ByteArray), Vi 0, Vi 0], Res.row b 71 [.map (some bm), .map (some lm), Vi now, Vn cnt], Res.mp zx zY lm kl])) w1 (hw.frameL [0, 1] rfl hO)
  refine zC rfl (zl (vs := [.agg (LeaD.cells x1_).toArray, Vi e2_]) rfl rfl rfl (zl (vs := [.agg (LeaD.cells x1_).toArray, Vi e2_]) rfl rfl rfl (yR (v := .agg #[Vn 0, Vn 0, .string (⟨#[]⟩ : ByteArray), Vi 0, Vi 0]) (by kernel_rfl) rfl (fun b8 => zt 3 rfl rfl rfl (yC rfl) rfl (zH rfl (zA (zO (zB (zC rfl (yn rfl rfl rfl (zA (zU rfl (fun c2 => ?_) (fun c2 => ?_)))))))))))))
  ·
   refine zj (zC rfl (yA rfl rfl (zc (o := 1) rfl rfl (ze 1 (v := .map (some lm)) rfl rfl rfl rfl (zC rfl (zC8 2 (k := i) zEb zB5 rfl rfl rfl (zA (zB (yr (cs := (LeaD.cells x1_)) 3 rfl rfl rfl (zC rfl (zt 0 rfl rfl rfl (yC rfl) rfl (zH rfl ?_))))))))))))
   refine zA ?_
   exact zR (yU (cs := (LeaD.cells x1_)) (v := Vi e2_) rfl rfl rfl (by kernel_rfl) (Own.rowCells (i := 0) rfl) (fun w' hw => ⟨x1_, e2_, xo i kl, rfl, zFI hf3_3 c2, hw.sel [1, 2] rfl (by decide)⟩))
  ·
   refine zM (zB (yr (cs := (LeaD.cells x1_)) 3 rfl rfl rfl (zC rfl (zt 0 rfl rfl rfl (yC rfl) rfl (zH rfl (zA ?_))))))
   exact zR (yU (cs := (LeaD.cells x1_)) (v := Vi e2_) rfl rfl rfl (by kernel_rfl) (Own.rowCells (i := 0) rfl) (fun w' hw => ⟨x1_, e2_, kl, rfl, zG8 hf3_3 c2, hw.sel [1, 2] rfl (by decide)⟩))
theorem zE4 {S : List Nat} (b bm lm : Nat) (now : Int) (cnt : Nat) (kl : List (Nat × LeaD)) (n : Int) (w : World) (ht : 0 ≤ now ∧ now ≤ 2305843009213693952) (hn : yd n) (hk : KNd kl) (hl : kl.length ≤ 128) (hin : Own w S [Res.row b 71 [.map (some bm), .map (some lm), Vi now, Vn cnt], Res.mp zx zY lm kl] w) : Rets Try.prog 15 #[.pointer (some ⟨b, 0, none⟩), Vi n] w fun u_ w' => ∃ (gv : Value) (gs : List Nat) (e now' : Int) (kl' : List (Nat × LeaD)), u_ = .tuple #[gv, Vi e] ∧ e = yQ now n ∧ now' = zAR now n ∧ kl' = kY now n kl ∧ gs.Perm (zAq now n kl) ∧ gs.Pairwise (fun x y => x ≤ y) ∧ Own w S [Res.row b 71 [.map (some bm), .map (some lm), Vi now', Vn cnt], Res.mp zx zY lm kl', Res.vec 28 1 gv gs.length (gs.flatMap U1)] w' := by
  refine zg Try.func15 rfl Try.ntmps15 hin ?_
  refine zB (zH rfl (zH rfl (zA (zO (zT (zB (zC rfl (xS (by kernel_rfl) rfl rfl rfl (zC rfl (zV rfl rfl (zC rfl (zV rfl rfl ?_))))))))))))
  refine yT rfl rfl rfl (x2 rfl rfl (zC rfl (xP (q := n < 0) 2 6 [17, 16] (1099511627776 < n) rfl rfl rfl rfl rfl rfl trivial rfl (fun h1_6 => ?_) (fun g1_9 => ?_))))
  ·
   refine zV rfl (gF h1_6) (zC rfl (zV rfl (gF h1_6) (kD rfl rfl rfl ?_)))
   exact yg rfl (fun _ hw => hw)
  refine zH rfl (zA (zU rfl (fun c1 => ?_) (fun c1 => ?_)))
  ·
   refine zB (zH rfl (zH rfl (zA ?_)))
   exact zR (yV (v := .slice none 0 0) (v' := Vi 1) rfl rfl rfl (fun w' hw => ⟨.slice none 0 0, [], 1, now, kl, rfl, (xe (kl := kl) (zCN c1) (by decide)).1, (xe (kl := kl) (zCN c1) (by decide)).2.1, (xe (kl := kl) (zCN c1) (by decide)).2.2.1, (xe (kl := kl) (zCN c1) (by decide)).2.2.2, List.Pairwise.nil, (yk hw 28 1)⟩))
  ·
   refine zB (zC rfl (yA rfl rfl (zc (o := 2) rfl rfl (ze 0 (v := Vi now) rfl rfl rfl rfl (zC rfl (z9 rfl rfl (zr (by omega)) rfl (kD rfl rfl rfl (zH rfl (zA (zU rfl (fun c2 => ?_) (fun c2 => ?_)))))))))))
   ·
    refine zB (zH rfl (zH rfl (zA ?_)))
    exact zR (yV (v := .slice none 0 0) (v' := Vi 3) rfl rfl rfl (fun w' hw => ⟨.slice none 0 0, [], 3, now, kl, rfl, (xe (kl := kl) (zB8 c1 c2) (by decide)).1, (xe (kl := kl) (zB8 c1 c2) (by decide)).2.1, (xe (kl := kl) (zB8 c1 c2) (by decide)).2.2.1, (xe (kl := kl) (zB8 c1 c2) (by decide)).2.2.2, List.Pairwise.nil, (yk hw 28 1)⟩))
   ·
    refine zM (zB (zC rfl (yA rfl rfl (zc (o := 2) rfl rfl (ze 0 (v := Vi now) rfl rfl rfl rfl (zC rfl (zw rfl rfl (zr (by omega)) rfl (yA rfl rfl (zc (o := 2) rfl rfl (zA6 (cs := [.map (some bm), .map (some lm), Vi now, Vn cnt]) 0 rfl rfl rfl rfl rfl (zA (zO ?_))))))))))))
    refine zB (zC rfl (yA rfl rfl (zc (o := 1) rfl rfl (ze 0 (v := .map (some lm)) rfl rfl rfl rfl (zCq 1 zB5 rfl rfl rfl (fun r39 => zA (zT ?_)))))))
    refine zHd (fun (todo kv : List (Nat × LeaD)) (gv : Value) (gs : List Nat) => [(0, .pointer (some ⟨b, 0, none⟩)), (4, gv), (39, .pointer (some ⟨r39, 0, none⟩))]) (fun (todo kv : List (Nat × LeaD)) (gv : Value) (gs : List Nat) => PassI (now + n) kl todo kv gs) (fun (todo kv : List (Nat × LeaD)) (gv : Value) (gs : List Nat) => [Res.row b 71 [.map (some bm), .map (some lm), Vi (now + n), Vn cnt], Res.rg zx zY lm r39 kv todo, Res.vec 28 1 gv gs.length (gs.flatMap U1)]) (fun (todo kv : List (Nat × LeaD)) (gv : Value) (gs : List Nat) => todo.length) (fun w' hw => ⟨kl, kl, .slice none 0 0, [], ⟨rfl, rfl, rfl, trivial⟩, PassI.start _ _, (yk hw 28 1)⟩) (fun todo kv gv gs g hΦ => ?_)
    have hgl : gs.length ≤ 128 := Nat.le_trans (PassI.len hΦ) hl
    refine zB (zD3 1 rfl rfl rfl (fun hq0 => ?_) (fun q1 k v q2 hq1 => ?_))
    ·
     refine zl (vs := [.bool false]) rfl rfl rfl (zA (zO (xf rfl (yI rfl (zB (zC rfl (zQ rfl rfl (fun w' hw => (zIM gv gs w' (by first | assumption | omega | (simp <;> omega) | (constructor <;> (first | omega | (simp only [zu]; omega) | (simp <;> omega)))) (hw.give [2] rfl (by decide))).mono ?_))))))))
     rintro _ w1 ⟨l'1_, rfl, hf12_1, hf12_1_1, hO⟩
     refine (?_ : CL _ _ _ _ _ _ (Own w S [Res.row b 71 [.map (some bm), .map (some lm), Vi (now + n), Vn cnt], Res.rg zx zY lm r39 kv todo, Res.vec 28 1 gv l'1_.length (l'1_.flatMap U1)])) w1 (hw.frameL [2] rfl hO)
     refine zA (zB (zC rfl (zH rfl (zH rfl (zA ?_)))))
     exact zR (yV (v := gv) (v' := Vi 0) rfl rfl rfl (fun w' hw => ⟨gv, l'1_, 0, now + n, kv, rfl, (hΦ.done hq0 hk (zCI c1 c2)).1, (hΦ.done hq0 hk (zCI c1 c2)).2.1, (hΦ.done hq0 hk (zCI c1 c2)).2.2.1, hf12_1.trans (hΦ.done hq0 hk (zCI c1 c2)).2.2.2, hf12_1_1.imp (fun q => ole_nat.1 q), (Own.rgEnd 1 hw rfl)⟩))
    ·
     refine zl (vs := [.bool true, Vn k, .agg (LeaD.cells v).toArray]) rfl rfl rfl (zA (zO (zEH rfl (zM (zT (zB (zC0 1 rfl rfl rfl (zl (vs := [Vn k, .agg (LeaD.cells v).toArray]) rfl rfl rfl (zl (vs := [Vn k, .agg (LeaD.cells v).toArray]) rfl rfl rfl (yR (v := .agg #[Vn 0, Vn 0, .string (⟨#[]⟩ : ByteArray), Vi 0, Vi 0]) (by kernel_rfl) rfl (fun b7 => zH rfl (zt 3 rfl rfl rfl (yC rfl) rfl ?_))))))))))))
     refine zA (kw (by kernel_rfl) (by kernel_rfl) (zm rfl (zk (o := 4) rfl) (zm rfl (zp 3 (v := Vi v.until_) rfl rfl rfl) (zm rfl (zJ) (zm rfl (zo rfl) (zm rfl (zk (o := 2) rfl) (zm rfl (zp 0 (v := Vi (now + n)) rfl rfl rfl) (zm rfl (zA8 rfl rfl) (zDF (zU rfl (fun c5 => ?_) (fun c5 => ?_)))))))))))
     ·
      refine zB (zC rfl (zC rfl (yz (e := 28) (sz := 1) (vs := [Vn k]) (by kernel_rfl) rfl rfl (by simp [Value.cells]) (by decide) rfl (fun b54 => kF (g := U1) (sz := 1) (by' := 8) (fun _ => rfl) (l := gs) (l' := [k]) (by simp [cell1, U1]) 2 (by kernel_rfl) rfl rfl rfl (fun w' hw' => Vec.sl (Own.holds hw' 4 _ rfl)) (by first | omega | (simp; omega)) (by decide) rfl (fun v55 => zH rfl (zA (zj (zC rfl (yA rfl rfl (zc (o := 1) rfl rfl (ze 0 (v := .map (some lm)) rfl rfl rfl rfl (zC rfl ?_))))))))))))
      refine zFl 1 (k := k) zEb zB5 rfl rfl rfl (hΦ.out hk hq1) ?_
      exact zf (fun w' hw => ⟨q1 ++ q2, xo k kv, v55, gs ++ [k], ⟨rfl, rfl, rfl, trivial⟩, hΦ.yes hk hq1 c5, hw.sel [0, 1, 2] rfl (by decide), (by rw [hq1, List.length_append, List.length_append, List.length_cons]; omega)⟩)
     ·
      exact xG (fun w' hw => ⟨q1 ++ q2, kv, gv, gs, ⟨rfl, rfl, rfl, trivial⟩, hΦ.no hq1 c5, hw.sel [0, 1, 2] rfl (by decide), (by rw [hq1, List.length_append, List.length_append, List.length_cons]; omega)⟩)
end Go.Proofs.Ytcdiehplbmkmeaa
