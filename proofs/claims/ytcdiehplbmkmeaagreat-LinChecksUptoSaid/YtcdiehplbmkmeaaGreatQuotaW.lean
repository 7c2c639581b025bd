import Derived.Test.YtcdiehplbmkmeaaGreatSortU4
import Derived.Test.YtcdiehplbmkmeaaGreatQuotaP
import Derived.Test.YtcdiehplbmkmeaaGreatIn
set_option linter.unusedSectionVars false
set_option linter.unusedSimpArgs false
set_option linter.unusedVariables false
set_option maxRecDepth 10000
namespace Go.Proofs.YtcdiehplbmkmeaaGreat
open Go Go.Sc Go.Proofs
def zg (l : LeaD) : Value := .agg l.cells.toArray
def yB (n : Nat) : Value := .int .u64 n
def yG (n : Int) : Value := .int .i64 n
theorem zDo : KeyL Tryz.prog 9 Value.string := zGz (by kernel_rfl)
theorem zFI : KeyL Tryz.prog 32 yB := zDc (by kernel_rfl)
theorem zCn : xz Tryz.prog 123 = some (9, 2) := by kernel_rfl
theorem zCs : xz Tryz.prog 124 = some (32, 77) := by kernel_rfl
theorem zCL : kO Tryz.prog 2 = some (yG 0) := by kernel_rfl
theorem zLG : kO Tryz.prog 77 = some (zg LeaD.zero) := by kernel_rfl
def zAE (k : ByteArray) (kl : List (Nat × LeaD)) : Int := yh k (kl.map (·.2))
theorem zF8 {k : ByteArray} {kl : List (Nat × LeaD)} {n : Int} (h : n = IntKind.i64.wrap (zAE k kl - zAE k [])) : n = yE k kl := by
  rw [h]; simp [zAE, yh, yE, yC]
theorem zG6 {k : ByteArray} {kl todo q1 q2 : List (Nat × LeaD)} {i : Nat} {v : LeaD} {n : Int} (h : n = IntKind.i64.wrap (zAE k kl - zAE k todo)) (ht : todo = q1 ++ (i, v) :: q2) (hk : v.key = k) : IntKind.i64.wrap (n + v.amount) = IntKind.i64.wrap (zAE k kl - zAE k (q1 ++ q2)) := by
  rw [h, zDg, ht]; unfold zAE; rw [zA3, if_pos hk]; congr 1; omega
theorem zHs {k : ByteArray} {kl todo q1 q2 : List (Nat × LeaD)} {i : Nat} {v : LeaD} {n : Int} (h : n = IntKind.i64.wrap (zAE k kl - zAE k todo)) (ht : todo = q1 ++ (i, v) :: q2) (hk : ¬ v.key = k) : n = IntKind.i64.wrap (zAE k kl - zAE k (q1 ++ q2)) := by
  rw [h, ht]; unfold zAE; rw [zA3, if_neg hk]; congr 1; omega
theorem zEf (k : ByteArray) (w : World) : Rets Tryz.prog 105 #[.string k] w fun u_ w' => u_ = .bool (decide (yd k)) ∧ Own w [] [] w' := by
  refine zd Tryz.func105 rfl Tryz.ntmps105 (Own.start w) ?_
  refine zB (zE rfl (zA (zB (zC rfl (zEZ rfl rfl rfl (zC rfl (z6 (q := k ≠ (⟨#[]⟩ : ByteArray)) 3 2 [8, 7, 6] (((k.size : Nat) : Int) ≤ 64) rfl rfl rfl rfl rfl rfl trivial rfl (fun h1_2 => ?_) (fun g1_6 => ?_))))))))
  ·
   refine zQ rfl (gT h1_2) (zC rfl (zQ rfl (gT h1_2) (zBR (by kernel_rfl) rfl rfl (zQ rfl (gT h1_2) (jC rfl rfl rfl ?_)))))
   exact yF rfl (fun _ hw => hw)
  refine zE rfl (zA ?_)
  exact zM (zy (v := .bool (decide ((k ≠ (⟨#[]⟩ : ByteArray)) ∧ (((k.size : Nat) : Int) ≤ 64)))) rfl rfl (fun w' hw => ⟨(by congr 1; exact decide_eq_decide.2 (by unfold yd; rw [zKg]; omega)), hw.drop⟩))
theorem zFq (n : Int) (w : World) : Rets Tryz.prog 106 #[Vi n] w fun u_ w' => u_ = .bool (decide (yX n)) ∧ Own w [] [] w' := by
  refine zd Tryz.func106 rfl Tryz.ntmps106 (Own.start w) ?_
  refine zB (zE rfl (zA (zB (zC rfl (yO rfl rfl rfl (zC rfl (z6 (q := 1 ≤ n) 2 2 [7, 6] (n ≤ 1099511627776) rfl rfl rfl rfl rfl rfl trivial rfl (fun h1_2 => ?_) (fun g1_5 => ?_))))))))
  ·
   refine zQ rfl (gT h1_2) (zC rfl (zQ rfl (gT h1_2) (jC rfl rfl rfl ?_)))
   exact yF rfl (fun _ hw => hw)
  refine zE rfl (zA ?_)
  exact zM (zy (v := .bool (decide ((1 ≤ n) ∧ (n ≤ 1099511627776)))) rfl rfl (fun w' hw => ⟨rfl, hw.drop⟩))
theorem zAA {S : List Nat} (b bm lm : Nat) (now : Int) (cnt : Nat) (kl : List (Nat × LeaD)) (k : ByteArray) (w : World) (hin : Own w S [Res.row b 126 [.map (some bm), .map (some lm), Vi now, Vn cnt], Res.mp yB zg lm kl] w) : Rets Tryz.prog 89 #[.pointer (some ⟨b, 0, none⟩), .string k] w fun u_ w' => ∃ (n : Int), u_ = Vi n ∧ n = yE k kl ∧ Own w S [Res.row b 126 [.map (some bm), .map (some lm), Vi now, Vn cnt], Res.mp yB zg lm kl] w' := by
  refine zd Tryz.func89 rfl Tryz.ntmps89 hin ?_
  refine zB (zE rfl (zA (zB (zE rfl (zA (zK (zB (zC rfl (zp rfl rfl (zO (o := 1) rfl rfl (zW 0 (v := .map (some lm)) rfl rfl rfl rfl (zDf 1 zCs rfl rfl rfl (fun r12 => ?_)))))))))))))
  refine zA (zX ?_)
  refine xA (fun (todo : List (Nat × LeaD)) (n : Int) => [(1, .string k), (5, Vi n), (12, .pointer (some ⟨r12, 0, none⟩))]) (fun (todo : List (Nat × LeaD)) (n : Int) => n = IntKind.i64.wrap (zAE k kl - zAE k todo)) (fun (todo : List (Nat × LeaD)) (n : Int) => [Res.row b 126 [.map (some bm), .map (some lm), Vi now, Vn cnt], Res.rg yB zg lm r12 kl todo]) (fun (todo : List (Nat × LeaD)) (n : Int) => todo.length) (fun w' hw => ⟨kl, 0, ⟨rfl, rfl, rfl, trivial⟩, (by rw [Int.sub_self]; decide), hw⟩) (fun todo n g hΦ => ?_)
  refine zB (zEj 1 rfl rfl rfl (fun hq0 => ?_) (fun q1 k v q2 hq1 => ?_))
  ·
   refine zr (vs := [.bool false]) rfl rfl rfl (zA (zK (xu rfl (z7 rfl (zB (zC rfl (zE rfl (zA ?_))))))))
   exact zM (zy (v := Vi n) rfl rfl (fun w' hw => ⟨n, rfl, zF8 (hq0 ▸ hΦ), (Own.rgEnd 1 hw rfl)⟩))
  ·
   refine zr (vs := [.bool true, Vn k, .agg (LeaD.cells v).toArray]) rfl rfl rfl (zA (zK (zE3 rfl (zI (zX (zB (zDW 1 rfl rfl rfl (zr (vs := [Vn k, .agg (LeaD.cells v).toArray]) rfl rfl rfl (yH (v := .agg #[Vn 0, Vn 0, .string (⟨#[]⟩ : ByteArray), Vi 0, Vi 0]) (by kernel_rfl) rfl (fun b7 => zl 2 rfl rfl rfl (zu rfl) rfl (zA (zB ?_))))))))))))
   refine zO (o := 2) rfl rfl (zW 2 (v := .string v.key) rfl rfl rfl rfl (zC rfl (zEc rfl rfl rfl (zA (zS rfl (fun c3 => ?_) (fun c3 => ?_))))))
   ·
    refine zb (zC rfl (zO (o := 3) rfl rfl (zW 2 (v := Vi v.amount) rfl rfl rfl rfl (zt (c := IntKind.i64.wrap (n + v.amount)) rfl rfl rfl rfl (zE rfl ?_)))))
    exact ze (fun w' hw => ⟨q1 ++ q2, IntKind.i64.wrap (n + v.amount), ⟨rfl, rfl, rfl, trivial⟩, zG6 hΦ hq1 c3, hw.sel [0, 1] rfl (by decide), (by rw [hq1, List.length_append, List.length_append, List.length_cons]; omega)⟩)
   ·
    exact xK (fun w' hw => ⟨q1 ++ q2, n, ⟨rfl, rfl, rfl, trivial⟩, zHs hΦ hq1 c3, hw.sel [0, 1] rfl (by decide), (by rw [hq1, List.length_append, List.length_append, List.length_cons]; omega)⟩)
def jr (kl : List (Nat × LeaD)) (s i : Nat) (x : LeaD) (e : Int) : Prop :=
  (e = 17 ∧ x = LeaD.zero ∧ ∀ l, zf i kl = some l → l.session ≠ s) ∨ (e = 0 ∧ zf i kl = some x ∧ x.session = s)
theorem zH2 {kl : List (Nat × LeaD)} {s i : Nat} (h : (!(zf i kl).isSome) = true ∨ ((((zf i kl).getD LeaD.zero).session : Nat) : Int) ≠ ((s : Nat) : Int)) : jr kl s i LeaD.zero 17 := by
  refine .inl ⟨rfl, rfl, fun l hl => ?_⟩
  rw [hl] at h
  rcases h with h | h
  · cases h
  · intro e; exact h (by rw [Option.getD_some, e])
theorem zFp {kl : List (Nat × LeaD)} {s i : Nat} (h : ¬ ((!(zf i kl).isSome) = true ∨ ((((zf i kl).getD LeaD.zero).session : Nat) : Int) ≠ ((s : Nat) : Int))) : jr kl s i ((zf i kl).getD LeaD.zero) 0 := by
  cases hl : zf i kl with
  | none => rw [hl] at h; exact absurd (.inl rfl) h
  | some l =>
    rw [hl, Option.getD_some] at h
    exact .inr ⟨rfl, hl, Decidable.by_contra fun (q : ¬ l.session = s) => h (.inr fun e => q (by omega))⟩
theorem zC1 {kl : List (Nat × LeaD)} {s i : Nat} {x : LeaD} {e : Int} (h : jr kl s i x e) (he : e ≠ 0) : e = 17 ∧ x = LeaD.zero ∧ ∀ l, zf i kl = some l → l.session ≠ s := by
  rcases h with h | h
  · exact h
  · exact absurd h.1 he
theorem zCp {kl : List (Nat × LeaD)} {s i : Nat} {x : LeaD} {e : Int} (h : jr kl s i x e) (he : ¬ e ≠ 0) : zf i kl = some x ∧ x.session = s := by
  rcases h with h | h
  · rw [h.1] at he; exact absurd (by decide) he
  · exact h.2
theorem zHh {kl : List (Nat × LeaD)} {s i : Nat} {x : LeaD} {e : Int} (h : jr kl s i x e) (he : ¬ e = 0) : zC5 kl s i x e kl := by
  have := zC1 h he; exact .inl ⟨this.2.2, this.1, this.2.1, rfl⟩
theorem zGG {kl : List (Nat × LeaD)} {s i : Nat} {x : LeaD} {e : Int} (h : jr kl s i x e) (he : e = 0) : zC5 kl s i x e (x9 i kl) := by
  have := zCp h (fun q => q he); exact .inr ⟨x, this.1, this.2, he, rfl, rfl⟩
theorem zFD {now : Int} {kb : List (ByteArray × Int)} {kl : List (Nat × LeaD)} {s i : Nat} {sp : Int} {x : LeaD} {e : Int} (hs : ¬ ¬ yX sp) (h : jr kl s i x e) (he : e ≠ 0) : zAp now kb kl s i sp LeaD.zero e kl := by
  have := zC1 h he; exact .inr (.inl ⟨Decidable.not_not.1 hs, this.2.2, this.1, rfl, rfl⟩)
theorem zDZ {now : Int} {kb : List (ByteArray × Int)} {kl : List (Nat × LeaD)} {s i : Nat} {sp n : Int} {x : LeaD} {e : Int} (hs : ¬ ¬ yX sp) (h : jr kl s i x e) (he : ¬ e ≠ 0) (hn : n = yE x.key kl) (hc : (zf x.key kb).getD 0 < n) : zAp now kb kl s i sp LeaD.zero 16 kl := by
  have := zCp h he; exact .inr (.inr ⟨Decidable.not_not.1 hs, x, this.1, this.2, .inl ⟨hn ▸ hc, rfl, rfl, rfl⟩⟩)
theorem zE4 {now : Int} {kb : List (ByteArray × Int)} {kl : List (Nat × LeaD)} {s i : Nat} {sp n : Int} {x : LeaD} {e : Int} (hs : ¬ ¬ yX sp) (h : jr kl s i x e) (he : ¬ e ≠ 0) (hn : n = yE x.key kl) (hc : ¬ (zf x.key kb).getD 0 < n) : zAp now kb kl s i sp (yw x (now + sp)) 0 (y7 i (yw x (now + sp)) kl) := by
  have := zCp h he; exact .inr (.inr ⟨Decidable.not_not.1 hs, x, this.1, this.2, .inr ⟨by rw [hn] at hc; omega, rfl, rfl, rfl⟩⟩)
theorem zGe {S : List Nat} (b bm lm : Nat) (now : Int) (cnt : Nat) (kl : List (Nat × LeaD)) (s i : Nat) (w : World) (hin : Own w S [Res.row b 126 [.map (some bm), .map (some lm), Vi now, Vn cnt], Res.mp yB zg lm kl] w) : Rets Tryz.prog 108 #[.pointer (some ⟨b, 0, none⟩), Vn s, Vn i] w fun u_ w' => ∃ (x : LeaD) (e : Int), u_ = .tuple #[.agg (LeaD.cells x).toArray, Vi e] ∧ jr kl s i x e ∧ Own w S [Res.row b 126 [.map (some bm), .map (some lm), Vi now, Vn cnt], Res.mp yB zg lm kl] w' := by
  refine zd Tryz.func108 rfl Tryz.ntmps108 hin ?_
  refine zB (yH (v := .agg #[Vn 0, Vn 0, .string (⟨#[]⟩ : ByteArray), Vi 0, Vi 0]) (by kernel_rfl) rfl (fun b6 => zE rfl (zA (zB (zC rfl (zp rfl rfl (zO (o := 1) rfl rfl (zW 0 (v := .map (some lm)) rfl rfl rfl rfl (zC rfl (zBM (k := i) (kv := kl) (zv := LeaD.zero) zFI zCs zLG rfl rfl (fun w' hw' => Own.holds hw' 1 _ rfl) rfl (zC rfl (zr (vs := [.agg (LeaD.cells ((zf i kl).getD LeaD.zero)).toArray, .bool ((zf i kl).isSome)]) rfl rfl rfl ?_))))))))))))
  refine zr (vs := [.agg (LeaD.cells ((zf i kl).getD LeaD.zero)).toArray, .bool ((zf i kl).isSome)]) rfl rfl rfl (yH (v := .agg #[Vn 0, Vn 0, .string (⟨#[]⟩ : ByteArray), Vi 0, Vi 0]) (by kernel_rfl) rfl (fun b8 => zl 3 rfl rfl rfl (zu rfl) rfl (zE rfl (zA (zK (zB (zC rfl (kR (b := (zf i kl).isSome) rfl rfl (zC rfl (yj (q := (!((zf i kl).isSome)) = true) 4 2 [25, 24, 23, 22] (((((zf i kl).getD LeaD.zero).session : Nat) : Int) ≠ ((s : Nat) : Int)) rfl rfl (yr _) rfl rfl rfl trivial rfl (fun h2_2 => ?_) (fun g2_7 => ?_)))))))))))
  ·
   refine zQ rfl (bF h2_2) (zO (o := 1) rfl rfl (zQ rfl (bF h2_2) (zW 3 (v := Vn (((zf i kl).getD LeaD.zero).session)) rfl rfl rfl rfl (zQ rfl (bF h2_2) (zC rfl (zQ rfl (bF h2_2) (kD rfl rfl rfl ?_)))))))
   exact yF rfl (fun _ hw => hw)
  refine zA (zS rfl (fun c1 => ?_) (fun c1 => ?_))
  ·
   refine zB (yD (cs := [Vn 0, Vn 0, .string (⟨#[]⟩ : ByteArray), Vi 0, Vi 0]) (z := [Vn 0, Vn 0, .string (⟨#[]⟩ : ByteArray), Vi 0, Vi 0]) (pl := [(0, 1), (1, 1), (2, 1), (3, 1), (4, 1)]) (by kernel_rfl) (by kernel_rfl) rfl (zl 2 rfl rfl rfl (zu rfl) rfl (zE rfl (zA ?_))))
   exact zM (z5 (cs := [Vn 0, Vn 0, .string (⟨#[]⟩ : ByteArray), Vi 0, Vi 0]) (v := Vi 17) rfl rfl rfl (by kernel_rfl) (Own.rowCells (i := 2) rfl) (fun w' hw => ⟨LeaD.zero, 17, rfl, zH2 c1, hw.sel [0, 1] rfl (by decide)⟩))
  ·
   refine zI (zB (yQ (cs := (LeaD.cells ((zf i kl).getD LeaD.zero))) 3 rfl rfl rfl (zl 2 rfl rfl rfl (zu rfl) rfl (zE rfl (zA ?_)))))
   exact zM (z5 (cs := (LeaD.cells ((zf i kl).getD LeaD.zero))) (v := Vi 0) rfl rfl rfl (by kernel_rfl) (Own.rowCells (i := 2) rfl) (fun w' hw => ⟨(zf i kl).getD LeaD.zero, 0, rfl, zFp c1, hw.sel [0, 1] rfl (by decide)⟩))
theorem zK3 (a c : Int) (w : World) (ha : 0 ≤ a ∧ a ≤ 9223372036854775807) (hc : -9223372036854775808 ≤ c ∧ c ≤ 9223372036854775807) : Rets Tryz.prog 112 #[Vi a, Vi c] w fun u_ w' => ∃ (n e : Int), u_ = .tuple #[Vi n, Vi e] ∧ ((9223372036854775807 < a + c ∧ e = 3 ∧ n = 0) ∨ (a + c ≤ 9223372036854775807 ∧ e = 0 ∧ n = a + c)) ∧ Own w [] [] w' := by
  refine zd Tryz.func112 rfl Tryz.ntmps112 (Own.start w) ?_
  refine zB (zE rfl (zE rfl (zA (zK (zB (zC rfl (xB rfl rfl rfl (zC rfl (z6 (q := 0 < c) 4 2 [12, 11, 10, 9] ((9223372036854775807 - c) < a) rfl rfl rfl rfl rfl rfl trivial rfl (fun h1_2 => ?_) (fun g1_7 => ?_))))))))))
  ·
   refine zQ rfl (gT h1_2) (zC rfl (zQ rfl (gT h1_2) (zC rfl (zQ rfl (gT h1_2) (yM rfl rfl (zq (by omega)) rfl (zQ rfl (gT h1_2) (xB rfl rfl rfl ?_)))))))
   exact yF rfl (fun _ hw => hw)
  refine zC rfl (yj (q := (0 < c) ∧ ((9223372036854775807 - c) < a)) 8 8 [22, 21, 20, 19, 18, 17, 16, 15] ((c < 0) ∧ (a < ((-9223372036854775808) - c))) rfl rfl rfl rfl rfl rfl trivial rfl (fun h1_8 => ?_) (fun g1_17 => ?_))
  ·
   refine zQ rfl (gF h1_8) (zC rfl (zQ rfl (gF h1_8) (yA rfl rfl rfl (zQ rfl (gF h1_8) (zC rfl (z6 (q := c < 0) 4 11 [21, 20, 19, 18] (a < ((-9223372036854775808) - c)) rfl rfl rfl rfl rfl rfl ⟨_, rfl, rfl, gF h1_8⟩ rfl (fun h1_11 => ?_) (fun g1_16 => ?_)))))))
   ·
    refine zQ rfl (gT h1_11) (zC rfl (zQ rfl (gT h1_11) (zC rfl (zQ rfl (gT h1_11) (yM rfl rfl (zq (by omega)) rfl (zQ rfl (gT h1_11) (yA rfl rfl rfl ?_)))))))
    exact yF rfl (fun _ hw => hw)
   exact yF rfl (fun _ hw => hw)
  refine zA (zS rfl (fun c1 => ?_) (fun c1 => ?_))
  ·
   refine zB (zE rfl (zE rfl (zA ?_)))
   exact zM (yY (v := Vi 0) (v' := Vi 3) rfl rfl rfl (fun w' hw => ⟨0, 3, rfl, .inl ⟨by omega, rfl, rfl⟩, hw.drop⟩))
  ·
   refine zI (zB (zC rfl (zC rfl (zt rfl rfl (zq (by omega)) rfl (zE rfl (zE rfl (zA ?_)))))))
   exact zM (yY (v := Vi (a + c)) (v' := Vi 0) rfl rfl rfl (fun w' hw => ⟨a + c, 0, rfl, .inr ⟨by omega, rfl, rfl⟩, hw.drop⟩))
theorem zIP (v : Value) (l : List Int) (w : World) (hl : l.length = 2) (h0 : 0 ≤ zJ l 0 ∧ zJ l 0 ≤ 9223372036854775807) (h1 : -9223372036854775808 ≤ zJ l 1 ∧ zJ l 1 ≤ 9223372036854775807) (hv : Rd w [] (Res.sl v l.length (l.flatMap I1))) : Rets Tryz.prog 107 #[v] w fun u_ w' => ∃ (n e : Int), u_ = .tuple #[Vi n, Vi e] ∧ ((9223372036854775807 < zJ l 0 + zJ l 1 ∧ e = 3 ∧ n = 0) ∨ (zJ l 0 + zJ l 1 ≤ 9223372036854775807 ∧ e = 0 ∧ n = zJ l 0 + zJ l 1)) ∧ Own w [] [] w' := by
  refine zd Tryz.func107 rfl Tryz.ntmps107 (Own.start w) ?_
  refine zB (zE rfl (zE rfl (zA (zB (zE rfl (zA (zK (zB (zC rfl (yL (pR hv) rfl rfl (zC rfl (zA ?_))))))))))))
  refine zX ?_
  refine xA (fun (k : Nat) (n : Int) => [(4, Vi n), (8, v), (9, Vj l.length), (10, Vj k)]) (fun (k : Nat) (n : Int) => k ≤ 2 ∧ ((k = 0 → n = 0) ∧ (k = 1 → n = zJ l 0) ∧ (k = 2 → n = zJ l 0 + zJ l 1)) ∧ ((k < 2 → 0 ≤ n) ∧ n ≤ 9223372036854775807)) (fun (k : Nat) (n : Int) => []) (fun (k : Nat) (n : Int) => 2 - k) (fun w' hw => ⟨0, 0, ⟨rfl, rfl, rfl, rfl, trivial⟩, ⟨by omega, ⟨fun _ => rfl, by omega, by omega⟩, ⟨fun _ => by omega, by omega⟩⟩, hw⟩) (fun k n g hΦ => ?_)
  have hkl := hΦ.1
  have hkI := hΦ.2.1
  have hkn := hΦ.2.2
  refine zB (yA rfl rfl rfl (zA (zK (zS rfl (fun c1 => ?_) (fun c1 => ?_)))))
  ·
   have hk2 : k < 2 := by omega
   have hkx : (k = 0 → zJ l k = zJ l 0) ∧ (k = 1 → zJ l k = zJ l 1) := ⟨fun h => by rw [h], fun h => by rw [h]⟩
   have hkb : -9223372036854775808 ≤ zJ l k ∧ zJ l k ≤ 9223372036854775807 := by rcases (show k = 0 ∨ k = 1 by omega) with h | h <;> rw [h] <;> omega
   refine zI (zK (zX (zB (zG (pR hv) 1 k rfl rfl rfl (by omega) rfl (zR (pR hv) 1 k 0 (fun _ => rfl) rfl rfl (by omega) rfl rfl (zE rfl (zA (zB (zE rfl (zA (zB (zC rfl ?_))))))))))))
   refine zC rfl (zP rfl rfl (fun w' hw => (zK3 n (zJ l k) w' ⟨hkn.1 hk2, hkn.2⟩ hkb).mono ?_))
   rintro _ w1 ⟨n1_, e2_, rfl, hf6_2, hO⟩
   refine (?_ : CL _ _ _ _ _ _ (Own w [] [])) w1 (hw.frame0 hO)
   refine zC rfl (zr (vs := [Vi n1_, Vi e2_]) rfl rfl rfl (zr (vs := [Vi n1_, Vi e2_]) rfl rfl rfl (zE rfl (zE rfl (zA (zB (zC rfl (kD rfl rfl rfl (zA (zS rfl (fun c2 => ?_) (fun c2 => ?_)))))))))))
   ·
    refine zB (zC rfl (zE rfl (zE rfl (zA ?_))))
    exact zM (yY (v := Vi 0) (v' := Vi e2_) rfl rfl rfl (fun w' hw => ⟨0, e2_, rfl, .inl ⟨((zBn hk2 hkI hkx hf6_2 h0 h1).1 c2).1, ((zBn hk2 hkI hkx hf6_2 h0 h1).1 c2).2, rfl⟩, hw.drop⟩))
   ·
    refine zI (zb (zt rfl rfl (zq (by omega)) rfl (zC rfl ?_)))
    exact ze (fun w' hw => ⟨k + 1, n1_, ⟨rfl, rfl, rfl, rfl, trivial⟩, ⟨by omega, (zBn hk2 hkI hkx hf6_2 h0 h1).2 c2⟩, hw, (by omega)⟩)
  ·
   refine z7 rfl (zB (zC rfl (zE rfl (zE rfl (zA ?_)))))
   exact zM (yY (v := Vi n) (v' := Vi 0) rfl rfl rfl (fun w' hw => ⟨n, 0, rfl, .inr ⟨by have := hkI.2.2 (by omega); omega, rfl, hkI.2.2 (by omega)⟩, hw.drop⟩))
theorem zLA {S : List Nat} (b bm lm : Nat) (now : Int) (cnt : Nat) (kb : List (ByteArray × Int)) (kl : List (Nat × LeaD)) (k : ByteArray) (a : Int) (w : World) (hin : Own w S [Res.row b 126 [.map (some bm), .map (some lm), Vi now, Vn cnt], Res.mp Value.string yG bm kb, Res.mp yB zg lm kl] w) : Rets Tryz.prog 90 #[.pointer (some ⟨b, 0, none⟩), .string k, Vi a] w fun u_ w' => ∃ (n e : Int) (kb' : List (ByteArray × Int)), u_ = .tuple #[Vi n, Vi e] ∧ e = x5 k a kb ∧ kb' = zBz k a kb ∧ (n = if e = 0 then yE k kl else 0) ∧ Own w S [Res.row b 126 [.map (some bm), .map (some lm), Vi now, Vn cnt], Res.mp Value.string yG bm kb', Res.mp yB zg lm kl] w' := by
  refine zd Tryz.func90 rfl Tryz.ntmps90 hin ?_
  refine zB (zE rfl (zE rfl (zA (zK (zB (zC rfl (xi (by kernel_rfl) rfl rfl rfl (zC rfl (zQ rfl rfl (zC rfl (zQ rfl rfl (zP rfl rfl (fun w' hw => ?_)))))))))))))
  refine (zEf k w').mono ?_
  rintro _ w1 ⟨rfl, hO⟩
  refine (?_ : CL _ _ _ _ _ _ (Own w S [Res.row b 126 [.map (some bm), .map (some lm), Vi now, Vn cnt], Res.mp Value.string yG bm kb, Res.mp yB zg lm kl])) w1 (hw.frame0 hO)
  refine zQ rfl rfl (xL (q := yd k) rfl rfl (kS rfl rfl (zC rfl (yj (q := ¬ (yd k)) 2 7 [19, 18] (a < 0) rfl rfl rfl rfl rfl rfl trivial rfl (fun h1_7 => ?_) (fun g1_10 => ?_)))))
  ·
   refine zQ rfl (gF h1_7) (zC rfl (zQ rfl (gF h1_7) (yA rfl rfl rfl ?_)))
   exact yF rfl (fun _ hw => hw)
  refine zA (zS rfl (fun c1 => ?_) (fun c1 => ?_))
  ·
   refine zB (zE rfl (zE rfl (zA ?_)))
   exact zM (yY (v := Vi 0) (v' := Vi 1) rfl rfl rfl (fun w' hw => ⟨0, 1, kb, rfl, (zB8 c1).symm, zDB (zB8 c1) (by decide), rfl, hw⟩))
  ·
   refine zI (zB (zC rfl (zp rfl rfl (zO (o := 0) rfl rfl (zW 0 (v := .map (some bm)) rfl rfl rfl rfl (zC rfl (zBM (k := k) (kv := kb) (zv := 0) zDo zCn zCL rfl rfl (fun w' hw' => Own.holds hw' 1 _ rfl) rfl (zC rfl (zr (vs := [Vi ((zf k kb).getD 0), .bool ((zf k kb).isSome)]) rfl rfl rfl (zr (vs := [Vi ((zf k kb).getD 0), .bool ((zf k kb).isSome)]) rfl rfl rfl (zE rfl (zE rfl ?_))))))))))))
   refine zA (zK (zX (zB (zC rfl (yb rfl rfl rfl (zE rfl (zA (zS rfl (fun c2 => ?_) (fun c2 => ?_)))))))))
   ·
    refine zb (zC rfl (zp rfl rfl (zO (o := 0) rfl rfl (zW 0 (v := .map (some bm)) rfl rfl rfl rfl (zC rfl (zDU 1 (k := k) zDo zCn rfl rfl rfl (zA (zB (zC rfl (zC rfl (zP rfl rfl (fun w' hw => (zAA b bm lm now cnt kl k w' (hw.give [0, 2] rfl (by decide))).mono ?_))))))))))))
    rintro _ w1 ⟨n1_, rfl, hf9_2, hO⟩
    refine (?_ : CL _ _ _ _ _ _ (Own w S [Res.mp Value.string yG bm (x9 k kb), Res.row b 126 [.map (some bm), .map (some lm), Vi now, Vn cnt], Res.mp yB zg lm kl])) w1 (hw.frameL [0, 2] rfl hO)
    refine zE rfl (zE rfl (zA ?_))
    exact zM (yY (v := Vi n1_) (v' := Vi 0) rfl rfl rfl (fun w' hw => ⟨n1_, 0, x9 k kb, rfl, (zCF c1 c2).symm, zHW (zCF c1 c2) c2, hf9_2, hw.sel [1, 0, 2] rfl (by decide)⟩))
   ·
    refine zB (zC rfl (kR (b := (zf k kb).isSome) rfl rfl (zC rfl (z6 (q := (!((zf k kb).isSome)) = true) 6 2 [53, 52, 51, 50, 49, 48] (64 ≤ ((kb.length : Nat) : Int)) rfl rfl (yr _) rfl rfl rfl trivial rfl (fun h7_2 => ?_) (fun g7_9 => ?_)))))
    ·
     refine zQ rfl (bT h7_2) (zC rfl (zQ rfl (bT h7_2) (zp rfl rfl (zQ rfl (bT h7_2) (zO (o := 0) rfl rfl (zQ rfl (bT h7_2) (zW 0 (v := .map (some bm)) rfl rfl rfl rfl (zQ rfl (bT h7_2) (zCt Value.string yG (kv := kb) zCn rfl (fun w' hw' => Own.holds hw' 1 _ rfl) rfl (zQ rfl (bT h7_2) (yO rfl rfl rfl ?_)))))))))))
     exact yF rfl (fun _ hw => hw)
    refine zE rfl (zA (zS rfl (fun c3 => ?_) (fun c3 => ?_)))
    ·
     refine zB (zE rfl (zE rfl (zA ?_)))
     exact zM (yY (v := Vi 0) (v' := Vi 7) rfl rfl rfl (fun w' hw => ⟨0, 7, kb, rfl, (zBT c1 c2 c3).symm, zDB (zBT c1 c2 c3) (by decide), rfl, hw⟩))
    ·
     refine zb (zC rfl (zp rfl rfl (zO (o := 0) rfl rfl (zW 0 (v := .map (some bm)) rfl rfl rfl rfl (zC rfl (zC rfl (zAk 1 (k := k) (v := a) zDo zCn rfl rfl rfl rfl (zA (zB (zC rfl (zC rfl (zP rfl rfl (fun w' hw => ?_)))))))))))))
     refine (zAA b bm lm now cnt kl k w' (hw.give [0, 2] rfl (by decide))).mono ?_
     rintro _ w1 ⟨n2_, rfl, hf9_2, hO⟩
     refine (?_ : CL _ _ _ _ _ _ (Own w S [Res.mp Value.string yG bm (y7 k a kb), Res.row b 126 [.map (some bm), .map (some lm), Vi now, Vn cnt], Res.mp yB zg lm kl])) w1 (hw.frameL [0, 2] rfl hO)
     refine zE rfl (zE rfl (zA ?_))
     exact zM (yY (v := Vi n2_) (v' := Vi 0) rfl rfl rfl (fun w' hw => ⟨n2_, 0, y7 k a kb, rfl, (zCD c1 c3).symm, zHL (zCD c1 c3) c2, hf9_2, hw.sel [1, 0, 2] rfl (by decide)⟩))
theorem zHk {S : List Nat} (b bm lm : Nat) (now : Int) (cnt : Nat) (kb : List (ByteArray × Int)) (kl : List (Nat × LeaD)) (k : ByteArray) (w : World) (hin : Own w S [Res.row b 126 [.map (some bm), .map (some lm), Vi now, Vn cnt], Res.mp Value.string yG bm kb, Res.mp yB zg lm kl] w) : Rets Tryz.prog 68 #[.pointer (some ⟨b, 0, none⟩), .string k] w fun u_ w' => ∃ (n : Int), u_ = .tuple #[Vi ((zf k kb).getD 0), Vi n] ∧ n = yE k kl ∧ Own w S [Res.row b 126 [.map (some bm), .map (some lm), Vi now, Vn cnt], Res.mp Value.string yG bm kb, Res.mp yB zg lm kl] w' := by
  refine zd Tryz.func68 rfl Tryz.ntmps68 hin ?_
  refine zB (zE rfl (zE rfl (zA (zK (zB (zC rfl (xi (by kernel_rfl) rfl rfl rfl (zA (xu rfl (zI (zK (zc [1] rfl (by decide) (by kernel_rfl) (fun w' hw hS => ?_)))))))))))))
  refine zD 0 rfl (zL) hS (zD 1 rfl (zn rfl) hS (zD 2 rfl (zY (o := 0) rfl) hS (zD 4 rfl (zL) hS (zD 6 rfl (zL) hS (zD 7 rfl (zL) hS (za 3 8 ?_ ?_))))))
  ·
   refine zU 3 rfl hw (zW 0 (v := .map (some bm)) rfl rfl rfl rfl (zF [1] rfl (by decide) (fun w' hw hS => zD 5 rfl (zEh (k := k) (kv := kb) (zv := 0) zDo zCn zCL rfl rfl (fun w' hw' => Own.holds hw' 0 _ rfl)) hS (zZ 8 rfl hw (zP rfl rfl (fun w' hw => (zAA b bm lm now cnt kl k w' (hw.give [0, 2] rfl (by decide))).mono ?_))))))
   rintro _ w1 ⟨n1_, rfl, hf3_8, hO⟩
   refine (?_ : CL _ _ _ _ _ _ (Own w S [Res.mp Value.string yG bm kb, Res.row b 126 [.map (some bm), .map (some lm), Vi now, Vn cnt], Res.mp yB zg lm kl])) w1 (hw.frameL [0, 2] rfl hO)
   refine zF [0] rfl (by decide) (fun w' hw hS => zD 9 rfl (xC) hS (zD 10 rfl (xC) hS (zN ?_)))
   refine (?_ : C _ _ _ _ _ _ _ (Own w S [Res.mp Value.string yG bm kb, Res.row b 126 [.map (some bm), .map (some lm), Vi now, Vn cnt], Res.mp yB zg lm kl])) _ hw
   exact zM (yY (v := Vi ((zf k kb).getD 0)) (v' := Vi n1_) rfl rfl rfl (fun w' hw => ⟨n1_, rfl, hf3_8, hw.sel [1, 0, 2] rfl (by decide)⟩))
  ·
   refine zU 8 rfl hw (zP rfl rfl (fun w' hw => (zAA b bm lm now cnt kl k w' (hw.give [0, 2] rfl (by decide))).mono ?_))
   rintro _ w1 ⟨n2_, rfl, hf3_8, hO⟩
   refine (?_ : CL _ _ _ _ _ _ (Own w S [Res.mp Value.string yG bm kb, Res.row b 126 [.map (some bm), .map (some lm), Vi now, Vn cnt], Res.mp yB zg lm kl])) w1 (hw.frameL [0, 2] rfl hO)
   refine zF [0] rfl (by decide) (fun w' hw hS => zZ 3 rfl hw (zW 1 (v := .map (some bm)) rfl rfl rfl rfl (zF [0] rfl (by decide) (fun w' hw hS => zD 5 rfl (zEh (k := k) (kv := kb) (zv := 0) zDo zCn zCL rfl rfl (fun w' hw' => Own.holds hw' 0 _ rfl)) hS (zD 9 rfl (xC) hS (zD 10 rfl (xC) hS (zN ?_)))))))
   refine (?_ : C _ _ _ _ _ _ _ (Own w S [Res.mp Value.string yG bm kb, Res.row b 126 [.map (some bm), .map (some lm), Vi now, Vn cnt], Res.mp yB zg lm kl])) _ hw
   exact zM (yY (v := Vi ((zf k kb).getD 0)) (v' := Vi n2_) rfl rfl rfl (fun w' hw => ⟨n2_, rfl, hf3_8, hw.sel [1, 0, 2] rfl (by decide)⟩))
theorem zLB (w : World) : Rets Tryz.prog 46 #[] w fun u_ w' => ∃ (b bm lm : Nat), u_ = .pointer (some ⟨b, 0, none⟩) ∧ Own w [] [Res.row b 126 [.map (some bm), .map (some lm), Vi 0, Vn 0], Res.mp Value.string yG bm ([] : List (ByteArray × Int)), Res.mp yB zg lm ([] : List (Nat × LeaD))] w' := by
  refine zd Tryz.func46 rfl Tryz.ntmps46 (Own.start w) ?_
  refine zB (zE rfl (zA (zB (zAN (α := Int) Value.string yG rfl rfl (fun m1 => zAN (α := LeaD) yB zg rfl rfl (fun m2 => yD (cs := [.map (some m1), .map (some m2), Vi 0, Vn 0]) (z := [.map none, .map none, Vi 0, Vn 0]) (pl := [(0, 1), (1, 1), (2, 1), (3, 1)]) (by kernel_rfl) (by kernel_rfl) rfl (yl rfl rfl (fun b4 => zE rfl (zA ?_)))))))))
  exact zM (zy (v := .pointer (some ⟨b4, 0, none⟩)) rfl rfl (fun w' hw => ⟨b4, m1, m2, rfl, hw.sel [2, 0, 1] rfl (by decide)⟩))
theorem zJc {S : List Nat} (b bm lm : Nat) (now : Int) (cnt : Nat) (kb : List (ByteArray × Int)) (kl : List (Nat × LeaD)) (s : Nat) (k : ByteArray) (a sp : Int) (w : World) (hlen : 0 ≤ yE k kl ∧ yE k kl ≤ 9223372036854775807) (ha : yx a) (ht : 0 ≤ now ∧ now ≤ 2305843009213693952) (hc : cnt ≤ 1000000000) (hin : Own w S [Res.row b 126 [.map (some bm), .map (some lm), Vi now, Vn cnt], Res.mp Value.string yG bm kb, Res.mp yB zg lm kl] w) : Rets Tryz.prog 92 #[.pointer (some ⟨b, 0, none⟩), Vn s, .string k, Vi a, Vi sp] w fun u_ w' => ∃ (x : LeaD) (e : Int) (cnt' : Nat) (kl' : List (Nat × LeaD)), u_ = .tuple #[.agg (LeaD.cells x).toArray, Vi e] ∧ e = xQ s k a sp kb kl ∧ x = kK e cnt s k a (now + sp) ∧ cnt' = zAT e cnt ∧ kl' = zEd e x kl ∧ Own w S [Res.row b 126 [.map (some bm), .map (some lm), Vi now, Vn cnt'], Res.mp Value.string yG bm kb, Res.mp yB zg lm kl'] w' := by
  refine zd Tryz.func92 rfl Tryz.ntmps92 hin ?_
  refine zB (yH (v := .agg #[Vn 0, Vn 0, .string (⟨#[]⟩ : ByteArray), Vi 0, Vi 0]) (by kernel_rfl) rfl (fun b10 => zE rfl (zA (zK (zB (zC rfl (xi (by kernel_rfl) rfl rfl rfl (zC rfl (zQ rfl rfl (zC rfl (zQ rfl rfl (yb rfl rfl rfl ?_))))))))))))
  refine kS rfl rfl (zC rfl (yj (q := ((s : Nat) : Int) = ((0 : Nat) : Int)) 3 6 [26, 25, 24] (¬ (yd k)) rfl rfl rfl rfl rfl rfl trivial rfl (fun h1_6 => ?_) (fun g1_10 => ?_)))
  ·
   refine zQ rfl (gF h1_6) (zC rfl (zQ rfl (gF h1_6) (zP rfl rfl (fun w' hw => (zEf k w').mono ?_))))
   rintro _ w1 ⟨rfl, hO⟩
   refine (?_ : CL _ _ _ _ _ _ (Own w S [Res.row b 126 [.map (some bm), .map (some lm), Vi now, Vn cnt], Res.mp Value.string yG bm kb, Res.mp yB zg lm kl, Res.row b10 77 [Vn 0, Vn 0, .string (⟨#[]⟩ : ByteArray), Vi 0, Vi 0]])) w1 (hw.frame0 hO)
   refine zQ rfl (gF h1_6) (xL (q := yd k) rfl rfl ?_)
   exact yF rfl (fun _ hw => hw)
  refine zC rfl (yj (q := (((s : Nat) : Int) = ((0 : Nat) : Int)) ∨ (¬ (yd k))) 2 11 [30, 29] (a < 1) rfl rfl rfl rfl rfl rfl trivial rfl (fun h1_11 => ?_) (fun g1_14 => ?_))
  ·
   refine zQ rfl (gF h1_11) (zC rfl (zQ rfl (gF h1_11) (yA rfl rfl rfl ?_)))
   exact yF rfl (fun _ hw => hw)
  refine zC rfl (yj (q := ((((s : Nat) : Int) = ((0 : Nat) : Int)) ∨ (¬ (yd k))) ∨ (a < 1)) 3 15 [35, 34, 33] (¬ (yX sp)) rfl rfl rfl rfl rfl rfl trivial rfl (fun h1_15 => ?_) (fun g1_19 => ?_))
  ·
   refine zQ rfl (gF h1_15) (zC rfl (zQ rfl (gF h1_15) (zP rfl rfl (fun w' hw => (zFq sp w').mono ?_))))
   rintro _ w1 ⟨rfl, hO⟩
   refine (?_ : CL _ _ _ _ _ _ (Own w S [Res.row b 126 [.map (some bm), .map (some lm), Vi now, Vn cnt], Res.mp Value.string yG bm kb, Res.mp yB zg lm kl, Res.row b10 77 [Vn 0, Vn 0, .string (⟨#[]⟩ : ByteArray), Vi 0, Vi 0]])) w1 (hw.frame0 hO)
   refine zQ rfl (gF h1_15) (xL (q := yX sp) rfl rfl ?_)
   exact yF rfl (fun _ hw => hw)
  refine zA (zS rfl (fun c1 => ?_) (fun c1 => ?_))
  ·
   refine zB (yD (cs := [Vn 0, Vn 0, .string (⟨#[]⟩ : ByteArray), Vi 0, Vi 0]) (z := [Vn 0, Vn 0, .string (⟨#[]⟩ : ByteArray), Vi 0, Vi 0]) (pl := [(0, 1), (1, 1), (2, 1), (3, 1), (4, 1)]) (by kernel_rfl) (by kernel_rfl) rfl (zl 3 rfl rfl rfl (zu rfl) rfl (zE rfl (zA ?_))))
   exact zM (z5 (cs := [Vn 0, Vn 0, .string (⟨#[]⟩ : ByteArray), Vi 0, Vi 0]) (v := Vi 1) rfl rfl rfl (by kernel_rfl) (Own.rowCells (i := 3) rfl) (fun w' hw => ⟨LeaD.zero, 1, cnt, kl, rfl, (zIx (larg.1 c1)).symm, rfl, rfl, rfl, hw.sel [0, 1, 2] rfl (by decide)⟩))
  ·
   have hla : ¬ yf s k a sp := fun q => c1 (larg.2 q)
   have hsp : yX sp := Decidable.by_contra fun q => c1 (.inr q)
   have ha1 : 1 ≤ a := Int.not_lt.1 fun q => c1 (.inl (.inr q))
   unfold yX at hsp
   refine zI (zB (zC rfl (zp rfl rfl (zO (o := 0) rfl rfl (zW 0 (v := .map (some bm)) rfl rfl rfl rfl (zC rfl (zBM (k := k) (kv := kb) (zv := 0) zDo zCn zCL rfl rfl (fun w' hw' => Own.holds hw' 1 _ rfl) rfl (zC rfl (zr (vs := [Vi ((zf k kb).getD 0), .bool ((zf k kb).isSome)]) rfl rfl rfl (zr (vs := [Vi ((zf k kb).getD 0), .bool ((zf k kb).isSome)]) rfl rfl rfl (zE rfl (zE rfl ?_))))))))))))
   refine zA (zK (zB (zC rfl (kR (b := (zf k kb).isSome) rfl rfl (zA (jF rfl (fun c2 => ?_) (fun c2 => ?_)))))))
   ·
    refine zB (yD (cs := [Vn 0, Vn 0, .string (⟨#[]⟩ : ByteArray), Vi 0, Vi 0]) (z := [Vn 0, Vn 0, .string (⟨#[]⟩ : ByteArray), Vi 0, Vi 0]) (pl := [(0, 1), (1, 1), (2, 1), (3, 1), (4, 1)]) (by kernel_rfl) (by kernel_rfl) rfl (zl 3 rfl rfl rfl (zu rfl) rfl (zE rfl (zA ?_))))
    exact zM (z5 (cs := [Vn 0, Vn 0, .string (⟨#[]⟩ : ByteArray), Vi 0, Vi 0]) (v := Vi 8) rfl rfl rfl (by kernel_rfl) (Own.rowCells (i := 3) rfl) (fun w' hw => ⟨LeaD.zero, 8, cnt, kl, rfl, (zKt hla c2).symm, rfl, rfl, rfl, hw.sel [0, 1, 2] rfl (by decide)⟩))
   ·
    have hc2 : ¬ (!(zf k kb).isSome) = true := by rw [c2]; decide
    refine zI (zB (zC rfl (zC rfl (zP rfl rfl (fun w' hw => (zAA b bm lm now cnt kl k w' (hw.give [0, 2] rfl (by decide))).mono ?_)))))
    rintro _ w1 ⟨n1_, rfl, hf6_2, hO⟩
    refine (?_ : CL _ _ _ _ _ _ (Own w S [Res.mp Value.string yG bm kb, Res.row b10 77 [Vn 0, Vn 0, .string (⟨#[]⟩ : ByteArray), Vi 0, Vi 0], Res.row b 126 [.map (some bm), .map (some lm), Vi now, Vn cnt], Res.mp yB zg lm kl])) w1 (hw.frameL [0, 2] rfl hO)
    refine zC rfl (yo (e := 2) (sz := 1) (vs := [Vi n1_, Vi a]) (by kernel_rfl) rfl rfl (by simp [Value.cells]) (by decide) rfl (fun b55 => zP rfl rfl (fun w' hw => (zIP (.slice (some ⟨b55, 0, none⟩) 2 2) [n1_, a] w' rfl (by show 0 ≤ n1_ ∧ n1_ ≤ _; rw [hf6_2]; exact hlen) (by show _ ≤ a ∧ a ≤ _; exact ⟨by omega, ha.2⟩) (hw.rdVec0 4 rfl)).mono ?_)))
    rintro _ w1 ⟨n2_, e3_, rfl, hf6_5, hO⟩
    have hsum := zGd hf6_5 hf6_2
    refine (?_ : CL _ _ _ _ _ _ (Own w S [Res.mp Value.string yG bm kb, Res.row b10 77 [Vn 0, Vn 0, .string (⟨#[]⟩ : ByteArray), Vi 0, Vi 0], Res.row b 126 [.map (some bm), .map (some lm), Vi now, Vn cnt], Res.mp yB zg lm kl, Res.vec 2 1 (.slice (some ⟨b55, 0, none⟩) 2 2) [n1_, a].length ([n1_, a].flatMap I1)])) w1 (hw.frame0 hO)
    refine zC rfl (zr (vs := [Vi n2_, Vi e3_]) rfl rfl rfl (zr (vs := [Vi n2_, Vi e3_]) rfl rfl rfl (zE rfl (zE rfl (zA (zK (zX (zB (zC rfl (kD rfl rfl rfl (zE rfl (zA ?_))))))))))))
    refine zS rfl (fun c3 => ?_) (fun c3 => ?_)
    ·
     refine zB (yD (cs := [Vn 0, Vn 0, .string (⟨#[]⟩ : ByteArray), Vi 0, Vi 0]) (z := [Vn 0, Vn 0, .string (⟨#[]⟩ : ByteArray), Vi 0, Vi 0]) (pl := [(0, 1), (1, 1), (2, 1), (3, 1), (4, 1)]) (by kernel_rfl) (by kernel_rfl) rfl (zC rfl (zl 1 rfl rfl rfl (zu rfl) rfl (zE rfl (zA ?_)))))
     exact zM (z5 (cs := [Vn 0, Vn 0, .string (⟨#[]⟩ : ByteArray), Vi 0, Vi 0]) (v := Vi e3_) rfl rfl rfl (by kernel_rfl) (Own.rowCells (i := 1) rfl) (fun w' hw => ⟨LeaD.zero, e3_, cnt, kl, rfl, (by rw [(jH hsum c3).2]; exact (zK7 hla hc2 (jH hsum c3).1).symm), (by rw [(jH hsum c3).2]; rfl), (by rw [(jH hsum c3).2]; rfl), (by rw [(jH hsum c3).2]; rfl), hw.sel [2, 0, 3] rfl (by decide)⟩))
    ·
     refine zB (zC rfl (zC rfl (xB rfl rfl rfl (zE rfl (zA (zS rfl (fun c4 => ?_) (fun c4 => ?_)))))))
     ·
      refine zB (yD (cs := [Vn 0, Vn 0, .string (⟨#[]⟩ : ByteArray), Vi 0, Vi 0]) (z := [Vn 0, Vn 0, .string (⟨#[]⟩ : ByteArray), Vi 0, Vi 0]) (pl := [(0, 1), (1, 1), (2, 1), (3, 1), (4, 1)]) (by kernel_rfl) (by kernel_rfl) rfl (zl 1 rfl rfl rfl (zu rfl) rfl (zE rfl (zA ?_))))
      exact zM (z5 (cs := [Vn 0, Vn 0, .string (⟨#[]⟩ : ByteArray), Vi 0, Vi 0]) (v := Vi 16) rfl rfl rfl (by kernel_rfl) (Own.rowCells (i := 1) rfl) (fun w' hw => ⟨LeaD.zero, 16, cnt, kl, rfl, (zJT hla hc2 (kf hsum c3).1 (by rw [← (kf hsum c3).2]; exact c4)).symm, rfl, rfl, rfl, hw.sel [2, 0, 3] rfl (by decide)⟩))
     ·
      refine zB (zC rfl (zp rfl rfl (zO (o := 1) rfl rfl (zW 2 (v := .map (some lm)) rfl rfl rfl rfl (zCt yB zg (kv := kl) zCs rfl (fun w' hw' => Own.holds hw' 3 _ rfl) rfl (yO rfl rfl rfl (zE rfl (zA (zS rfl (fun c5 => ?_) (fun c5 => ?_))))))))))
      ·
       refine zB (yD (cs := [Vn 0, Vn 0, .string (⟨#[]⟩ : ByteArray), Vi 0, Vi 0]) (z := [Vn 0, Vn 0, .string (⟨#[]⟩ : ByteArray), Vi 0, Vi 0]) (pl := [(0, 1), (1, 1), (2, 1), (3, 1), (4, 1)]) (by kernel_rfl) (by kernel_rfl) rfl (zl 1 rfl rfl rfl (zu rfl) rfl (zE rfl (zA ?_))))
       exact zM (z5 (cs := [Vn 0, Vn 0, .string (⟨#[]⟩ : ByteArray), Vi 0, Vi 0]) (v := Vi 7) rfl rfl rfl (by kernel_rfl) (Own.rowCells (i := 1) rfl) (fun w' hw => ⟨LeaD.zero, 7, cnt, kl, rfl, (zLE hla hc2 (kf hsum c3).1 (by rw [← (kf hsum c3).2]; exact c4) c5).symm, rfl, rfl, rfl, hw.sel [2, 0, 3] rfl (by decide)⟩))
      ·
       refine zI (zB (zC rfl (zp rfl rfl (zO (o := 3) rfl rfl (zW 2 (v := Vn cnt) rfl rfl rfl rfl (zt rfl rfl (zCh (by omega)) rfl (zp rfl rfl (zO (o := 3) rfl rfl (xI (cs := [.map (some bm), .map (some lm), Vi now, Vn cnt]) 2 rfl rfl rfl rfl rfl (zA (zK (zc [0, 1, 2, 3, 4] rfl (by decide) (by kernel_rfl) (fun w' hw hS => ?_)))))))))))))
       refine zD 0 rfl (zL) hS (zD 1 rfl (zn rfl) hS (zD 2 rfl (zY (o := 3) rfl) hS (zD 3 rfl (zi 2 (v := Vn (cnt + 1)) rfl rfl rfl) hS (zD 4 rfl (zL) hS (zD 5 rfl (zL) hS (zD 6 rfl (zL) hS (zD 7 rfl (zL) hS (zD 8 rfl (zn rfl) hS (zD 9 rfl (zY (o := 2) rfl) hS (zD 10 rfl (zi 2 (v := Vi now) rfl rfl rfl) hS (zD 11 rfl (zL) hS (zD 12 rfl (xW rfl rfl (zq (by omega))) hS ?_))))))))))))
       refine zD 13 rfl (zDC (cs := [Vn (cnt + 1), Vn s, .string k, Vi a, Vi (now + sp)]) (z := [Vn 0, Vn 0, .string (⟨#[]⟩ : ByteArray), Vi 0, Vi 0]) (pl := [(0, 1), (1, 1), (2, 1), (3, 1), (4, 1)]) (by kernel_rfl) (by kernel_rfl)) hS (zZ 14 rfl hw (yH (v := .agg #[Vn 0, Vn 0, .string (⟨#[]⟩ : ByteArray), Vi 0, Vi 0]) (by kernel_rfl) rfl (fun b16 => zF [0, 1, 2, 3, 4] rfl (by decide) (fun w' hw hS => zZ 15 rfl hw (zl 5 rfl rfl rfl (zu rfl) rfl (zF [0, 1, 2, 3, 4] rfl (by decide) (fun w' hw hS => zN ?_)))))))
       refine (?_ : C _ _ _ _ _ _ _ (Own w S [Res.mp Value.string yG bm kb, Res.row b10 77 [Vn 0, Vn 0, .string (⟨#[]⟩ : ByteArray), Vi 0, Vi 0], Res.row b 126 [.map (some bm), .map (some lm), Vi now, Vn (cnt + 1)], Res.mp yB zg lm kl, Res.vec 2 1 (.slice (some ⟨b55, 0, none⟩) 2 2) [n1_, a].length ([n1_, a].flatMap I1), Res.row b16 77 [Vn (cnt + 1), Vn s, .string k, Vi a, Vi (now + sp)]])) _ hw
       refine zK (zc [0, 1, 2, 4, 5] rfl (by decide) (by kernel_rfl) (fun w' hw hS => zD 0 rfl (zL) hS (zD 1 rfl (zn rfl) hS (zD 2 rfl (zY (o := 1) rfl) hS (zD 3 rfl (zi 2 (v := .map (some lm)) rfl rfl rfl) hS (zD 4 rfl (zY (o := 0) rfl) hS (zD 5 rfl (zi 4 (v := Vn (cnt + 1)) rfl rfl rfl) hS (zD 6 rfl (jw (cs := [Vn (cnt + 1), Vn s, .string k, Vi a, Vi (now + sp)]) 4 rfl rfl) hS (zZ 7 rfl hw (zAk 3 (k := cnt + 1) (v := ({ id := cnt + 1, session := s, key := k, amount := a, until_ := now + sp } : LeaD)) zFI zCs rfl rfl rfl rfl (zF [0, 1, 2, 4, 5] rfl (by decide) (fun w' hw hS => zN ?_))))))))))))
       refine (?_ : C _ _ _ _ _ _ _ (Own w S [Res.mp Value.string yG bm kb, Res.row b10 77 [Vn 0, Vn 0, .string (⟨#[]⟩ : ByteArray), Vi 0, Vi 0], Res.row b 126 [.map (some bm), .map (some lm), Vi now, Vn (cnt + 1)], Res.mp yB zg lm (y7 (cnt + 1) ({ id := cnt + 1, session := s, key := k, amount := a, until_ := now + sp } : LeaD) kl), Res.vec 2 1 (.slice (some ⟨b55, 0, none⟩) 2 2) [n1_, a].length ([n1_, a].flatMap I1), Res.row b16 77 [Vn (cnt + 1), Vn s, .string k, Vi a, Vi (now + sp)]])) _ hw
       refine zB (yQ (cs := [Vn (cnt + 1), Vn s, .string k, Vi a, Vi (now + sp)]) 5 rfl rfl rfl (zl 1 rfl rfl rfl (zu rfl) rfl (zE rfl (zA ?_))))
       exact zM (z5 (cs := [Vn (cnt + 1), Vn s, .string k, Vi a, Vi (now + sp)]) (v := Vi 0) rfl rfl rfl (by kernel_rfl) (Own.rowCells (i := 1) rfl) (fun w' hw => ⟨⟨cnt + 1, s, k, a, now + sp⟩, 0, cnt + 1, y7 (cnt + 1) ⟨cnt + 1, s, k, a, now + sp⟩ kl, rfl, (zKY hla hc2 (kf hsum c3).1 (by rw [← (kf hsum c3).2]; exact c4) c5).symm, rfl, rfl, rfl, hw.sel [2, 0, 3] rfl (by decide)⟩))
theorem zIL {S : List Nat} (b bm lm : Nat) (now : Int) (cnt : Nat) (kb : List (ByteArray × Int)) (kl : List (Nat × LeaD)) (s i : Nat) (sp : Int) (w : World) (ht : 0 ≤ now ∧ now ≤ 2305843009213693952) (hin : Own w S [Res.row b 126 [.map (some bm), .map (some lm), Vi now, Vn cnt], Res.mp Value.string yG bm kb, Res.mp yB zg lm kl] w) : Rets Tryz.prog 93 #[.pointer (some ⟨b, 0, none⟩), Vn s, Vn i, Vi sp] w fun u_ w' => ∃ (x : LeaD) (e : Int) (kl' : List (Nat × LeaD)), u_ = .tuple #[.agg (LeaD.cells x).toArray, Vi e] ∧ zAp now kb kl s i sp x e kl' ∧ Own w S [Res.row b 126 [.map (some bm), .map (some lm), Vi now, Vn cnt], Res.mp Value.string yG bm kb, Res.mp yB zg lm kl'] w' := by
  refine zd Tryz.func93 rfl Tryz.ntmps93 hin ?_
  refine zB (yH (v := .agg #[Vn 0, Vn 0, .string (⟨#[]⟩ : ByteArray), Vi 0, Vi 0]) (by kernel_rfl) rfl (fun b8 => zE rfl (zA (zK (zB (zC rfl (xi (by kernel_rfl) rfl rfl rfl (zC rfl (zQ rfl rfl (zC rfl (zQ rfl rfl (zP rfl rfl (fun w' hw => ?_)))))))))))))
  refine (zFq sp w').mono ?_
  rintro _ w1 ⟨rfl, hO⟩
  refine (?_ : CL _ _ _ _ _ _ (Own w S [Res.row b 126 [.map (some bm), .map (some lm), Vi now, Vn cnt], Res.mp Value.string yG bm kb, Res.mp yB zg lm kl, Res.row b8 77 [Vn 0, Vn 0, .string (⟨#[]⟩ : ByteArray), Vi 0, Vi 0]])) w1 (hw.frame0 hO)
  refine zQ rfl rfl (xL (q := yX sp) rfl rfl (kS rfl rfl (zA (zS rfl (fun c1 => ?_) (fun c1 => ?_)))))
  ·
   refine zB (yD (cs := [Vn 0, Vn 0, .string (⟨#[]⟩ : ByteArray), Vi 0, Vi 0]) (z := [Vn 0, Vn 0, .string (⟨#[]⟩ : ByteArray), Vi 0, Vi 0]) (pl := [(0, 1), (1, 1), (2, 1), (3, 1), (4, 1)]) (by kernel_rfl) (by kernel_rfl) rfl (zl 3 rfl rfl rfl (zu rfl) rfl (zE rfl (zA ?_))))
   exact zM (z5 (cs := [Vn 0, Vn 0, .string (⟨#[]⟩ : ByteArray), Vi 0, Vi 0]) (v := Vi 1) rfl rfl rfl (by kernel_rfl) (Own.rowCells (i := 3) rfl) (fun w' hw => ⟨LeaD.zero, 1, kl, rfl, .inl ⟨c1, rfl, rfl, rfl⟩, hw.sel [0, 1, 2] rfl (by decide)⟩))
  ·
   have hsp : 1 ≤ sp ∧ sp ≤ 1099511627776 := Decidable.not_not.1 c1
   refine zI (zB (zC rfl (zC rfl (zC rfl (zP rfl rfl (fun w' hw => (zGe b bm lm now cnt kl s i w' (hw.give [0, 2] rfl (by decide))).mono ?_))))))
   rintro _ w1 ⟨x1_, e2_, rfl, hf3_3, hO⟩
   refine (?_ : CL _ _ _ _ _ _ (Own w S [Res.mp Value.string yG bm kb, Res.row b8 77 [Vn 0, Vn 0, .string (⟨#[]⟩ : ByteArray), Vi 0, Vi 0], Res.row b 126 [.map (some bm), .map (some lm), Vi now, Vn cnt], Res.mp yB zg lm kl])) w1 (hw.frameL [0, 2] rfl hO)
   refine zC rfl (zr (vs := [.agg (LeaD.cells x1_).toArray, Vi e2_]) rfl rfl rfl (zr (vs := [.agg (LeaD.cells x1_).toArray, Vi e2_]) rfl rfl rfl (yH (v := .agg #[Vn 0, Vn 0, .string (⟨#[]⟩ : ByteArray), Vi 0, Vi 0]) (by kernel_rfl) rfl (fun b10 => zl 4 rfl rfl rfl (zu rfl) rfl (zE rfl (zA (zK (zX (zB (zC rfl (kD rfl rfl rfl (zE rfl ?_))))))))))))
   refine zA (zS rfl (fun c2 => ?_) (fun c2 => ?_))
   ·
    refine zB (yD (cs := [Vn 0, Vn 0, .string (⟨#[]⟩ : ByteArray), Vi 0, Vi 0]) (z := [Vn 0, Vn 0, .string (⟨#[]⟩ : ByteArray), Vi 0, Vi 0]) (pl := [(0, 1), (1, 1), (2, 1), (3, 1), (4, 1)]) (by kernel_rfl) (by kernel_rfl) rfl (zC rfl (zl 1 rfl rfl rfl (zu rfl) rfl (zE rfl (zA ?_)))))
    exact zM (z5 (cs := [Vn 0, Vn 0, .string (⟨#[]⟩ : ByteArray), Vi 0, Vi 0]) (v := Vi e2_) rfl rfl rfl (by kernel_rfl) (Own.rowCells (i := 1) rfl) (fun w' hw => ⟨LeaD.zero, e2_, kl, rfl, zFD c1 hf3_3 c2, hw.sel [2, 0, 3] rfl (by decide)⟩))
   ·
    refine zK (zc [0, 1, 4] rfl (by decide) (by kernel_rfl) (fun w' hw hS => zD 0 rfl (zL) hS (zD 1 rfl (zY (o := 2) rfl) hS (zD 2 rfl (zi 2 (v := .string x1_.key) rfl rfl rfl) hS (zD 4 rfl (zL) hS (zD 5 rfl (zn rfl) hS (zD 6 rfl (zY (o := 0) rfl) hS (zD 8 rfl (zY (o := 2) rfl) hS (zD 9 rfl (zi 2 (v := .string x1_.key) rfl rfl rfl) hS (za 3 7 ?_ ?_))))))))))
    ·
     refine zU 3 rfl hw (zP rfl rfl (fun w' hw => (zAA b bm lm now cnt kl x1_.key w' (hw.give [2, 3] rfl (by decide))).mono ?_))
     rintro _ w1 ⟨n3_, rfl, hf6_3, hO⟩
     refine (?_ : CL _ _ _ _ _ _ (Own w S [Res.mp Value.string yG bm kb, Res.row b8 77 [Vn 0, Vn 0, .string (⟨#[]⟩ : ByteArray), Vi 0, Vi 0], Res.row b10 77 (LeaD.cells x1_), Res.row b 126 [.map (some bm), .map (some lm), Vi now, Vn cnt], Res.mp yB zg lm kl])) w1 (hw.frameL [2, 3] rfl hO)
     refine zF [0, 1, 2] rfl (by decide) (fun w' hw hS => zZ 7 rfl hw (zW 3 (v := .map (some bm)) rfl rfl rfl rfl (zF [0, 1, 2] rfl (by decide) (fun w' hw hS => zD 10 rfl (zEh (k := x1_.key) (kv := kb) (zv := 0) zDo zCn zCL rfl rfl (fun w' hw' => Own.holds hw' 0 _ rfl)) hS (zD 11 rfl (zDs rfl rfl) hS (zD 12 rfl (xC) hS (zN ?_)))))))
     refine (?_ : C _ _ _ _ _ _ _ (Own w S [Res.mp Value.string yG bm kb, Res.row b8 77 [Vn 0, Vn 0, .string (⟨#[]⟩ : ByteArray), Vi 0, Vi 0], Res.row b10 77 (LeaD.cells x1_), Res.row b 126 [.map (some bm), .map (some lm), Vi now, Vn cnt], Res.mp yB zg lm kl])) _ hw
     refine zS rfl (fun c3 => ?_) (fun c3 => ?_)
     ·
      refine zB (yD (cs := [Vn 0, Vn 0, .string (⟨#[]⟩ : ByteArray), Vi 0, Vi 0]) (z := [Vn 0, Vn 0, .string (⟨#[]⟩ : ByteArray), Vi 0, Vi 0]) (pl := [(0, 1), (1, 1), (2, 1), (3, 1), (4, 1)]) (by kernel_rfl) (by kernel_rfl) rfl (zl 1 rfl rfl rfl (zu rfl) rfl (zE rfl (zA ?_))))
      exact zM (z5 (cs := [Vn 0, Vn 0, .string (⟨#[]⟩ : ByteArray), Vi 0, Vi 0]) (v := Vi 16) rfl rfl rfl (by kernel_rfl) (Own.rowCells (i := 1) rfl) (fun w' hw => ⟨LeaD.zero, 16, kl, rfl, zDZ c1 hf3_3 c2 hf6_3 c3, hw.sel [3, 0, 4] rfl (by decide)⟩))
     ·
      refine zI (zK (zc [0, 1, 3, 4] rfl (by decide) (by kernel_rfl) (fun w' hw hS => zD 0 rfl (zY (o := 4) rfl) hS (zD 2 rfl (zL) hS (zD 3 rfl (zn rfl) hS (zD 4 rfl (zY (o := 2) rfl) hS (zD 5 rfl (zi 2 (v := Vi now) rfl rfl rfl) hS (zD 6 rfl (zL) hS (zD 7 rfl (xW rfl rfl (zq (by omega))) hS (zZ 1 rfl hw (zW 2 (v := Vi x1_.until_) rfl rfl rfl rfl (zF [0, 1, 3, 4] rfl (by decide) (fun w' hw hS => ?_)))))))))))))
      refine zD 8 rfl (zI2 (c := max x1_.until_ (now + sp)) rfl rfl (zKk _ _)) hS (zD 9 rfl (zY (o := 4) rfl) hS (zZ 10 rfl hw (xI (cs := (LeaD.cells x1_)) 2 rfl rfl rfl rfl rfl (zF [0, 1, 3, 4] rfl (by decide) (fun w' hw hS => zN ?_)))))
      refine (?_ : C _ _ _ _ _ _ _ (Own w S [Res.mp Value.string yG bm kb, Res.row b8 77 [Vn 0, Vn 0, .string (⟨#[]⟩ : ByteArray), Vi 0, Vi 0], Res.row b10 77 [Vn x1_.id, Vn x1_.session, .string x1_.key, Vi x1_.amount, Vi (max x1_.until_ (now + sp))], Res.row b 126 [.map (some bm), .map (some lm), Vi now, Vn cnt], Res.mp yB zg lm kl])) _ hw
      refine zK (zc [0, 1, 2, 3] rfl (by decide) (by kernel_rfl) (fun w' hw hS => zD 0 rfl (zL) hS (zD 1 rfl (zn rfl) hS (zD 2 rfl (zY (o := 1) rfl) hS (zD 3 rfl (zi 3 (v := .map (some lm)) rfl rfl rfl) hS (zD 4 rfl (zL) hS (zD 5 rfl (jw 2 rfl rfl) hS (zZ 6 rfl hw (zAk 4 (k := i) (v := ({ x1_ with until_ := max x1_.until_ (now + sp) } : LeaD)) zFI zCs rfl rfl rfl rfl (zF [0, 1, 2, 3] rfl (by decide) (fun w' hw hS => zN ?_)))))))))))
      refine (?_ : C _ _ _ _ _ _ _ (Own w S [Res.mp Value.string yG bm kb, Res.row b8 77 [Vn 0, Vn 0, .string (⟨#[]⟩ : ByteArray), Vi 0, Vi 0], Res.row b10 77 [Vn x1_.id, Vn x1_.session, .string x1_.key, Vi x1_.amount, Vi (max x1_.until_ (now + sp))], Res.row b 126 [.map (some bm), .map (some lm), Vi now, Vn cnt], Res.mp yB zg lm (y7 i ({ x1_ with until_ := max x1_.until_ (now + sp) } : LeaD) kl)])) _ hw
      refine zB (yQ 2 rfl rfl rfl (zl 1 rfl rfl rfl (zu rfl) rfl (zE rfl (zA ?_))))
      exact zM (z5 (cs := [Vn x1_.id, Vn x1_.session, .string x1_.key, Vi x1_.amount, Vi (max x1_.until_ (now + sp))]) (v := Vi 0) rfl rfl rfl (by kernel_rfl) (Own.rowCells (i := 1) rfl) (fun w' hw => ⟨yw x1_ (now + sp), 0, y7 i (yw x1_ (now + sp)) kl, rfl, zE4 c1 hf3_3 c2 hf6_3 c3, hw.sel [3, 0, 4] rfl (by decide)⟩))
    ·
     refine zU 7 rfl hw (zW 2 (v := .map (some bm)) rfl rfl rfl rfl (zF [0, 1, 4] rfl (by decide) (fun w' hw hS => zD 10 rfl (zEh (k := x1_.key) (kv := kb) (zv := 0) zDo zCn zCL rfl rfl (fun w' hw' => Own.holds hw' 0 _ rfl)) hS (zZ 3 rfl hw (zP rfl rfl (fun w' hw => (zAA b bm lm now cnt kl x1_.key w' (hw.give [2, 3] rfl (by decide))).mono ?_))))))
     rintro _ w1 ⟨n4_, rfl, hf6_3, hO⟩
     refine (?_ : CL _ _ _ _ _ _ (Own w S [Res.mp Value.string yG bm kb, Res.row b8 77 [Vn 0, Vn 0, .string (⟨#[]⟩ : ByteArray), Vi 0, Vi 0], Res.row b10 77 (LeaD.cells x1_), Res.row b 126 [.map (some bm), .map (some lm), Vi now, Vn cnt], Res.mp yB zg lm kl])) w1 (hw.frameL [2, 3] rfl hO)
     refine zF [0, 1, 2] rfl (by decide) (fun w' hw hS => zD 11 rfl (zDs rfl rfl) hS (zD 12 rfl (xC) hS (zN ?_)))
     refine (?_ : C _ _ _ _ _ _ _ (Own w S [Res.mp Value.string yG bm kb, Res.row b8 77 [Vn 0, Vn 0, .string (⟨#[]⟩ : ByteArray), Vi 0, Vi 0], Res.row b10 77 (LeaD.cells x1_), Res.row b 126 [.map (some bm), .map (some lm), Vi now, Vn cnt], Res.mp yB zg lm kl])) _ hw
     refine zS rfl (fun c4 => ?_) (fun c4 => ?_)
     ·
      refine zB (yD (cs := [Vn 0, Vn 0, .string (⟨#[]⟩ : ByteArray), Vi 0, Vi 0]) (z := [Vn 0, Vn 0, .string (⟨#[]⟩ : ByteArray), Vi 0, Vi 0]) (pl := [(0, 1), (1, 1), (2, 1), (3, 1), (4, 1)]) (by kernel_rfl) (by kernel_rfl) rfl (zl 1 rfl rfl rfl (zu rfl) rfl (zE rfl (zA ?_))))
      exact zM (z5 (cs := [Vn 0, Vn 0, .string (⟨#[]⟩ : ByteArray), Vi 0, Vi 0]) (v := Vi 16) rfl rfl rfl (by kernel_rfl) (Own.rowCells (i := 1) rfl) (fun w' hw => ⟨LeaD.zero, 16, kl, rfl, zDZ c1 hf3_3 c2 hf6_3 c4, hw.sel [3, 0, 4] rfl (by decide)⟩))
     ·
      refine zI (zK (zc [0, 1, 3, 4] rfl (by decide) (by kernel_rfl) (fun w' hw hS => zD 0 rfl (zY (o := 4) rfl) hS (zD 2 rfl (zL) hS (zD 3 rfl (zn rfl) hS (zD 4 rfl (zY (o := 2) rfl) hS (zD 5 rfl (zi 2 (v := Vi now) rfl rfl rfl) hS (zD 6 rfl (zL) hS (zD 7 rfl (xW rfl rfl (zq (by omega))) hS (zZ 1 rfl hw (zW 2 (v := Vi x1_.until_) rfl rfl rfl rfl (zF [0, 1, 3, 4] rfl (by decide) (fun w' hw hS => ?_)))))))))))))
      refine zD 8 rfl (zI2 (c := max x1_.until_ (now + sp)) rfl rfl (zKk _ _)) hS (zD 9 rfl (zY (o := 4) rfl) hS (zZ 10 rfl hw (xI (cs := (LeaD.cells x1_)) 2 rfl rfl rfl rfl rfl (zF [0, 1, 3, 4] rfl (by decide) (fun w' hw hS => zN ?_)))))
      refine (?_ : C _ _ _ _ _ _ _ (Own w S [Res.mp Value.string yG bm kb, Res.row b8 77 [Vn 0, Vn 0, .string (⟨#[]⟩ : ByteArray), Vi 0, Vi 0], Res.row b10 77 [Vn x1_.id, Vn x1_.session, .string x1_.key, Vi x1_.amount, Vi (max x1_.until_ (now + sp))], Res.row b 126 [.map (some bm), .map (some lm), Vi now, Vn cnt], Res.mp yB zg lm kl])) _ hw
      refine zK (zc [0, 1, 2, 3] rfl (by decide) (by kernel_rfl) (fun w' hw hS => zD 0 rfl (zL) hS (zD 1 rfl (zn rfl) hS (zD 2 rfl (zY (o := 1) rfl) hS (zD 3 rfl (zi 3 (v := .map (some lm)) rfl rfl rfl) hS (zD 4 rfl (zL) hS (zD 5 rfl (jw 2 rfl rfl) hS (zZ 6 rfl hw (zAk 4 (k := i) (v := ({ x1_ with until_ := max x1_.until_ (now + sp) } : LeaD)) zFI zCs rfl rfl rfl rfl (zF [0, 1, 2, 3] rfl (by decide) (fun w' hw hS => zN ?_)))))))))))
      refine (?_ : C _ _ _ _ _ _ _ (Own w S [Res.mp Value.string yG bm kb, Res.row b8 77 [Vn 0, Vn 0, .string (⟨#[]⟩ : ByteArray), Vi 0, Vi 0], Res.row b10 77 [Vn x1_.id, Vn x1_.session, .string x1_.key, Vi x1_.amount, Vi (max x1_.until_ (now + sp))], Res.row b 126 [.map (some bm), .map (some lm), Vi now, Vn cnt], Res.mp yB zg lm (y7 i ({ x1_ with until_ := max x1_.until_ (now + sp) } : LeaD) kl)])) _ hw
      refine zB (yQ 2 rfl rfl rfl (zl 1 rfl rfl rfl (zu rfl) rfl (zE rfl (zA ?_))))
      exact zM (z5 (cs := [Vn x1_.id, Vn x1_.session, .string x1_.key, Vi x1_.amount, Vi (max x1_.until_ (now + sp))]) (v := Vi 0) rfl rfl rfl (by kernel_rfl) (Own.rowCells (i := 1) rfl) (fun w' hw => ⟨yw x1_ (now + sp), 0, y7 i (yw x1_ (now + sp)) kl, rfl, zE4 c1 hf3_3 c2 hf6_3 c4, hw.sel [3, 0, 4] rfl (by decide)⟩))
theorem zJw {S : List Nat} (b bm lm : Nat) (now : Int) (cnt : Nat) (kl : List (Nat × LeaD)) (s i : Nat) (w : World) (hin : Own w S [Res.row b 126 [.map (some bm), .map (some lm), Vi now, Vn cnt], Res.mp yB zg lm kl] w) : Rets Tryz.prog 94 #[.pointer (some ⟨b, 0, none⟩), Vn s, Vn i] w fun u_ w' => ∃ (x : LeaD) (e : Int) (kl' : List (Nat × LeaD)), u_ = .tuple #[.agg (LeaD.cells x).toArray, Vi e] ∧ zC5 kl s i x e kl' ∧ Own w S [Res.row b 126 [.map (some bm), .map (some lm), Vi now, Vn cnt], Res.mp yB zg lm kl'] w' := by
  refine zd Tryz.func94 rfl Tryz.ntmps94 hin ?_
  refine zB (yH (v := .agg #[Vn 0, Vn 0, .string (⟨#[]⟩ : ByteArray), Vi 0, Vi 0]) (by kernel_rfl) rfl (fun b6 => zE rfl (zA (zK (zB (zC rfl (xi (by kernel_rfl) rfl rfl rfl (zA (xu rfl (zI (zB (zC rfl ?_))))))))))))
  refine zC rfl (zC rfl (zP rfl rfl (fun w' hw => (zGe b bm lm now cnt kl s i w' (hw.give [0, 1] rfl (by decide))).mono ?_)))
  rintro _ w1 ⟨x1_, e2_, rfl, hf3_3, hO⟩
  refine (?_ : CL _ _ _ _ _ _ (Own w S [Res.row b6 77 [Vn 0, Vn 0, .string (⟨#[]⟩ : ByteArray), Vi 0, Vi 0], Res.row b 126 [.map (some bm), .map (some lm), Vi now, Vn cnt], Res.mp yB zg lm kl])) w1 (hw.frameL [0, 1] rfl hO)
  refine zC rfl (zr (vs := [.agg (LeaD.cells x1_).toArray, Vi e2_]) rfl rfl rfl (zr (vs := [.agg (LeaD.cells x1_).toArray, Vi e2_]) rfl rfl rfl (yH (v := .agg #[Vn 0, Vn 0, .string (⟨#[]⟩ : ByteArray), Vi 0, Vi 0]) (by kernel_rfl) rfl (fun b8 => zl 3 rfl rfl rfl (zu rfl) rfl (zE rfl (zA (zK (zB (zC rfl (yb rfl rfl rfl (zA (zS rfl (fun c2 => ?_) (fun c2 => ?_)))))))))))))
  ·
   refine zb (zC rfl (zp rfl rfl (zO (o := 1) rfl rfl (zW 1 (v := .map (some lm)) rfl rfl rfl rfl (zC rfl (zDU 2 (k := i) zFI zCs rfl rfl rfl (zA (zB (yQ (cs := (LeaD.cells x1_)) 3 rfl rfl rfl (zC rfl (zl 0 rfl rfl rfl (zu rfl) rfl (zE rfl ?_))))))))))))
   refine zA ?_
   exact zM (z5 (cs := (LeaD.cells x1_)) (v := Vi e2_) rfl rfl rfl (by kernel_rfl) (Own.rowCells (i := 0) rfl) (fun w' hw => ⟨x1_, e2_, x9 i kl, rfl, zGG hf3_3 c2, hw.sel [1, 2] rfl (by decide)⟩))
  ·
   refine zI (zB (yQ (cs := (LeaD.cells x1_)) 3 rfl rfl rfl (zC rfl (zl 0 rfl rfl rfl (zu rfl) rfl (zE rfl (zA ?_))))))
   exact zM (z5 (cs := (LeaD.cells x1_)) (v := Vi e2_) rfl rfl rfl (by kernel_rfl) (Own.rowCells (i := 0) rfl) (fun w' hw => ⟨x1_, e2_, kl, rfl, zHh hf3_3 c2, hw.sel [1, 2] rfl (by decide)⟩))
theorem zGq {S : List Nat} (b bm lm : Nat) (now : Int) (cnt : Nat) (kl : List (Nat × LeaD)) (n : Int) (w : World) (ht : 0 ≤ now ∧ now ≤ 2305843009213693952) (hn : yx n) (hk : KNd kl) (hl : kl.length ≤ 128) (hin : Own w S [Res.row b 126 [.map (some bm), .map (some lm), Vi now, Vn cnt], Res.mp yB zg lm kl] w) : Rets Tryz.prog 44 #[.pointer (some ⟨b, 0, none⟩), Vi n] w fun u_ w' => ∃ (gv : Value) (gs : List Nat) (e now' : Int) (kl' : List (Nat × LeaD)), u_ = .tuple #[gv, Vi e] ∧ e = yU now n ∧ now' = jt now n ∧ kl' = k5 now n kl ∧ gs.Perm (zBs now n kl) ∧ gs.Pairwise (fun x y => x ≤ y) ∧ Own w S [Res.row b 126 [.map (some bm), .map (some lm), Vi now', Vn cnt], Res.mp yB zg lm kl', Res.vec 32 1 gv gs.length (gs.flatMap U1)] w' := by
  refine zd Tryz.func44 rfl Tryz.ntmps44 hin ?_
  refine zB (zE rfl (zE rfl (zA (zK (zX (zB (zC rfl (xi (by kernel_rfl) rfl rfl rfl (zC rfl (zQ rfl rfl (zC rfl (zQ rfl rfl ?_))))))))))))
  refine yA rfl rfl rfl (kS rfl rfl (zC rfl (yj (q := n < 0) 2 6 [17, 16] (1099511627776 < n) rfl rfl rfl rfl rfl rfl trivial rfl (fun h1_6 => ?_) (fun g1_9 => ?_))))
  ·
   refine zQ rfl (gF h1_6) (zC rfl (zQ rfl (gF h1_6) (xB rfl rfl rfl ?_)))
   exact yF rfl (fun _ hw => hw)
  refine zE rfl (zA (zS rfl (fun c1 => ?_) (fun c1 => ?_)))
  ·
   refine zB (zE rfl (zE rfl (zA ?_)))
   exact zM (yY (v := .slice none 0 0) (v' := Vi 1) rfl rfl rfl (fun w' hw => ⟨.slice none 0 0, [], 1, now, kl, rfl, (xv (kl := kl) (jS c1) (by decide)).1, (xv (kl := kl) (jS c1) (by decide)).2.1, (xv (kl := kl) (jS c1) (by decide)).2.2.1, (xv (kl := kl) (jS c1) (by decide)).2.2.2, List.Pairwise.nil, (yV hw 32 1)⟩))
  ·
   refine zB (zC rfl (zp rfl rfl (zO (o := 2) rfl rfl (zW 0 (v := Vi now) rfl rfl rfl rfl (zC rfl (yM rfl rfl (zq (by omega)) rfl (xB rfl rfl rfl (zE rfl (zA (zS rfl (fun c2 => ?_) (fun c2 => ?_)))))))))))
   ·
    refine zB (zE rfl (zE rfl (zA ?_)))
    exact zM (yY (v := .slice none 0 0) (v' := Vi 3) rfl rfl rfl (fun w' hw => ⟨.slice none 0 0, [], 3, now, kl, rfl, (xv (kl := kl) (jK c1 c2) (by decide)).1, (xv (kl := kl) (jK c1 c2) (by decide)).2.1, (xv (kl := kl) (jK c1 c2) (by decide)).2.2.1, (xv (kl := kl) (jK c1 c2) (by decide)).2.2.2, List.Pairwise.nil, (yV hw 32 1)⟩))
   ·
    refine zI (zB (zC rfl (zp rfl rfl (zO (o := 2) rfl rfl (zW 0 (v := Vi now) rfl rfl rfl rfl (zC rfl (zt rfl rfl (zq (by omega)) rfl (zp rfl rfl (zO (o := 2) rfl rfl (xI (cs := [.map (some bm), .map (some lm), Vi now, Vn cnt]) 0 rfl rfl rfl rfl rfl (zA (zK ?_))))))))))))
    refine zB (zC rfl (zp rfl rfl (zO (o := 1) rfl rfl (zW 0 (v := .map (some lm)) rfl rfl rfl rfl (zDf 1 zCs rfl rfl rfl (fun r39 => zA (zX ?_)))))))
    refine zCa (fun (todo kv : List (Nat × LeaD)) (gv : Value) (gs : List Nat) => [(0, .pointer (some ⟨b, 0, none⟩)), (4, gv), (39, .pointer (some ⟨r39, 0, none⟩))]) (fun (todo kv : List (Nat × LeaD)) (gv : Value) (gs : List Nat) => PassI (now + n) kl todo kv gs) (fun (todo kv : List (Nat × LeaD)) (gv : Value) (gs : List Nat) => [Res.row b 126 [.map (some bm), .map (some lm), Vi (now + n), Vn cnt], Res.rg yB zg lm r39 kv todo, Res.vec 32 1 gv gs.length (gs.flatMap U1)]) (fun (todo kv : List (Nat × LeaD)) (gv : Value) (gs : List Nat) => todo.length) (fun w' hw => ⟨kl, kl, .slice none 0 0, [], ⟨rfl, rfl, rfl, trivial⟩, PassI.start _ _, (yV hw 32 1)⟩) (fun todo kv gv gs g hΦ => ?_)
    have hgl : gs.length ≤ 128 := Nat.le_trans (PassI.len hΦ) hl
    refine zB (zEj 1 rfl rfl rfl (fun hq0 => ?_) (fun q1 k v q2 hq1 => ?_))
    ·
     refine zr (vs := [.bool false]) rfl rfl rfl (zA (zK (xu rfl (z7 rfl (zB (zC rfl (zP rfl rfl (fun w' hw => (zJy gv gs w' (by first | assumption | omega | (simp <;> omega) | (constructor <;> (first | omega | (simp only [z9]; omega) | (simp <;> omega)))) (hw.give [2] rfl (by decide))).mono ?_))))))))
     rintro _ w1 ⟨l'1_, rfl, hf12_1, hf12_1_1, hO⟩
     refine (?_ : CL _ _ _ _ _ _ (Own w S [Res.row b 126 [.map (some bm), .map (some lm), Vi (now + n), Vn cnt], Res.rg yB zg lm r39 kv todo, Res.vec 32 1 gv l'1_.length (l'1_.flatMap U1)])) w1 (hw.frameL [2] rfl hO)
     refine zA (zB (zC rfl (zE rfl (zE rfl (zA ?_)))))
     exact zM (yY (v := gv) (v' := Vi 0) rfl rfl rfl (fun w' hw => ⟨gv, l'1_, 0, now + n, kv, rfl, (hΦ.done hq0 hk (jV c1 c2)).1, (hΦ.done hq0 hk (jV c1 c2)).2.1, (hΦ.done hq0 hk (jV c1 c2)).2.2.1, hf12_1.trans (hΦ.done hq0 hk (jV c1 c2)).2.2.2, hf12_1_1.imp (fun q => ole_nat.1 q), (Own.rgEnd 1 hw rfl)⟩))
    ·
     refine zr (vs := [.bool true, Vn k, .agg (LeaD.cells v).toArray]) rfl rfl rfl (zA (zK (zE3 rfl (zI (zX (zB (zDW 1 rfl rfl rfl (zr (vs := [Vn k, .agg (LeaD.cells v).toArray]) rfl rfl rfl (zr (vs := [Vn k, .agg (LeaD.cells v).toArray]) rfl rfl rfl (yH (v := .agg #[Vn 0, Vn 0, .string (⟨#[]⟩ : ByteArray), Vi 0, Vi 0]) (by kernel_rfl) rfl (fun b7 => zE rfl (zl 3 rfl rfl rfl (zu rfl) rfl ?_))))))))))))
     refine zA (y0 (by kernel_rfl) (by kernel_rfl) (zV rfl (zY (o := 4) rfl) (zV rfl (zi 3 (v := Vi v.until_) rfl rfl rfl) (zV rfl (zL) (zV rfl (zn rfl) (zV rfl (zY (o := 2) rfl) (zV rfl (zi 0 (v := Vi (now + n)) rfl rfl rfl) (zV rfl (zAJ rfl rfl) (kd (zS rfl (fun c5 => ?_) (fun c5 => ?_)))))))))))
     ·
      refine zB (zC rfl (zC rfl (yo (e := 32) (sz := 1) (vs := [Vn k]) (by kernel_rfl) rfl rfl (by simp [Value.cells]) (by decide) rfl (fun b54 => y5 (g := U1) (sz := 1) (by' := 8) (fun _ => rfl) (l := gs) (l' := [k]) (by simp [cell1, U1]) 2 (by kernel_rfl) rfl rfl rfl (fun w' hw' => Vec.sl (Own.holds hw' 4 _ rfl)) (by first | omega | (simp; omega)) (by decide) rfl (fun v55 => zE rfl (zA (zb (zC rfl (zp rfl rfl (zO (o := 1) rfl rfl (zW 0 (v := .map (some lm)) rfl rfl rfl rfl (zC rfl ?_))))))))))))
      refine zGt 1 (k := k) zFI zCs rfl rfl rfl (hΦ.out hk hq1) ?_
      exact ze (fun w' hw => ⟨q1 ++ q2, x9 k kv, v55, gs ++ [k], ⟨rfl, rfl, rfl, trivial⟩, hΦ.yes hk hq1 c5, hw.sel [0, 1, 2] rfl (by decide), (by rw [hq1, List.length_append, List.length_append, List.length_cons]; omega)⟩)
     ·
      exact xK (fun w' hw => ⟨q1 ++ q2, kv, gv, gs, ⟨rfl, rfl, rfl, trivial⟩, hΦ.no hq1 c5, hw.sel [0, 1, 2] rfl (by decide), (by rw [hq1, List.length_append, List.length_append, List.length_cons]; omega)⟩)
end Go.Proofs.YtcdiehplbmkmeaaGreat
