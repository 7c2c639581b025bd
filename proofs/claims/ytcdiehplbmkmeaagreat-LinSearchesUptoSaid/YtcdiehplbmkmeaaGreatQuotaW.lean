import Derived.Test.YtcdiehplbmkmeaaGreatSortU4
import Derived.Test.YtcdiehplbmkmeaaGreatQuotaP
import Derived.Test.YtcdiehplbmkmeaaGreatIn
set_option linter.unusedSectionVars false
set_option linter.unusedSimpArgs false
set_option linter.unusedVariables false
set_option maxRecDepth 10000
namespace Go.Proofs.YtcdiehplbmkmeaaGreat
open Go Go.Sc Go.Proofs
def zl (l : LeaD) : Value := .agg l.cells.toArray
def yF (n : Nat) : Value := .int .u64 n
def yI (n : Int) : Value := .int .i64 n
theorem zDW : KeyL Tryz.prog 9 Value.string := zGS (by kernel_rfl)
theorem zFk : KeyL Tryz.prog 32 yF := zC5 (by kernel_rfl)
theorem zCt : xy Tryz.prog 123 = some (9, 2) := by kernel_rfl
theorem zCw : xy Tryz.prog 124 = some (32, 77) := by kernel_rfl
theorem zCR : kO Tryz.prog 2 = some (yI 0) := by kernel_rfl
theorem zKz : kO Tryz.prog 77 = some (zl LeaD.zero) := by kernel_rfl
def j5 (k : ByteArray) (kl : List (Nat × LeaD)) : Int := yi k (kl.map (·.2))
theorem zGX {k : ByteArray} {kl : List (Nat × LeaD)} {n : Int} (h : n = IntKind.i64.wrap (j5 k kl - j5 k [])) : n = yE k kl := by
  rw [h]; simp [j5, yi, yE, yD]
theorem zFx {k : ByteArray} {kl todo q1 q2 : List (Nat × LeaD)} {i : Nat} {v : LeaD} {n : Int} (h : n = IntKind.i64.wrap (j5 k kl - j5 k todo)) (ht : todo = q1 ++ (i, v) :: q2) (hk : v.key = k) : IntKind.i64.wrap (n + v.amount) = IntKind.i64.wrap (j5 k kl - j5 k (q1 ++ q2)) := by
  rw [h, zDq, ht]; unfold j5; rw [zA4, if_pos hk]; congr 1; omega
theorem zH5 {k : ByteArray} {kl todo q1 q2 : List (Nat × LeaD)} {i : Nat} {v : LeaD} {n : Int} (h : n = IntKind.i64.wrap (j5 k kl - j5 k todo)) (ht : todo = q1 ++ (i, v) :: q2) (hk : ¬ v.key = k) : n = IntKind.i64.wrap (j5 k kl - j5 k (q1 ++ q2)) := by
  rw [h, ht]; unfold j5; rw [zA4, if_neg hk]; congr 1; omega
theorem zEh (k : ByteArray) (w : World) : Rets Tryz.prog 105 #[.string k] w fun u_ w' => u_ = .bool (decide (yb k)) ∧ Own w [] [] w' := by
  refine zd Tryz.func105 rfl Tryz.ntmps105 (Own.start w) ?_
  refine zB (zE rfl (zA (zB (zC rfl (zEt rfl rfl rfl (zC rfl (z7 (q := k ≠ (⟨#[]⟩ : ByteArray)) 3 2 [8, 7, 6] (((k.size : Nat) : Int) ≤ 64) rfl rfl rfl rfl rfl rfl trivial rfl (fun h1_2 => ?_) (fun g1_6 => ?_))))))))
  ·
   refine zQ rfl (gT h1_2) (zC rfl (zQ rfl (gT h1_2) (zBf (by kernel_rfl) rfl rfl (zQ rfl (gT h1_2) (jE rfl rfl rfl ?_)))))
   exact yH rfl (fun _ hw => hw)
  refine zE rfl (zA ?_)
  exact zN (zu (v := .bool (decide ((k ≠ (⟨#[]⟩ : ByteArray)) ∧ (((k.size : Nat) : Int) ≤ 64)))) rfl rfl (fun w' hw => ⟨(by congr 1; exact decide_eq_decide.2 (by unfold yb; rw [zKs]; omega)), hw.drop⟩))
theorem zF3 (n : Int) (w : World) : Rets Tryz.prog 106 #[Vi n] w fun u_ w' => u_ = .bool (decide (yV n)) ∧ Own w [] [] w' := by
  refine zd Tryz.func106 rfl Tryz.ntmps106 (Own.start w) ?_
  refine zB (zE rfl (zA (zB (zC rfl (yQ rfl rfl rfl (zC rfl (z7 (q := 1 ≤ n) 2 2 [7, 6] (n ≤ 1099511627776) rfl rfl rfl rfl rfl rfl trivial rfl (fun h1_2 => ?_) (fun g1_5 => ?_))))))))
  ·
   refine zQ rfl (gT h1_2) (zC rfl (zQ rfl (gT h1_2) (jE rfl rfl rfl ?_)))
   exact yH rfl (fun _ hw => hw)
  refine zE rfl (zA ?_)
  exact zN (zu (v := .bool (decide ((1 ≤ n) ∧ (n ≤ 1099511627776)))) rfl rfl (fun w' hw => ⟨rfl, hw.drop⟩))
theorem j6 {S : List Nat} (b bm lm : Nat) (now : Int) (cnt : Nat) (kl : List (Nat × LeaD)) (k : ByteArray) (w : World) (hin : Own w S [Res.row b 126 [.map (some bm), .map (some lm), Vi now, Vn cnt], Res.mp yF zl lm kl] w) : Rets Tryz.prog 89 #[.pointer (some ⟨b, 0, none⟩), .string k] w fun u_ w' => ∃ (n : Int), u_ = Vi n ∧ n = yE k kl ∧ Own w S [Res.row b 126 [.map (some bm), .map (some lm), Vi now, Vn cnt], Res.mp yF zl lm kl] w' := by
  refine zd Tryz.func89 rfl Tryz.ntmps89 hin ?_
  refine zB (zE rfl (zA (zB (zE rfl (zA (zK (zB (zC rfl (zp rfl rfl (zM (o := 1) rfl rfl (zU 0 (v := .map (some lm)) rfl rfl rfl rfl (zDn 1 zCw rfl rfl rfl (fun r12 => ?_)))))))))))))
  refine zA (zX ?_)
  refine xC (fun (todo : List (Nat × LeaD)) (n : Int) => [(1, .string k), (5, Vi n), (12, .pointer (some ⟨r12, 0, none⟩))]) (fun (todo : List (Nat × LeaD)) (n : Int) => n = IntKind.i64.wrap (j5 k kl - j5 k todo)) (fun (todo : List (Nat × LeaD)) (n : Int) => [Res.row b 126 [.map (some bm), .map (some lm), Vi now, Vn cnt], Res.rg yF zl lm r12 kl todo]) (fun (todo : List (Nat × LeaD)) (n : Int) => todo.length) (fun w' hw => ⟨kl, 0, ⟨rfl, rfl, rfl, trivial⟩, (by rw [Int.sub_self]; decide), hw⟩) (fun todo n g hΦ => ?_)
  refine zB (zE2 1 rfl rfl rfl (fun hq0 => ?_) (fun q1 k v q2 hq1 => ?_))
  ·
   refine zr (vs := [.bool false]) rfl rfl rfl (zA (zK (xr rfl (z8 rfl (zB (zC rfl (zE rfl (zA ?_))))))))
   exact zN (zu (v := Vi n) rfl rfl (fun w' hw => ⟨n, rfl, zGX (hq0 ▸ hΦ), (Own.rgEnd 1 hw rfl)⟩))
  ·
   refine zr (vs := [.bool true, Vn k, .agg (LeaD.cells v).toArray]) rfl rfl rfl (zA (zK (zEs rfl (zI (zX (zB (zC8 1 rfl rfl rfl (zr (vs := [Vn k, .agg (LeaD.cells v).toArray]) rfl rfl rfl (yG (v := .agg #[Vn 0, Vn 0, .string (⟨#[]⟩ : ByteArray), Vi 0, Vi 0]) (by kernel_rfl) rfl (fun b7 => zi 2 rfl rfl rfl (zx rfl) rfl (zA (zB ?_))))))))))))
   refine zM (o := 2) rfl rfl (zU 2 (v := .string v.key) rfl rfl rfl rfl (zC rfl (zEu rfl rfl rfl (zA (zT rfl (fun c3 => ?_) (fun c3 => ?_))))))
   ·
    refine zb (zC rfl (zM (o := 3) rfl rfl (zU 2 (v := Vi v.amount) rfl rfl rfl rfl (zt (c := IntKind.i64.wrap (n + v.amount)) rfl rfl rfl rfl (zE rfl ?_)))))
    exact ze (fun w' hw => ⟨q1 ++ q2, IntKind.i64.wrap (n + v.amount), ⟨rfl, rfl, rfl, trivial⟩, zFx hΦ hq1 c3, hw.sel [0, 1] rfl (by decide), (by rw [hq1, List.length_append, List.length_append, List.length_cons]; omega)⟩)
   ·
    exact xL (fun w' hw => ⟨q1 ++ q2, n, ⟨rfl, rfl, rfl, trivial⟩, zH5 hΦ hq1 c3, hw.sel [0, 1] rfl (by decide), (by rw [hq1, List.length_append, List.length_append, List.length_cons]; omega)⟩)
def j1 (kl : List (Nat × LeaD)) (s i : Nat) (x : LeaD) (e : Int) : Prop :=
  (e = 17 ∧ x = LeaD.zero ∧ ∀ l, zf i kl = some l → l.session ≠ s) ∨ (e = 0 ∧ zf i kl = some x ∧ x.session = s)
theorem zIO {kl : List (Nat × LeaD)} {s i : Nat} (h : (!(zf i kl).isSome) = true ∨ ((((zf i kl).getD LeaD.zero).session : Nat) : Int) ≠ ((s : Nat) : Int)) : j1 kl s i LeaD.zero 17 := by
  refine .inl ⟨rfl, rfl, fun l hl => ?_⟩
  rw [hl] at h
  rcases h with h | h
  · cases h
  · intro e; exact h (by rw [Option.getD_some, e])
theorem zHa {kl : List (Nat × LeaD)} {s i : Nat} (h : ¬ ((!(zf i kl).isSome) = true ∨ ((((zf i kl).getD LeaD.zero).session : Nat) : Int) ≠ ((s : Nat) : Int))) : j1 kl s i ((zf i kl).getD LeaD.zero) 0 := by
  cases hl : zf i kl with
  | none => rw [hl] at h; exact absurd (.inl rfl) h
  | some l =>
    rw [hl, Option.getD_some] at h
    exact .inr ⟨rfl, hl, Decidable.by_contra fun (q : ¬ l.session = s) => h (.inr fun e => q (by omega))⟩
theorem zDg {kl : List (Nat × LeaD)} {s i : Nat} {x : LeaD} {e : Int} (h : j1 kl s i x e) (he : e ≠ 0) : e = 17 ∧ x = LeaD.zero ∧ ∀ l, zf i kl = some l → l.session ≠ s := by
  rcases h with h | h
  · exact h
  · exact absurd h.1 he
theorem zCp {kl : List (Nat × LeaD)} {s i : Nat} {x : LeaD} {e : Int} (h : j1 kl s i x e) (he : ¬ e ≠ 0) : zf i kl = some x ∧ x.session = s := by
  rcases h with h | h
  · rw [h.1] at he; exact absurd (by decide) he
  · exact h.2
theorem zHl {kl : List (Nat × LeaD)} {s i : Nat} {x : LeaD} {e : Int} (h : j1 kl s i x e) (he : ¬ e = 0) : zDF kl s i x e kl := by
  have := zDg h he; exact .inl ⟨this.2.2, this.1, this.2.1, rfl⟩
theorem zG4 {kl : List (Nat × LeaD)} {s i : Nat} {x : LeaD} {e : Int} (h : j1 kl s i x e) (he : e = 0) : zDF kl s i x e (x9 i kl) := by
  have := zCp h (fun q => q he); exact .inr ⟨x, this.1, this.2, he, rfl, rfl⟩
theorem zFR {now : Int} {kb : List (ByteArray × Int)} {kl : List (Nat × LeaD)} {s i : Nat} {sp : Int} {x : LeaD} {e : Int} (hs : ¬ ¬ yV sp) (h : j1 kl s i x e) (he : e ≠ 0) : zAw now kb kl s i sp LeaD.zero e kl := by
  have := zDg h he; exact .inr (.inl ⟨Decidable.not_not.1 hs, this.2.2, this.1, rfl, rfl⟩)
theorem zDV {now : Int} {kb : List (ByteArray × Int)} {kl : List (Nat × LeaD)} {s i : Nat} {sp n : Int} {x : LeaD} {e : Int} (hs : ¬ ¬ yV sp) (h : j1 kl s i x e) (he : ¬ e ≠ 0) (hn : n = yE x.key kl) (hc : (zf x.key kb).getD 0 < n) : zAw now kb kl s i sp LeaD.zero 16 kl := by
  have := zCp h he; exact .inr (.inr ⟨Decidable.not_not.1 hs, x, this.1, this.2, .inl ⟨hn ▸ hc, rfl, rfl, rfl⟩⟩)
theorem zEa {now : Int} {kb : List (ByteArray × Int)} {kl : List (Nat × LeaD)} {s i : Nat} {sp n : Int} {x : LeaD} {e : Int} (hs : ¬ ¬ yV sp) (h : j1 kl s i x e) (he : ¬ e ≠ 0) (hn : n = yE x.key kl) (hc : ¬ (zf x.key kb).getD 0 < n) : zAw now kb kl s i sp (yz x (now + sp)) 0 (y8 i (yz x (now + sp)) kl) := by
  have := zCp h he; exact .inr (.inr ⟨Decidable.not_not.1 hs, x, this.1, this.2, .inr ⟨by rw [hn] at hc; omega, rfl, rfl, rfl⟩⟩)
theorem zG5 {S : List Nat} (b bm lm : Nat) (now : Int) (cnt : Nat) (kl : List (Nat × LeaD)) (s i : Nat) (w : World) (hin : Own w S [Res.row b 126 [.map (some bm), .map (some lm), Vi now, Vn cnt], Res.mp yF zl lm kl] w) : Rets Tryz.prog 108 #[.pointer (some ⟨b, 0, none⟩), Vn s, Vn i] w fun u_ w' => ∃ (x : LeaD) (e : Int), u_ = .tuple #[.agg (LeaD.cells x).toArray, Vi e] ∧ j1 kl s i x e ∧ Own w S [Res.row b 126 [.map (some bm), .map (some lm), Vi now, Vn cnt], Res.mp yF zl lm kl] w' := by
  refine zd Tryz.func108 rfl Tryz.ntmps108 hin ?_
  refine zB (yG (v := .agg #[Vn 0, Vn 0, .string (⟨#[]⟩ : ByteArray), Vi 0, Vi 0]) (by kernel_rfl) rfl (fun b6 => zE rfl (zA (zB (zC rfl (zp rfl rfl (zM (o := 1) rfl rfl (zU 0 (v := .map (some lm)) rfl rfl rfl rfl (zC rfl (zBc (k := i) (kv := kl) (zv := LeaD.zero) zFk zCw zKz rfl rfl (fun w' hw' => Own.holds hw' 1 _ rfl) rfl (zC rfl (zr (vs := [.agg (LeaD.cells ((zf i kl).getD LeaD.zero)).toArray, .bool ((zf i kl).isSome)]) rfl rfl rfl ?_))))))))))))
  refine zr (vs := [.agg (LeaD.cells ((zf i kl).getD LeaD.zero)).toArray, .bool ((zf i kl).isSome)]) rfl rfl rfl (yG (v := .agg #[Vn 0, Vn 0, .string (⟨#[]⟩ : ByteArray), Vi 0, Vi 0]) (by kernel_rfl) rfl (fun b8 => zi 3 rfl rfl rfl (zx rfl) rfl (zE rfl (zA (zK (zB (zC rfl (kL (b := (zf i kl).isSome) rfl rfl (zC rfl (yn (q := (!((zf i kl).isSome)) = true) 4 2 [25, 24, 23, 22] (((((zf i kl).getD LeaD.zero).session : Nat) : Int) ≠ ((s : Nat) : Int)) rfl rfl (yt _) rfl rfl rfl trivial rfl (fun h2_2 => ?_) (fun g2_7 => ?_)))))))))))
  ·
   refine zQ rfl (bF h2_2) (zM (o := 1) rfl rfl (zQ rfl (bF h2_2) (zU 3 (v := Vn (((zf i kl).getD LeaD.zero).session)) rfl rfl rfl rfl (zQ rfl (bF h2_2) (zC rfl (zQ rfl (bF h2_2) (kP rfl rfl rfl ?_)))))))
   exact yH rfl (fun _ hw => hw)
  refine zA (zT rfl (fun c1 => ?_) (fun c1 => ?_))
  ·
   refine zB (yB (cs := [Vn 0, Vn 0, .string (⟨#[]⟩ : ByteArray), Vi 0, Vi 0]) (z := [Vn 0, Vn 0, .string (⟨#[]⟩ : ByteArray), Vi 0, Vi 0]) (pl := [(0, 1), (1, 1), (2, 1), (3, 1), (4, 1)]) (by kernel_rfl) (by kernel_rfl) rfl (zi 2 rfl rfl rfl (zx rfl) rfl (zE rfl (zA ?_))))
   exact zN (z5 (cs := [Vn 0, Vn 0, .string (⟨#[]⟩ : ByteArray), Vi 0, Vi 0]) (v := Vi 17) rfl rfl rfl (by kernel_rfl) (Own.rowCells (i := 2) rfl) (fun w' hw => ⟨LeaD.zero, 17, rfl, zIO c1, hw.sel [0, 1] rfl (by decide)⟩))
  ·
   refine zI (zB (yP (cs := (LeaD.cells ((zf i kl).getD LeaD.zero))) 3 rfl rfl rfl (zi 2 rfl rfl rfl (zx rfl) rfl (zE rfl (zA ?_)))))
   exact zN (z5 (cs := (LeaD.cells ((zf i kl).getD LeaD.zero))) (v := Vi 0) rfl rfl rfl (by kernel_rfl) (Own.rowCells (i := 2) rfl) (fun w' hw => ⟨(zf i kl).getD LeaD.zero, 0, rfl, zHa c1, hw.sel [0, 1] rfl (by decide)⟩))
theorem zLC (a c : Int) (w : World) (ha : 0 ≤ a ∧ a ≤ 9223372036854775807) (hc : -9223372036854775808 ≤ c ∧ c ≤ 9223372036854775807) : Rets Tryz.prog 112 #[Vi a, Vi c] w fun u_ w' => ∃ (n e : Int), u_ = .tuple #[Vi n, Vi e] ∧ ((9223372036854775807 < a + c ∧ e = 3 ∧ n = 0) ∨ (a + c ≤ 9223372036854775807 ∧ e = 0 ∧ n = a + c)) ∧ Own w [] [] w' := by
  refine zd Tryz.func112 rfl Tryz.ntmps112 (Own.start w) ?_
  refine zB (zE rfl (zE rfl (zA (zK (zB (zC rfl (xF rfl rfl rfl (zC rfl (z7 (q := 0 < c) 4 2 [12, 11, 10, 9] ((9223372036854775807 - c) < a) rfl rfl rfl rfl rfl rfl trivial rfl (fun h1_2 => ?_) (fun g1_7 => ?_))))))))))
  ·
   refine zQ rfl (gT h1_2) (zC rfl (zQ rfl (gT h1_2) (zC rfl (zQ rfl (gT h1_2) (yO rfl rfl (zq (by omega)) rfl (zQ rfl (gT h1_2) (xF rfl rfl rfl ?_)))))))
   exact yH rfl (fun _ hw => hw)
  refine zC rfl (yn (q := (0 < c) ∧ ((9223372036854775807 - c) < a)) 8 8 [22, 21, 20, 19, 18, 17, 16, 15] ((c < 0) ∧ (a < ((-9223372036854775808) - c))) rfl rfl rfl rfl rfl rfl trivial rfl (fun h1_8 => ?_) (fun g1_17 => ?_))
  ·
   refine zQ rfl (gF h1_8) (zC rfl (zQ rfl (gF h1_8) (yA rfl rfl rfl (zQ rfl (gF h1_8) (zC rfl (z7 (q := c < 0) 4 11 [21, 20, 19, 18] (a < ((-9223372036854775808) - c)) rfl rfl rfl rfl rfl rfl ⟨_, rfl, rfl, gF h1_8⟩ rfl (fun h1_11 => ?_) (fun g1_16 => ?_)))))))
   ·
    refine zQ rfl (gT h1_11) (zC rfl (zQ rfl (gT h1_11) (zC rfl (zQ rfl (gT h1_11) (yO rfl rfl (zq (by omega)) rfl (zQ rfl (gT h1_11) (yA rfl rfl rfl ?_)))))))
    exact yH rfl (fun _ hw => hw)
   exact yH rfl (fun _ hw => hw)
  refine zA (zT rfl (fun c1 => ?_) (fun c1 => ?_))
  ·
   refine zB (zE rfl (zE rfl (zA ?_)))
   exact zN (ye (v := Vi 0) (v' := Vi 3) rfl rfl rfl (fun w' hw => ⟨0, 3, rfl, .inl ⟨by omega, rfl, rfl⟩, hw.drop⟩))
  ·
   refine zI (zB (zC rfl (zC rfl (zt rfl rfl (zq (by omega)) rfl (zE rfl (zE rfl (zA ?_)))))))
   exact zN (ye (v := Vi (a + c)) (v' := Vi 0) rfl rfl rfl (fun w' hw => ⟨a + c, 0, rfl, .inr ⟨by omega, rfl, rfl⟩, hw.drop⟩))
theorem zIZ (v : Value) (l : List Int) (w : World) (hl : l.length = 2) (h0 : 0 ≤ zJ l 0 ∧ zJ l 0 ≤ 9223372036854775807) (h1 : -9223372036854775808 ≤ zJ l 1 ∧ zJ l 1 ≤ 9223372036854775807) (hv : Rd w [] (Res.sl v l.length (l.flatMap I1))) : Rets Tryz.prog 107 #[v] w fun u_ w' => ∃ (n e : Int), u_ = .tuple #[Vi n, Vi e] ∧ ((9223372036854775807 < zJ l 0 + zJ l 1 ∧ e = 3 ∧ n = 0) ∨ (zJ l 0 + zJ l 1 ≤ 9223372036854775807 ∧ e = 0 ∧ n = zJ l 0 + zJ l 1)) ∧ Own w [] [] w' := by
  refine zd Tryz.func107 rfl Tryz.ntmps107 (Own.start w) ?_
  refine zB (zE rfl (zE rfl (zA (zB (zE rfl (zA (zK (zB (zC rfl (yM (pR hv) rfl rfl (zC rfl (zA ?_))))))))))))
  refine zX ?_
  refine xC (fun (k : Nat) (n : Int) => [(4, Vi n), (8, v), (9, Vj l.length), (10, Vj k)]) (fun (k : Nat) (n : Int) => k ≤ 2 ∧ ((k = 0 → n = 0) ∧ (k = 1 → n = zJ l 0) ∧ (k = 2 → n = zJ l 0 + zJ l 1)) ∧ ((k < 2 → 0 ≤ n) ∧ n ≤ 9223372036854775807)) (fun (k : Nat) (n : Int) => []) (fun (k : Nat) (n : Int) => 2 - k) (fun w' hw => ⟨0, 0, ⟨rfl, rfl, rfl, rfl, trivial⟩, ⟨by omega, ⟨fun _ => rfl, by omega, by omega⟩, ⟨fun _ => by omega, by omega⟩⟩, hw⟩) (fun k n g hΦ => ?_)
  have hkl := hΦ.1
  have hkI := hΦ.2.1
  have hkn := hΦ.2.2
  refine zB (yA rfl rfl rfl (zA (zK (zT rfl (fun c1 => ?_) (fun c1 => ?_)))))
  ·
   have hk2 : k < 2 := by omega
   have hkx : (k = 0 → zJ l k = zJ l 0) ∧ (k = 1 → zJ l k = zJ l 1) := ⟨fun h => by rw [h], fun h => by rw [h]⟩
   have hkb : -9223372036854775808 ≤ zJ l k ∧ zJ l k ≤ 9223372036854775807 := by rcases (show k = 0 ∨ k = 1 by omega) with h | h <;> rw [h] <;> omega
   refine zI (zK (zX (zB (zG (pR hv) 1 k rfl rfl rfl (by omega) rfl (zR (pR hv) 1 k 0 (fun _ => rfl) rfl rfl (by omega) rfl rfl (zE rfl (zA (zB (zE rfl (zA (zB (zC rfl ?_))))))))))))
   refine zC rfl (zP rfl rfl (fun w' hw => (zLC n (zJ l k) w' ⟨hkn.1 hk2, hkn.2⟩ hkb).mono ?_))
   rintro _ w1 ⟨n1_, e2_, rfl, hf6_2, hO⟩
   refine (?_ : CL _ _ _ _ _ _ (Own w [] [])) w1 (hw.frame0 hO)
   refine zC rfl (zr (vs := [Vi n1_, Vi e2_]) rfl rfl rfl (zr (vs := [Vi n1_, Vi e2_]) rfl rfl rfl (zE rfl (zE rfl (zA (zB (zC rfl (kP rfl rfl rfl (zA (zT rfl (fun c2 => ?_) (fun c2 => ?_)))))))))))
   ·
    refine zB (zC rfl (zE rfl (zE rfl (zA ?_))))
    exact zN (ye (v := Vi 0) (v' := Vi e2_) rfl rfl rfl (fun w' hw => ⟨0, e2_, rfl, .inl ⟨((zBh hk2 hkI hkx hf6_2 h0 h1).1 c2).1, ((zBh hk2 hkI hkx hf6_2 h0 h1).1 c2).2, rfl⟩, hw.drop⟩))
   ·
    refine zI (zb (zt rfl rfl (zq (by omega)) rfl (zC rfl ?_)))
    exact ze (fun w' hw => ⟨k + 1, n1_, ⟨rfl, rfl, rfl, rfl, trivial⟩, ⟨by omega, (zBh hk2 hkI hkx hf6_2 h0 h1).2 c2⟩, hw, (by omega)⟩)
  ·
   refine z8 rfl (zB (zC rfl (zE rfl (zE rfl (zA ?_)))))
   exact zN (ye (v := Vi n) (v' := Vi 0) rfl rfl rfl (fun w' hw => ⟨n, 0, rfl, .inr ⟨by have := hkI.2.2 (by omega); omega, rfl, hkI.2.2 (by omega)⟩, hw.drop⟩))
theorem zLD {S : List Nat} (b bm lm : Nat) (now : Int) (cnt : Nat) (kb : List (ByteArray × Int)) (kl : List (Nat × LeaD)) (k : ByteArray) (a : Int) (w : World) (hin : Own w S [Res.row b 126 [.map (some bm), .map (some lm), Vi now, Vn cnt], Res.mp Value.string yI bm kb, Res.mp yF zl lm kl] w) : Rets Tryz.prog 90 #[.pointer (some ⟨b, 0, none⟩), .string k, Vi a] w fun u_ w' => ∃ (n e : Int) (kb' : List (ByteArray × Int)), u_ = .tuple #[Vi n, Vi e] ∧ e = x5 k a kb ∧ kb' = zB4 k a kb ∧ (n = if e = 0 then yE k kl else 0) ∧ Own w S [Res.row b 126 [.map (some bm), .map (some lm), Vi now, Vn cnt], Res.mp Value.string yI bm kb', Res.mp yF zl lm kl] w' := by
  refine zd Tryz.func90 rfl Tryz.ntmps90 hin ?_
  refine zB (zE rfl (zE rfl (zA (zK (zB (zC rfl (xk (by kernel_rfl) rfl rfl rfl (zC rfl (zQ rfl rfl (zC rfl (zQ rfl rfl (zP rfl rfl (fun w' hw => ?_)))))))))))))
  refine (zEh k w').mono ?_
  rintro _ w1 ⟨rfl, hO⟩
  refine (?_ : CL _ _ _ _ _ _ (Own w S [Res.row b 126 [.map (some bm), .map (some lm), Vi now, Vn cnt], Res.mp Value.string yI bm kb, Res.mp yF zl lm kl])) w1 (hw.frame0 hO)
  refine zQ rfl rfl (xf (q := yb k) rfl rfl (kY rfl rfl (zC rfl (yn (q := ¬ (yb k)) 2 7 [19, 18] (a < 0) rfl rfl rfl rfl rfl rfl trivial rfl (fun h1_7 => ?_) (fun g1_10 => ?_)))))
  ·
   refine zQ rfl (gF h1_7) (zC rfl (zQ rfl (gF h1_7) (yA rfl rfl rfl ?_)))
   exact yH rfl (fun _ hw => hw)
  refine zA (zT rfl (fun c1 => ?_) (fun c1 => ?_))
  ·
   refine zB (zE rfl (zE rfl (zA ?_)))
   exact zN (ye (v := Vi 0) (v' := Vi 1) rfl rfl rfl (fun w' hw => ⟨0, 1, kb, rfl, (zCD c1).symm, zDA (zCD c1) (by decide), rfl, hw⟩))
  ·
   refine zI (zB (zC rfl (zp rfl rfl (zM (o := 0) rfl rfl (zU 0 (v := .map (some bm)) rfl rfl rfl rfl (zC rfl (zBc (k := k) (kv := kb) (zv := 0) zDW zCt zCR rfl rfl (fun w' hw' => Own.holds hw' 1 _ rfl) rfl (zC rfl (zr (vs := [Vi ((zf k kb).getD 0), .bool ((zf k kb).isSome)]) rfl rfl rfl (zr (vs := [Vi ((zf k kb).getD 0), .bool ((zf k kb).isSome)]) rfl rfl rfl (zE rfl (zE rfl ?_))))))))))))
   refine zA (zK (zX (zB (zC rfl (yX rfl rfl rfl (zE rfl (zA (zT rfl (fun c2 => ?_) (fun c2 => ?_)))))))))
   ·
    refine zb (zC rfl (zp rfl rfl (zM (o := 0) rfl rfl (zU 0 (v := .map (some bm)) rfl rfl rfl rfl (zC rfl (zC6 1 (k := k) zDW zCt rfl rfl rfl (zA (zB (zC rfl (zC rfl (zP rfl rfl (fun w' hw => (j6 b bm lm now cnt kl k w' (hw.give [0, 2] rfl (by decide))).mono ?_))))))))))))
    rintro _ w1 ⟨n1_, rfl, hf9_2, hO⟩
    refine (?_ : CL _ _ _ _ _ _ (Own w S [Res.mp Value.string yI bm (x9 k kb), Res.row b 126 [.map (some bm), .map (some lm), Vi now, Vn cnt], Res.mp yF zl lm kl])) w1 (hw.frameL [0, 2] rfl hO)
    refine zE rfl (zE rfl (zA ?_))
    exact zN (ye (v := Vi n1_) (v' := Vi 0) rfl rfl rfl (fun w' hw => ⟨n1_, 0, x9 k kb, rfl, (zCE c1 c2).symm, zHW (zCE c1 c2) c2, hf9_2, hw.sel [1, 0, 2] rfl (by decide)⟩))
   ·
    refine zB (zC rfl (kL (b := (zf k kb).isSome) rfl rfl (zC rfl (z7 (q := (!((zf k kb).isSome)) = true) 6 2 [53, 52, 51, 50, 49, 48] (64 ≤ ((kb.length : Nat) : Int)) rfl rfl (yt _) rfl rfl rfl trivial rfl (fun h7_2 => ?_) (fun g7_9 => ?_)))))
    ·
     refine zQ rfl (bT h7_2) (zC rfl (zQ rfl (bT h7_2) (zp rfl rfl (zQ rfl (bT h7_2) (zM (o := 0) rfl rfl (zQ rfl (bT h7_2) (zU 0 (v := .map (some bm)) rfl rfl rfl rfl (zQ rfl (bT h7_2) (zCn Value.string yI (kv := kb) zCt rfl (fun w' hw' => Own.holds hw' 1 _ rfl) rfl (zQ rfl (bT h7_2) (yQ rfl rfl rfl ?_)))))))))))
     exact yH rfl (fun _ hw => hw)
    refine zE rfl (zA (zT rfl (fun c3 => ?_) (fun c3 => ?_)))
    ·
     refine zB (zE rfl (zE rfl (zA ?_)))
     exact zN (ye (v := Vi 0) (v' := Vi 7) rfl rfl rfl (fun w' hw => ⟨0, 7, kb, rfl, (zBU c1 c2 c3).symm, zDA (zBU c1 c2 c3) (by decide), rfl, hw⟩))
    ·
     refine zb (zC rfl (zp rfl rfl (zM (o := 0) rfl rfl (zU 0 (v := .map (some bm)) rfl rfl rfl rfl (zC rfl (zC rfl (zAv 1 (k := k) (v := a) zDW zCt rfl rfl rfl rfl (zA (zB (zC rfl (zC rfl (zP rfl rfl (fun w' hw => ?_)))))))))))))
     refine (j6 b bm lm now cnt kl k w' (hw.give [0, 2] rfl (by decide))).mono ?_
     rintro _ w1 ⟨n2_, rfl, hf9_2, hO⟩
     refine (?_ : CL _ _ _ _ _ _ (Own w S [Res.mp Value.string yI bm (y8 k a kb), Res.row b 126 [.map (some bm), .map (some lm), Vi now, Vn cnt], Res.mp yF zl lm kl])) w1 (hw.frameL [0, 2] rfl hO)
     refine zE rfl (zE rfl (zA ?_))
     exact zN (ye (v := Vi n2_) (v' := Vi 0) rfl rfl rfl (fun w' hw => ⟨n2_, 0, y8 k a kb, rfl, (zCb c1 c3).symm, zGR (zCb c1 c3) c2, hf9_2, hw.sel [1, 0, 2] rfl (by decide)⟩))
theorem zIQ {S : List Nat} (b bm lm : Nat) (now : Int) (cnt : Nat) (kb : List (ByteArray × Int)) (kl : List (Nat × LeaD)) (k : ByteArray) (w : World) (hin : Own w S [Res.row b 126 [.map (some bm), .map (some lm), Vi now, Vn cnt], Res.mp Value.string yI bm kb, Res.mp yF zl lm kl] w) : Rets Tryz.prog 68 #[.pointer (some ⟨b, 0, none⟩), .string k] w fun u_ w' => ∃ (n : Int), u_ = .tuple #[Vi ((zf k kb).getD 0), Vi n] ∧ n = yE k kl ∧ Own w S [Res.row b 126 [.map (some bm), .map (some lm), Vi now, Vn cnt], Res.mp Value.string yI bm kb, Res.mp yF zl lm kl] w' := by
  refine zd Tryz.func68 rfl Tryz.ntmps68 hin ?_
  refine zB (zE rfl (zE rfl (zA (zK (zB (zC rfl (xk (by kernel_rfl) rfl rfl rfl (zA (xr rfl (zI (zK (zc [1] rfl (by decide) (by kernel_rfl) (fun w' hw hS => ?_)))))))))))))
  refine zD 0 rfl (zL) hS (zD 1 rfl (zn rfl) hS (zD 2 rfl (zY (o := 0) rfl) hS (zD 4 rfl (zL) hS (zD 6 rfl (zL) hS (zD 7 rfl (zL) hS (za 3 8 ?_ ?_))))))
  ·
   refine zW 3 rfl hw (zU 0 (v := .map (some bm)) rfl rfl rfl rfl (zF [1] rfl (by decide) (fun w' hw hS => zD 5 rfl (zEb (k := k) (kv := kb) (zv := 0) zDW zCt zCR rfl rfl (fun w' hw' => Own.holds hw' 0 _ rfl)) hS (zZ 8 rfl hw (zP rfl rfl (fun w' hw => (j6 b bm lm now cnt kl k w' (hw.give [0, 2] rfl (by decide))).mono ?_))))))
   rintro _ w1 ⟨n1_, rfl, hf3_8, hO⟩
   refine (?_ : CL _ _ _ _ _ _ (Own w S [Res.mp Value.string yI bm kb, Res.row b 126 [.map (some bm), .map (some lm), Vi now, Vn cnt], Res.mp yF zl lm kl])) w1 (hw.frameL [0, 2] rfl hO)
   refine zF [0] rfl (by decide) (fun w' hw hS => zD 9 rfl (xD) hS (zD 10 rfl (xD) hS (zO ?_)))
   refine (?_ : C _ _ _ _ _ _ _ (Own w S [Res.mp Value.string yI bm kb, Res.row b 126 [.map (some bm), .map (some lm), Vi now, Vn cnt], Res.mp yF zl lm kl])) _ hw
   exact zN (ye (v := Vi ((zf k kb).getD 0)) (v' := Vi n1_) rfl rfl rfl (fun w' hw => ⟨n1_, rfl, hf3_8, hw.sel [1, 0, 2] rfl (by decide)⟩))
  ·
   refine zW 8 rfl hw (zP rfl rfl (fun w' hw => (j6 b bm lm now cnt kl k w' (hw.give [0, 2] rfl (by decide))).mono ?_))
   rintro _ w1 ⟨n2_, rfl, hf3_8, hO⟩
   refine (?_ : CL _ _ _ _ _ _ (Own w S [Res.mp Value.string yI bm kb, Res.row b 126 [.map (some bm), .map (some lm), Vi now, Vn cnt], Res.mp yF zl lm kl])) w1 (hw.frameL [0, 2] rfl hO)
   refine zF [0] rfl (by decide) (fun w' hw hS => zZ 3 rfl hw (zU 1 (v := .map (some bm)) rfl rfl rfl rfl (zF [0] rfl (by decide) (fun w' hw hS => zD 5 rfl (zEb (k := k) (kv := kb) (zv := 0) zDW zCt zCR rfl rfl (fun w' hw' => Own.holds hw' 0 _ rfl)) hS (zD 9 rfl (xD) hS (zD 10 rfl (xD) hS (zO ?_)))))))
   refine (?_ : C _ _ _ _ _ _ _ (Own w S [Res.mp Value.string yI bm kb, Res.row b 126 [.map (some bm), .map (some lm), Vi now, Vn cnt], Res.mp yF zl lm kl])) _ hw
   exact zN (ye (v := Vi ((zf k kb).getD 0)) (v' := Vi n2_) rfl rfl rfl (fun w' hw => ⟨n2_, rfl, hf3_8, hw.sel [1, 0, 2] rfl (by decide)⟩))
theorem zLQ (w : World) : Rets Tryz.prog 46 #[] w fun u_ w' => ∃ (b bm lm : Nat), u_ = .pointer (some ⟨b, 0, none⟩) ∧ Own w [] [Res.row b 126 [.map (some bm), .map (some lm), Vi 0, Vn 0], Res.mp Value.string yI bm ([] : List (ByteArray × Int)), Res.mp yF zl lm ([] : List (Nat × LeaD))] w' := by
  refine zd Tryz.func46 rfl Tryz.ntmps46 (Own.start w) ?_
  refine zB (zE rfl (zA (zB (zAb (α := Int) Value.string yI rfl rfl (fun m1 => zAb (α := LeaD) yF zl rfl rfl (fun m2 => yB (cs := [.map (some m1), .map (some m2), Vi 0, Vn 0]) (z := [.map none, .map none, Vi 0, Vn 0]) (pl := [(0, 1), (1, 1), (2, 1), (3, 1)]) (by kernel_rfl) (by kernel_rfl) rfl (yg rfl rfl (fun b4 => zE rfl (zA ?_)))))))))
  exact zN (zu (v := .pointer (some ⟨b4, 0, none⟩)) rfl rfl (fun w' hw => ⟨b4, m1, m2, rfl, hw.sel [2, 0, 1] rfl (by decide)⟩))
theorem zJq {S : List Nat} (b bm lm : Nat) (now : Int) (cnt : Nat) (kb : List (ByteArray × Int)) (kl : List (Nat × LeaD)) (s : Nat) (k : ByteArray) (a sp : Int) (w : World) (hlen : 0 ≤ yE k kl ∧ yE k kl ≤ 9223372036854775807) (ha : y6 a) (ht : 0 ≤ now ∧ now ≤ 2305843009213693952) (hc : cnt ≤ 1000000000) (hin : Own w S [Res.row b 126 [.map (some bm), .map (some lm), Vi now, Vn cnt], Res.mp Value.string yI bm kb, Res.mp yF zl lm kl] w) : Rets Tryz.prog 92 #[.pointer (some ⟨b, 0, none⟩), Vn s, .string k, Vi a, Vi sp] w fun u_ w' => ∃ (x : LeaD) (e : Int) (cnt' : Nat) (kl' : List (Nat × LeaD)), u_ = .tuple #[.agg (LeaD.cells x).toArray, Vi e] ∧ e = xQ s k a sp kb kl ∧ x = kN e cnt s k a (now + sp) ∧ cnt' = zAX e cnt ∧ kl' = zEw e x kl ∧ Own w S [Res.row b 126 [.map (some bm), .map (some lm), Vi now, Vn cnt'], Res.mp Value.string yI bm kb, Res.mp yF zl lm kl'] w' := by
  refine zd Tryz.func92 rfl Tryz.ntmps92 hin ?_
  refine zB (yG (v := .agg #[Vn 0, Vn 0, .string (⟨#[]⟩ : ByteArray), Vi 0, Vi 0]) (by kernel_rfl) rfl (fun b10 => zE rfl (zA (zK (zB (zC rfl (xk (by kernel_rfl) rfl rfl rfl (zC rfl (zQ rfl rfl (zC rfl (zQ rfl rfl (yX rfl rfl rfl ?_))))))))))))
  refine kY rfl rfl (zC rfl (yn (q := ((s : Nat) : Int) = ((0 : Nat) : Int)) 3 6 [26, 25, 24] (¬ (yb k)) rfl rfl rfl rfl rfl rfl trivial rfl (fun h1_6 => ?_) (fun g1_10 => ?_)))
  ·
   refine zQ rfl (gF h1_6) (zC rfl (zQ rfl (gF h1_6) (zP rfl rfl (fun w' hw => (zEh k w').mono ?_))))
   rintro _ w1 ⟨rfl, hO⟩
   refine (?_ : CL _ _ _ _ _ _ (Own w S [Res.row b 126 [.map (some bm), .map (some lm), Vi now, Vn cnt], Res.mp Value.string yI bm kb, Res.mp yF zl lm kl, Res.row b10 77 [Vn 0, Vn 0, .string (⟨#[]⟩ : ByteArray), Vi 0, Vi 0]])) w1 (hw.frame0 hO)
   refine zQ rfl (gF h1_6) (xf (q := yb k) rfl rfl ?_)
   exact yH rfl (fun _ hw => hw)
  refine zC rfl (yn (q := (((s : Nat) : Int) = ((0 : Nat) : Int)) ∨ (¬ (yb k))) 2 11 [30, 29] (a < 1) rfl rfl rfl rfl rfl rfl trivial rfl (fun h1_11 => ?_) (fun g1_14 => ?_))
  ·
   refine zQ rfl (gF h1_11) (zC rfl (zQ rfl (gF h1_11) (yA rfl rfl rfl ?_)))
   exact yH rfl (fun _ hw => hw)
  refine zC rfl (yn (q := ((((s : Nat) : Int) = ((0 : Nat) : Int)) ∨ (¬ (yb k))) ∨ (a < 1)) 3 15 [35, 34, 33] (¬ (yV sp)) rfl rfl rfl rfl rfl rfl trivial rfl (fun h1_15 => ?_) (fun g1_19 => ?_))
  ·
   refine zQ rfl (gF h1_15) (zC rfl (zQ rfl (gF h1_15) (zP rfl rfl (fun w' hw => (zF3 sp w').mono ?_))))
   rintro _ w1 ⟨rfl, hO⟩
   refine (?_ : CL _ _ _ _ _ _ (Own w S [Res.row b 126 [.map (some bm), .map (some lm), Vi now, Vn cnt], Res.mp Value.string yI bm kb, Res.mp yF zl lm kl, Res.row b10 77 [Vn 0, Vn 0, .string (⟨#[]⟩ : ByteArray), Vi 0, Vi 0]])) w1 (hw.frame0 hO)
   refine zQ rfl (gF h1_15) (xf (q := yV sp) rfl rfl ?_)
   exact yH rfl (fun _ hw => hw)
  refine zA (zT rfl (fun c1 => ?_) (fun c1 => ?_))
  ·
   refine zB (yB (cs := [Vn 0, Vn 0, .string (⟨#[]⟩ : ByteArray), Vi 0, Vi 0]) (z := [Vn 0, Vn 0, .string (⟨#[]⟩ : ByteArray), Vi 0, Vi 0]) (pl := [(0, 1), (1, 1), (2, 1), (3, 1), (4, 1)]) (by kernel_rfl) (by kernel_rfl) rfl (zi 3 rfl rfl rfl (zx rfl) rfl (zE rfl (zA ?_))))
   exact zN (z5 (cs := [Vn 0, Vn 0, .string (⟨#[]⟩ : ByteArray), Vi 0, Vi 0]) (v := Vi 1) rfl rfl rfl (by kernel_rfl) (Own.rowCells (i := 3) rfl) (fun w' hw => ⟨LeaD.zero, 1, cnt, kl, rfl, (zI5 (larg.1 c1)).symm, rfl, rfl, rfl, hw.sel [0, 1, 2] rfl (by decide)⟩))
  ·
   have hla : ¬ yd s k a sp := fun q => c1 (larg.2 q)
   have hsp : yV sp := Decidable.by_contra fun q => c1 (.inr q)
   have ha1 : 1 ≤ a := Int.not_lt.1 fun q => c1 (.inl (.inr q))
   unfold yV at hsp
   refine zI (zB (zC rfl (zp rfl rfl (zM (o := 0) rfl rfl (zU 0 (v := .map (some bm)) rfl rfl rfl rfl (zC rfl (zBc (k := k) (kv := kb) (zv := 0) zDW zCt zCR rfl rfl (fun w' hw' => Own.holds hw' 1 _ rfl) rfl (zC rfl (zr (vs := [Vi ((zf k kb).getD 0), .bool ((zf k kb).isSome)]) rfl rfl rfl (zr (vs := [Vi ((zf k kb).getD 0), .bool ((zf k kb).isSome)]) rfl rfl rfl (zE rfl (zE rfl ?_))))))))))))
   refine zA (zK (zB (zC rfl (kL (b := (zf k kb).isSome) rfl rfl (zA (kp rfl (fun c2 => ?_) (fun c2 => ?_)))))))
   ·
    refine zB (yB (cs := [Vn 0, Vn 0, .string (⟨#[]⟩ : ByteArray), Vi 0, Vi 0]) (z := [Vn 0, Vn 0, .string (⟨#[]⟩ : ByteArray), Vi 0, Vi 0]) (pl := [(0, 1), (1, 1), (2, 1), (3, 1), (4, 1)]) (by kernel_rfl) (by kernel_rfl) rfl (zi 3 rfl rfl rfl (zx rfl) rfl (zE rfl (zA ?_))))
    exact zN (z5 (cs := [Vn 0, Vn 0, .string (⟨#[]⟩ : ByteArray), Vi 0, Vi 0]) (v := Vi 8) rfl rfl rfl (by kernel_rfl) (Own.rowCells (i := 3) rfl) (fun w' hw => ⟨LeaD.zero, 8, cnt, kl, rfl, (zKy hla c2).symm, rfl, rfl, rfl, hw.sel [0, 1, 2] rfl (by decide)⟩))
   ·
    have hc2 : ¬ (!(zf k kb).isSome) = true := by rw [c2]; decide
    refine zI (zB (zC rfl (zC rfl (zP rfl rfl (fun w' hw => (j6 b bm lm now cnt kl k w' (hw.give [0, 2] rfl (by decide))).mono ?_)))))
    rintro _ w1 ⟨n1_, rfl, hf6_2, hO⟩
    refine (?_ : CL _ _ _ _ _ _ (Own w S [Res.mp Value.string yI bm kb, Res.row b10 77 [Vn 0, Vn 0, .string (⟨#[]⟩ : ByteArray), Vi 0, Vi 0], Res.row b 126 [.map (some bm), .map (some lm), Vi now, Vn cnt], Res.mp yF zl lm kl])) w1 (hw.frameL [0, 2] rfl hO)
    refine zC rfl (yl (e := 2) (sz := 1) (vs := [Vi n1_, Vi a]) (by kernel_rfl) rfl rfl (by simp [Value.cells]) (by decide) rfl (fun b55 => zP rfl rfl (fun w' hw => (zIZ (.slice (some ⟨b55, 0, none⟩) 2 2) [n1_, a] w' rfl (by show 0 ≤ n1_ ∧ n1_ ≤ _; rw [hf6_2]; exact hlen) (by show _ ≤ a ∧ a ≤ _; exact ⟨by omega, ha.2⟩) (hw.rdVec0 4 rfl)).mono ?_)))
    rintro _ w1 ⟨n2_, e3_, rfl, hf6_5, hO⟩
    have hsum := zHN hf6_5 hf6_2
    refine (?_ : CL _ _ _ _ _ _ (Own w S [Res.mp Value.string yI bm kb, Res.row b10 77 [Vn 0, Vn 0, .string (⟨#[]⟩ : ByteArray), Vi 0, Vi 0], Res.row b 126 [.map (some bm), .map (some lm), Vi now, Vn cnt], Res.mp yF zl lm kl, Res.vec 2 1 (.slice (some ⟨b55, 0, none⟩) 2 2) [n1_, a].length ([n1_, a].flatMap I1)])) w1 (hw.frame0 hO)
    refine zC rfl (zr (vs := [Vi n2_, Vi e3_]) rfl rfl rfl (zr (vs := [Vi n2_, Vi e3_]) rfl rfl rfl (zE rfl (zE rfl (zA (zK (zX (zB (zC rfl (kP rfl rfl rfl (zE rfl (zA ?_))))))))))))
    refine zT rfl (fun c3 => ?_) (fun c3 => ?_)
    ·
     refine zB (yB (cs := [Vn 0, Vn 0, .string (⟨#[]⟩ : ByteArray), Vi 0, Vi 0]) (z := [Vn 0, Vn 0, .string (⟨#[]⟩ : ByteArray), Vi 0, Vi 0]) (pl := [(0, 1), (1, 1), (2, 1), (3, 1), (4, 1)]) (by kernel_rfl) (by kernel_rfl) rfl (zC rfl (zi 1 rfl rfl rfl (zx rfl) rfl (zE rfl (zA ?_)))))
     exact zN (z5 (cs := [Vn 0, Vn 0, .string (⟨#[]⟩ : ByteArray), Vi 0, Vi 0]) (v := Vi e3_) rfl rfl rfl (by kernel_rfl) (Own.rowCells (i := 1) rfl) (fun w' hw => ⟨LeaD.zero, e3_, cnt, kl, rfl, (by rw [(jM hsum c3).2]; exact (zKn hla hc2 (jM hsum c3).1).symm), (by rw [(jM hsum c3).2]; rfl), (by rw [(jM hsum c3).2]; rfl), (by rw [(jM hsum c3).2]; rfl), hw.sel [2, 0, 3] rfl (by decide)⟩))
    ·
     refine zB (zC rfl (zC rfl (xF rfl rfl rfl (zE rfl (zA (zT rfl (fun c4 => ?_) (fun c4 => ?_)))))))
     ·
      refine zB (yB (cs := [Vn 0, Vn 0, .string (⟨#[]⟩ : ByteArray), Vi 0, Vi 0]) (z := [Vn 0, Vn 0, .string (⟨#[]⟩ : ByteArray), Vi 0, Vi 0]) (pl := [(0, 1), (1, 1), (2, 1), (3, 1), (4, 1)]) (by kernel_rfl) (by kernel_rfl) rfl (zi 1 rfl rfl rfl (zx rfl) rfl (zE rfl (zA ?_))))
      exact zN (z5 (cs := [Vn 0, Vn 0, .string (⟨#[]⟩ : ByteArray), Vi 0, Vi 0]) (v := Vi 16) rfl rfl rfl (by kernel_rfl) (Own.rowCells (i := 1) rfl) (fun w' hw => ⟨LeaD.zero, 16, cnt, kl, rfl, (zJj hla hc2 (kj hsum c3).1 (by rw [← (kj hsum c3).2]; exact c4)).symm, rfl, rfl, rfl, hw.sel [2, 0, 3] rfl (by decide)⟩))
     ·
      refine zB (zC rfl (zp rfl rfl (zM (o := 1) rfl rfl (zU 2 (v := .map (some lm)) rfl rfl rfl rfl (zCn yF zl (kv := kl) zCw rfl (fun w' hw' => Own.holds hw' 3 _ rfl) rfl (yQ rfl rfl rfl (zE rfl (zA (zT rfl (fun c5 => ?_) (fun c5 => ?_))))))))))
      ·
       refine zB (yB (cs := [Vn 0, Vn 0, .string (⟨#[]⟩ : ByteArray), Vi 0, Vi 0]) (z := [Vn 0, Vn 0, .string (⟨#[]⟩ : ByteArray), Vi 0, Vi 0]) (pl := [(0, 1), (1, 1), (2, 1), (3, 1), (4, 1)]) (by kernel_rfl) (by kernel_rfl) rfl (zi 1 rfl rfl rfl (zx rfl) rfl (zE rfl (zA ?_))))
       exact zN (z5 (cs := [Vn 0, Vn 0, .string (⟨#[]⟩ : ByteArray), Vi 0, Vi 0]) (v := Vi 7) rfl rfl rfl (by kernel_rfl) (Own.rowCells (i := 1) rfl) (fun w' hw => ⟨LeaD.zero, 7, cnt, kl, rfl, (zKP hla hc2 (kj hsum c3).1 (by rw [← (kj hsum c3).2]; exact c4) c5).symm, rfl, rfl, rfl, hw.sel [2, 0, 3] rfl (by decide)⟩))
      ·
       refine zI (zB (zC rfl (zp rfl rfl (zM (o := 3) rfl rfl (zU 2 (v := Vn cnt) rfl rfl rfl rfl (zt rfl rfl (zCq (by omega)) rfl (zp rfl rfl (zM (o := 3) rfl rfl (y9 (cs := [.map (some bm), .map (some lm), Vi now, Vn cnt]) 2 rfl rfl rfl rfl rfl (zA (zK (zc [0, 1, 2, 3, 4] rfl (by decide) (by kernel_rfl) (fun w' hw hS => ?_)))))))))))))
       refine zD 0 rfl (zL) hS (zD 1 rfl (zn rfl) hS (zD 2 rfl (zY (o := 3) rfl) hS (zD 3 rfl (zj 2 (v := Vn (cnt + 1)) rfl rfl rfl) hS (zD 4 rfl (zL) hS (zD 5 rfl (zL) hS (zD 6 rfl (zL) hS (zD 7 rfl (zL) hS (zD 8 rfl (zn rfl) hS (zD 9 rfl (zY (o := 2) rfl) hS (zD 10 rfl (zj 2 (v := Vi now) rfl rfl rfl) hS (zD 11 rfl (zL) hS (zD 12 rfl (xV rfl rfl (zq (by omega))) hS ?_))))))))))))
       refine zD 13 rfl (zDX (cs := [Vn (cnt + 1), Vn s, .string k, Vi a, Vi (now + sp)]) (z := [Vn 0, Vn 0, .string (⟨#[]⟩ : ByteArray), Vi 0, Vi 0]) (pl := [(0, 1), (1, 1), (2, 1), (3, 1), (4, 1)]) (by kernel_rfl) (by kernel_rfl)) hS (zZ 14 rfl hw (yG (v := .agg #[Vn 0, Vn 0, .string (⟨#[]⟩ : ByteArray), Vi 0, Vi 0]) (by kernel_rfl) rfl (fun b16 => zF [0, 1, 2, 3, 4] rfl (by decide) (fun w' hw hS => zZ 15 rfl hw (zi 5 rfl rfl rfl (zx rfl) rfl (zF [0, 1, 2, 3, 4] rfl (by decide) (fun w' hw hS => zO ?_)))))))
       refine (?_ : C _ _ _ _ _ _ _ (Own w S [Res.mp Value.string yI bm kb, Res.row b10 77 [Vn 0, Vn 0, .string (⟨#[]⟩ : ByteArray), Vi 0, Vi 0], Res.row b 126 [.map (some bm), .map (some lm), Vi now, Vn (cnt + 1)], Res.mp yF zl lm kl, Res.vec 2 1 (.slice (some ⟨b55, 0, none⟩) 2 2) [n1_, a].length ([n1_, a].flatMap I1), Res.row b16 77 [Vn (cnt + 1), Vn s, .string k, Vi a, Vi (now + sp)]])) _ hw
       refine zK (zc [0, 1, 2, 4, 5] rfl (by decide) (by kernel_rfl) (fun w' hw hS => zD 0 rfl (zL) hS (zD 1 rfl (zn rfl) hS (zD 2 rfl (zY (o := 1) rfl) hS (zD 3 rfl (zj 2 (v := .map (some lm)) rfl rfl rfl) hS (zD 4 rfl (zY (o := 0) rfl) hS (zD 5 rfl (zj 4 (v := Vn (cnt + 1)) rfl rfl rfl) hS (zD 6 rfl (jz (cs := [Vn (cnt + 1), Vn s, .string k, Vi a, Vi (now + sp)]) 4 rfl rfl) hS (zZ 7 rfl hw (zAv 3 (k := cnt + 1) (v := ({ id := cnt + 1, session := s, key := k, amount := a, until_ := now + sp } : LeaD)) zFk zCw rfl rfl rfl rfl (zF [0, 1, 2, 4, 5] rfl (by decide) (fun w' hw hS => zO ?_))))))))))))
       refine (?_ : C _ _ _ _ _ _ _ (Own w S [Res.mp Value.string yI bm kb, Res.row b10 77 [Vn 0, Vn 0, .string (⟨#[]⟩ : ByteArray), Vi 0, Vi 0], Res.row b 126 [.map (some bm), .map (some lm), Vi now, Vn (cnt + 1)], Res.mp yF zl lm (y8 (cnt + 1) ({ id := cnt + 1, session := s, key := k, amount := a, until_ := now + sp } : LeaD) kl), Res.vec 2 1 (.slice (some ⟨b55, 0, none⟩) 2 2) [n1_, a].length ([n1_, a].flatMap I1), Res.row b16 77 [Vn (cnt + 1), Vn s, .string k, Vi a, Vi (now + sp)]])) _ hw
       refine zB (yP (cs := [Vn (cnt + 1), Vn s, .string k, Vi a, Vi (now + sp)]) 5 rfl rfl rfl (zi 1 rfl rfl rfl (zx rfl) rfl (zE rfl (zA ?_))))
       exact zN (z5 (cs := [Vn (cnt + 1), Vn s, .string k, Vi a, Vi (now + sp)]) (v := Vi 0) rfl rfl rfl (by kernel_rfl) (Own.rowCells (i := 1) rfl) (fun w' hw => ⟨⟨cnt + 1, s, k, a, now + sp⟩, 0, cnt + 1, y8 (cnt + 1) ⟨cnt + 1, s, k, a, now + sp⟩ kl, rfl, (zLS hla hc2 (kj hsum c3).1 (by rw [← (kj hsum c3).2]; exact c4) c5).symm, rfl, rfl, rfl, hw.sel [2, 0, 3] rfl (by decide)⟩))
theorem zHz {S : List Nat} (b bm lm : Nat) (now : Int) (cnt : Nat) (kb : List (ByteArray × Int)) (kl : List (Nat × LeaD)) (s i : Nat) (sp : Int) (w : World) (ht : 0 ≤ now ∧ now ≤ 2305843009213693952) (hin : Own w S [Res.row b 126 [.map (some bm), .map (some lm), Vi now, Vn cnt], Res.mp Value.string yI bm kb, Res.mp yF zl lm kl] w) : Rets Tryz.prog 93 #[.pointer (some ⟨b, 0, none⟩), Vn s, Vn i, Vi sp] w fun u_ w' => ∃ (x : LeaD) (e : Int) (kl' : List (Nat × LeaD)), u_ = .tuple #[.agg (LeaD.cells x).toArray, Vi e] ∧ zAw now kb kl s i sp x e kl' ∧ Own w S [Res.row b 126 [.map (some bm), .map (some lm), Vi now, Vn cnt], Res.mp Value.string yI bm kb, Res.mp yF zl lm kl'] w' := by
  refine zd Tryz.func93 rfl Tryz.ntmps93 hin ?_
  refine zB (yG (v := .agg #[Vn 0, Vn 0, .string (⟨#[]⟩ : ByteArray), Vi 0, Vi 0]) (by kernel_rfl) rfl (fun b8 => zE rfl (zA (zK (zB (zC rfl (xk (by kernel_rfl) rfl rfl rfl (zC rfl (zQ rfl rfl (zC rfl (zQ rfl rfl (zP rfl rfl (fun w' hw => ?_)))))))))))))
  refine (zF3 sp w').mono ?_
  rintro _ w1 ⟨rfl, hO⟩
  refine (?_ : CL _ _ _ _ _ _ (Own w S [Res.row b 126 [.map (some bm), .map (some lm), Vi now, Vn cnt], Res.mp Value.string yI bm kb, Res.mp yF zl lm kl, Res.row b8 77 [Vn 0, Vn 0, .string (⟨#[]⟩ : ByteArray), Vi 0, Vi 0]])) w1 (hw.frame0 hO)
  refine zQ rfl rfl (xf (q := yV sp) rfl rfl (kY rfl rfl (zA (zT rfl (fun c1 => ?_) (fun c1 => ?_)))))
  ·
   refine zB (yB (cs := [Vn 0, Vn 0, .string (⟨#[]⟩ : ByteArray), Vi 0, Vi 0]) (z := [Vn 0, Vn 0, .string (⟨#[]⟩ : ByteArray), Vi 0, Vi 0]) (pl := [(0, 1), (1, 1), (2, 1), (3, 1), (4, 1)]) (by kernel_rfl) (by kernel_rfl) rfl (zi 3 rfl rfl rfl (zx rfl) rfl (zE rfl (zA ?_))))
   exact zN (z5 (cs := [Vn 0, Vn 0, .string (⟨#[]⟩ : ByteArray), Vi 0, Vi 0]) (v := Vi 1) rfl rfl rfl (by kernel_rfl) (Own.rowCells (i := 3) rfl) (fun w' hw => ⟨LeaD.zero, 1, kl, rfl, .inl ⟨c1, rfl, rfl, rfl⟩, hw.sel [0, 1, 2] rfl (by decide)⟩))
  ·
   have hsp : 1 ≤ sp ∧ sp ≤ 1099511627776 := Decidable.not_not.1 c1
   refine zI (zB (zC rfl (zC rfl (zC rfl (zP rfl rfl (fun w' hw => (zG5 b bm lm now cnt kl s i w' (hw.give [0, 2] rfl (by decide))).mono ?_))))))
   rintro _ w1 ⟨x1_, e2_, rfl, hf3_3, hO⟩
   refine (?_ : CL _ _ _ _ _ _ (Own w S [Res.mp Value.string yI bm kb, Res.row b8 77 [Vn 0, Vn 0, .string (⟨#[]⟩ : ByteArray), Vi 0, Vi 0], Res.row b 126 [.map (some bm), .map (some lm), Vi now, Vn cnt], Res.mp yF zl lm kl])) w1 (hw.frameL [0, 2] rfl hO)
   refine zC rfl (zr (vs := [.agg (LeaD.cells x1_).toArray, Vi e2_]) rfl rfl rfl (zr (vs := [.agg (LeaD.cells x1_).toArray, Vi e2_]) rfl rfl rfl (yG (v := .agg #[Vn 0, Vn 0, .string (⟨#[]⟩ : ByteArray), Vi 0, Vi 0]) (by kernel_rfl) rfl (fun b10 => zi 4 rfl rfl rfl (zx rfl) rfl (zE rfl (zA (zK (zX (zB (zC rfl (kP rfl rfl rfl (zE rfl ?_))))))))))))
   refine zA (zT rfl (fun c2 => ?_) (fun c2 => ?_))
   ·
    refine zB (yB (cs := [Vn 0, Vn 0, .string (⟨#[]⟩ : ByteArray), Vi 0, Vi 0]) (z := [Vn 0, Vn 0, .string (⟨#[]⟩ : ByteArray), Vi 0, Vi 0]) (pl := [(0, 1), (1, 1), (2, 1), (3, 1), (4, 1)]) (by kernel_rfl) (by kernel_rfl) rfl (zC rfl (zi 1 rfl rfl rfl (zx rfl) rfl (zE rfl (zA ?_)))))
    exact zN (z5 (cs := [Vn 0, Vn 0, .string (⟨#[]⟩ : ByteArray), Vi 0, Vi 0]) (v := Vi e2_) rfl rfl rfl (by kernel_rfl) (Own.rowCells (i := 1) rfl) (fun w' hw => ⟨LeaD.zero, e2_, kl, rfl, zFR c1 hf3_3 c2, hw.sel [2, 0, 3] rfl (by decide)⟩))
   ·
    refine zK (zc [0, 1, 4] rfl (by decide) (by kernel_rfl) (fun w' hw hS => zD 0 rfl (zL) hS (zD 1 rfl (zY (o := 2) rfl) hS (zD 2 rfl (zj 2 (v := .string x1_.key) rfl rfl rfl) hS (zD 4 rfl (zL) hS (zD 5 rfl (zn rfl) hS (zD 6 rfl (zY (o := 0) rfl) hS (zD 8 rfl (zY (o := 2) rfl) hS (zD 9 rfl (zj 2 (v := .string x1_.key) rfl rfl rfl) hS (za 3 7 ?_ ?_))))))))))
    ·
     refine zW 3 rfl hw (zP rfl rfl (fun w' hw => (j6 b bm lm now cnt kl x1_.key w' (hw.give [2, 3] rfl (by decide))).mono ?_))
     rintro _ w1 ⟨n3_, rfl, hf6_3, hO⟩
     refine (?_ : CL _ _ _ _ _ _ (Own w S [Res.mp Value.string yI bm kb, Res.row b8 77 [Vn 0, Vn 0, .string (⟨#[]⟩ : ByteArray), Vi 0, Vi 0], Res.row b10 77 (LeaD.cells x1_), Res.row b 126 [.map (some bm), .map (some lm), Vi now, Vn cnt], Res.mp yF zl lm kl])) w1 (hw.frameL [2, 3] rfl hO)
     refine zF [0, 1, 2] rfl (by decide) (fun w' hw hS => zZ 7 rfl hw (zU 3 (v := .map (some bm)) rfl rfl rfl rfl (zF [0, 1, 2] rfl (by decide) (fun w' hw hS => zD 10 rfl (zEb (k := x1_.key) (kv := kb) (zv := 0) zDW zCt zCR rfl rfl (fun w' hw' => Own.holds hw' 0 _ rfl)) hS (zD 11 rfl (zC3 rfl rfl) hS (zD 12 rfl (xD) hS (zO ?_)))))))
     refine (?_ : C _ _ _ _ _ _ _ (Own w S [Res.mp Value.string yI bm kb, Res.row b8 77 [Vn 0, Vn 0, .string (⟨#[]⟩ : ByteArray), Vi 0, Vi 0], Res.row b10 77 (LeaD.cells x1_), Res.row b 126 [.map (some bm), .map (some lm), Vi now, Vn cnt], Res.mp yF zl lm kl])) _ hw
     refine zT rfl (fun c3 => ?_) (fun c3 => ?_)
     ·
      refine zB (yB (cs := [Vn 0, Vn 0, .string (⟨#[]⟩ : ByteArray), Vi 0, Vi 0]) (z := [Vn 0, Vn 0, .string (⟨#[]⟩ : ByteArray), Vi 0, Vi 0]) (pl := [(0, 1), (1, 1), (2, 1), (3, 1), (4, 1)]) (by kernel_rfl) (by kernel_rfl) rfl (zi 1 rfl rfl rfl (zx rfl) rfl (zE rfl (zA ?_))))
      exact zN (z5 (cs := [Vn 0, Vn 0, .string (⟨#[]⟩ : ByteArray), Vi 0, Vi 0]) (v := Vi 16) rfl rfl rfl (by kernel_rfl) (Own.rowCells (i := 1) rfl) (fun w' hw => ⟨LeaD.zero, 16, kl, rfl, zDV c1 hf3_3 c2 hf6_3 c3, hw.sel [3, 0, 4] rfl (by decide)⟩))
     ·
      refine zI (zK (zc [0, 1, 3, 4] rfl (by decide) (by kernel_rfl) (fun w' hw hS => zD 0 rfl (zY (o := 4) rfl) hS (zD 2 rfl (zL) hS (zD 3 rfl (zn rfl) hS (zD 4 rfl (zY (o := 2) rfl) hS (zD 5 rfl (zj 2 (v := Vi now) rfl rfl rfl) hS (zD 6 rfl (zL) hS (zD 7 rfl (xV rfl rfl (zq (by omega))) hS (zZ 1 rfl hw (zU 2 (v := Vi x1_.until_) rfl rfl rfl rfl (zF [0, 1, 3, 4] rfl (by decide) (fun w' hw hS => ?_)))))))))))))
      refine zD 8 rfl (zJD (c := max x1_.until_ (now + sp)) rfl rfl (zLA _ _)) hS (zD 9 rfl (zY (o := 4) rfl) hS (zZ 10 rfl hw (y9 (cs := (LeaD.cells x1_)) 2 rfl rfl rfl rfl rfl (zF [0, 1, 3, 4] rfl (by decide) (fun w' hw hS => zO ?_)))))
      refine (?_ : C _ _ _ _ _ _ _ (Own w S [Res.mp Value.string yI bm kb, Res.row b8 77 [Vn 0, Vn 0, .string (⟨#[]⟩ : ByteArray), Vi 0, Vi 0], Res.row b10 77 [Vn x1_.id, Vn x1_.session, .string x1_.key, Vi x1_.amount, Vi (max x1_.until_ (now + sp))], Res.row b 126 [.map (some bm), .map (some lm), Vi now, Vn cnt], Res.mp yF zl lm kl])) _ hw
      refine zK (zc [0, 1, 2, 3] rfl (by decide) (by kernel_rfl) (fun w' hw hS => zD 0 rfl (zL) hS (zD 1 rfl (zn rfl) hS (zD 2 rfl (zY (o := 1) rfl) hS (zD 3 rfl (zj 3 (v := .map (some lm)) rfl rfl rfl) hS (zD 4 rfl (zL) hS (zD 5 rfl (jz 2 rfl rfl) hS (zZ 6 rfl hw (zAv 4 (k := i) (v := ({ x1_ with until_ := max x1_.until_ (now + sp) } : LeaD)) zFk zCw rfl rfl rfl rfl (zF [0, 1, 2, 3] rfl (by decide) (fun w' hw hS => zO ?_)))))))))))
      refine (?_ : C _ _ _ _ _ _ _ (Own w S [Res.mp Value.string yI bm kb, Res.row b8 77 [Vn 0, Vn 0, .string (⟨#[]⟩ : ByteArray), Vi 0, Vi 0], Res.row b10 77 [Vn x1_.id, Vn x1_.session, .string x1_.key, Vi x1_.amount, Vi (max x1_.until_ (now + sp))], Res.row b 126 [.map (some bm), .map (some lm), Vi now, Vn cnt], Res.mp yF zl lm (y8 i ({ x1_ with until_ := max x1_.until_ (now + sp) } : LeaD) kl)])) _ hw
      refine zB (yP 2 rfl rfl rfl (zi 1 rfl rfl rfl (zx rfl) rfl (zE rfl (zA ?_))))
      exact zN (z5 (cs := [Vn x1_.id, Vn x1_.session, .string x1_.key, Vi x1_.amount, Vi (max x1_.until_ (now + sp))]) (v := Vi 0) rfl rfl rfl (by kernel_rfl) (Own.rowCells (i := 1) rfl) (fun w' hw => ⟨yz x1_ (now + sp), 0, y8 i (yz x1_ (now + sp)) kl, rfl, zEa c1 hf3_3 c2 hf6_3 c3, hw.sel [3, 0, 4] rfl (by decide)⟩))
    ·
     refine zW 7 rfl hw (zU 2 (v := .map (some bm)) rfl rfl rfl rfl (zF [0, 1, 4] rfl (by decide) (fun w' hw hS => zD 10 rfl (zEb (k := x1_.key) (kv := kb) (zv := 0) zDW zCt zCR rfl rfl (fun w' hw' => Own.holds hw' 0 _ rfl)) hS (zZ 3 rfl hw (zP rfl rfl (fun w' hw => (j6 b bm lm now cnt kl x1_.key w' (hw.give [2, 3] rfl (by decide))).mono ?_))))))
     rintro _ w1 ⟨n4_, rfl, hf6_3, hO⟩
     refine (?_ : CL _ _ _ _ _ _ (Own w S [Res.mp Value.string yI bm kb, Res.row b8 77 [Vn 0, Vn 0, .string (⟨#[]⟩ : ByteArray), Vi 0, Vi 0], Res.row b10 77 (LeaD.cells x1_), Res.row b 126 [.map (some bm), .map (some lm), Vi now, Vn cnt], Res.mp yF zl lm kl])) w1 (hw.frameL [2, 3] rfl hO)
     refine zF [0, 1, 2] rfl (by decide) (fun w' hw hS => zD 11 rfl (zC3 rfl rfl) hS (zD 12 rfl (xD) hS (zO ?_)))
     refine (?_ : C _ _ _ _ _ _ _ (Own w S [Res.mp Value.string yI bm kb, Res.row b8 77 [Vn 0, Vn 0, .string (⟨#[]⟩ : ByteArray), Vi 0, Vi 0], Res.row b10 77 (LeaD.cells x1_), Res.row b 126 [.map (some bm), .map (some lm), Vi now, Vn cnt], Res.mp yF zl lm kl])) _ hw
     refine zT rfl (fun c4 => ?_) (fun c4 => ?_)
     ·
      refine zB (yB (cs := [Vn 0, Vn 0, .string (⟨#[]⟩ : ByteArray), Vi 0, Vi 0]) (z := [Vn 0, Vn 0, .string (⟨#[]⟩ : ByteArray), Vi 0, Vi 0]) (pl := [(0, 1), (1, 1), (2, 1), (3, 1), (4, 1)]) (by kernel_rfl) (by kernel_rfl) rfl (zi 1 rfl rfl rfl (zx rfl) rfl (zE rfl (zA ?_))))
      exact zN (z5 (cs := [Vn 0, Vn 0, .string (⟨#[]⟩ : ByteArray), Vi 0, Vi 0]) (v := Vi 16) rfl rfl rfl (by kernel_rfl) (Own.rowCells (i := 1) rfl) (fun w' hw => ⟨LeaD.zero, 16, kl, rfl, zDV c1 hf3_3 c2 hf6_3 c4, hw.sel [3, 0, 4] rfl (by decide)⟩))
     ·
      refine zI (zK (zc [0, 1, 3, 4] rfl (by decide) (by kernel_rfl) (fun w' hw hS => zD 0 rfl (zY (o := 4) rfl) hS (zD 2 rfl (zL) hS (zD 3 rfl (zn rfl) hS (zD 4 rfl (zY (o := 2) rfl) hS (zD 5 rfl (zj 2 (v := Vi now) rfl rfl rfl) hS (zD 6 rfl (zL) hS (zD 7 rfl (xV rfl rfl (zq (by omega))) hS (zZ 1 rfl hw (zU 2 (v := Vi x1_.until_) rfl rfl rfl rfl (zF [0, 1, 3, 4] rfl (by decide) (fun w' hw hS => ?_)))))))))))))
      refine zD 8 rfl (zJD (c := max x1_.until_ (now + sp)) rfl rfl (zLA _ _)) hS (zD 9 rfl (zY (o := 4) rfl) hS (zZ 10 rfl hw (y9 (cs := (LeaD.cells x1_)) 2 rfl rfl rfl rfl rfl (zF [0, 1, 3, 4] rfl (by decide) (fun w' hw hS => zO ?_)))))
      refine (?_ : C _ _ _ _ _ _ _ (Own w S [Res.mp Value.string yI bm kb, Res.row b8 77 [Vn 0, Vn 0, .string (⟨#[]⟩ : ByteArray), Vi 0, Vi 0], Res.row b10 77 [Vn x1_.id, Vn x1_.session, .string x1_.key, Vi x1_.amount, Vi (max x1_.until_ (now + sp))], Res.row b 126 [.map (some bm), .map (some lm), Vi now, Vn cnt], Res.mp yF zl lm kl])) _ hw
      refine zK (zc [0, 1, 2, 3] rfl (by decide) (by kernel_rfl) (fun w' hw hS => zD 0 rfl (zL) hS (zD 1 rfl (zn rfl) hS (zD 2 rfl (zY (o := 1) rfl) hS (zD 3 rfl (zj 3 (v := .map (some lm)) rfl rfl rfl) hS (zD 4 rfl (zL) hS (zD 5 rfl (jz 2 rfl rfl) hS (zZ 6 rfl hw (zAv 4 (k := i) (v := ({ x1_ with until_ := max x1_.until_ (now + sp) } : LeaD)) zFk zCw rfl rfl rfl rfl (zF [0, 1, 2, 3] rfl (by decide) (fun w' hw hS => zO ?_)))))))))))
      refine (?_ : C _ _ _ _ _ _ _ (Own w S [Res.mp Value.string yI bm kb, Res.row b8 77 [Vn 0, Vn 0, .string (⟨#[]⟩ : ByteArray), Vi 0, Vi 0], Res.row b10 77 [Vn x1_.id, Vn x1_.session, .string x1_.key, Vi x1_.amount, Vi (max x1_.until_ (now + sp))], Res.row b 126 [.map (some bm), .map (some lm), Vi now, Vn cnt], Res.mp yF zl lm (y8 i ({ x1_ with until_ := max x1_.until_ (now + sp) } : LeaD) kl)])) _ hw
      refine zB (yP 2 rfl rfl rfl (zi 1 rfl rfl rfl (zx rfl) rfl (zE rfl (zA ?_))))
      exact zN (z5 (cs := [Vn x1_.id, Vn x1_.session, .string x1_.key, Vi x1_.amount, Vi (max x1_.until_ (now + sp))]) (v := Vi 0) rfl rfl rfl (by kernel_rfl) (Own.rowCells (i := 1) rfl) (fun w' hw => ⟨yz x1_ (now + sp), 0, y8 i (yz x1_ (now + sp)) kl, rfl, zEa c1 hf3_3 c2 hf6_3 c4, hw.sel [3, 0, 4] rfl (by decide)⟩))
theorem zJW {S : List Nat} (b bm lm : Nat) (now : Int) (cnt : Nat) (kl : List (Nat × LeaD)) (s i : Nat) (w : World) (hin : Own w S [Res.row b 126 [.map (some bm), .map (some lm), Vi now, Vn cnt], Res.mp yF zl lm kl] w) : Rets Tryz.prog 94 #[.pointer (some ⟨b, 0, none⟩), Vn s, Vn i] w fun u_ w' => ∃ (x : LeaD) (e : Int) (kl' : List (Nat × LeaD)), u_ = .tuple #[.agg (LeaD.cells x).toArray, Vi e] ∧ zDF kl s i x e kl' ∧ Own w S [Res.row b 126 [.map (some bm), .map (some lm), Vi now, Vn cnt], Res.mp yF zl lm kl'] w' := by
  refine zd Tryz.func94 rfl Tryz.ntmps94 hin ?_
  refine zB (yG (v := .agg #[Vn 0, Vn 0, .string (⟨#[]⟩ : ByteArray), Vi 0, Vi 0]) (by kernel_rfl) rfl (fun b6 => zE rfl (zA (zK (zB (zC rfl (xk (by kernel_rfl) rfl rfl rfl (zA (xr rfl (zI (zB (zC rfl ?_))))))))))))
  refine zC rfl (zC rfl (zP rfl rfl (fun w' hw => (zG5 b bm lm now cnt kl s i w' (hw.give [0, 1] rfl (by decide))).mono ?_)))
  rintro _ w1 ⟨x1_, e2_, rfl, hf3_3, hO⟩
  refine (?_ : CL _ _ _ _ _ _ (Own w S [Res.row b6 77 [Vn 0, Vn 0, .string (⟨#[]⟩ : ByteArray), Vi 0, Vi 0], Res.row b 126 [.map (some bm), .map (some lm), Vi now, Vn cnt], Res.mp yF zl lm kl])) w1 (hw.frameL [0, 1] rfl hO)
  refine zC rfl (zr (vs := [.agg (LeaD.cells x1_).toArray, Vi e2_]) rfl rfl rfl (zr (vs := [.agg (LeaD.cells x1_).toArray, Vi e2_]) rfl rfl rfl (yG (v := .agg #[Vn 0, Vn 0, .string (⟨#[]⟩ : ByteArray), Vi 0, Vi 0]) (by kernel_rfl) rfl (fun b8 => zi 3 rfl rfl rfl (zx rfl) rfl (zE rfl (zA (zK (zB (zC rfl (yX rfl rfl rfl (zA (zT rfl (fun c2 => ?_) (fun c2 => ?_)))))))))))))
  ·
   refine zb (zC rfl (zp rfl rfl (zM (o := 1) rfl rfl (zU 1 (v := .map (some lm)) rfl rfl rfl rfl (zC rfl (zC6 2 (k := i) zFk zCw rfl rfl rfl (zA (zB (yP (cs := (LeaD.cells x1_)) 3 rfl rfl rfl (zC rfl (zi 0 rfl rfl rfl (zx rfl) rfl (zE rfl ?_))))))))))))
   refine zA ?_
   exact zN (z5 (cs := (LeaD.cells x1_)) (v := Vi e2_) rfl rfl rfl (by kernel_rfl) (Own.rowCells (i := 0) rfl) (fun w' hw => ⟨x1_, e2_, x9 i kl, rfl, zG4 hf3_3 c2, hw.sel [1, 2] rfl (by decide)⟩))
  ·
   refine zI (zB (yP (cs := (LeaD.cells x1_)) 3 rfl rfl rfl (zC rfl (zi 0 rfl rfl rfl (zx rfl) rfl (zE rfl (zA ?_))))))
   exact zN (z5 (cs := (LeaD.cells x1_)) (v := Vi e2_) rfl rfl rfl (by kernel_rfl) (Own.rowCells (i := 0) rfl) (fun w' hw => ⟨x1_, e2_, kl, rfl, zHl hf3_3 c2, hw.sel [1, 2] rfl (by decide)⟩))
theorem zHE {S : List Nat} (b bm lm : Nat) (now : Int) (cnt : Nat) (kl : List (Nat × LeaD)) (n : Int) (w : World) (ht : 0 ≤ now ∧ now ≤ 2305843009213693952) (hn : y6 n) (hk : KNd kl) (hl : kl.length ≤ 128) (hin : Own w S [Res.row b 126 [.map (some bm), .map (some lm), Vi now, Vn cnt], Res.mp yF zl lm kl] w) : Rets Tryz.prog 44 #[.pointer (some ⟨b, 0, none⟩), Vi n] w fun u_ w' => ∃ (gv : Value) (gs : List Nat) (e now' : Int) (kl' : List (Nat × LeaD)), u_ = .tuple #[gv, Vi e] ∧ e = yT now n ∧ now' = jx now n ∧ kl' = jD now n kl ∧ gs.Perm (zBs now n kl) ∧ gs.Pairwise (fun x y => x ≤ y) ∧ Own w S [Res.row b 126 [.map (some bm), .map (some lm), Vi now', Vn cnt], Res.mp yF zl lm kl', Res.vec 32 1 gv gs.length (gs.flatMap U1)] w' := by
  refine zd Tryz.func44 rfl Tryz.ntmps44 hin ?_
  refine zB (zE rfl (zE rfl (zA (zK (zX (zB (zC rfl (xk (by kernel_rfl) rfl rfl rfl (zC rfl (zQ rfl rfl (zC rfl (zQ rfl rfl ?_))))))))))))
  refine yA rfl rfl rfl (kY rfl rfl (zC rfl (yn (q := n < 0) 2 6 [17, 16] (1099511627776 < n) rfl rfl rfl rfl rfl rfl trivial rfl (fun h1_6 => ?_) (fun g1_9 => ?_))))
  ·
   refine zQ rfl (gF h1_6) (zC rfl (zQ rfl (gF h1_6) (xF rfl rfl rfl ?_)))
   exact yH rfl (fun _ hw => hw)
  refine zE rfl (zA (zT rfl (fun c1 => ?_) (fun c1 => ?_)))
  ·
   refine zB (zE rfl (zE rfl (zA ?_)))
   exact zN (ye (v := .slice none 0 0) (v' := Vi 1) rfl rfl rfl (fun w' hw => ⟨.slice none 0 0, [], 1, now, kl, rfl, (xv (kl := kl) (jK c1) (by decide)).1, (xv (kl := kl) (jK c1) (by decide)).2.1, (xv (kl := kl) (jK c1) (by decide)).2.2.1, (xv (kl := kl) (jK c1) (by decide)).2.2.2, List.Pairwise.nil, (yW hw 32 1)⟩))
  ·
   refine zB (zC rfl (zp rfl rfl (zM (o := 2) rfl rfl (zU 0 (v := Vi now) rfl rfl rfl rfl (zC rfl (yO rfl rfl (zq (by omega)) rfl (xF rfl rfl rfl (zE rfl (zA (zT rfl (fun c2 => ?_) (fun c2 => ?_)))))))))))
   ·
    refine zB (zE rfl (zE rfl (zA ?_)))
    exact zN (ye (v := .slice none 0 0) (v' := Vi 3) rfl rfl rfl (fun w' hw => ⟨.slice none 0 0, [], 3, now, kl, rfl, (xv (kl := kl) (jb c1 c2) (by decide)).1, (xv (kl := kl) (jb c1 c2) (by decide)).2.1, (xv (kl := kl) (jb c1 c2) (by decide)).2.2.1, (xv (kl := kl) (jb c1 c2) (by decide)).2.2.2, List.Pairwise.nil, (yW hw 32 1)⟩))
   ·
    refine zI (zB (zC rfl (zp rfl rfl (zM (o := 2) rfl rfl (zU 0 (v := Vi now) rfl rfl rfl rfl (zC rfl (zt rfl rfl (zq (by omega)) rfl (zp rfl rfl (zM (o := 2) rfl rfl (y9 (cs := [.map (some bm), .map (some lm), Vi now, Vn cnt]) 0 rfl rfl rfl rfl rfl (zA (zK ?_))))))))))))
    refine zB (zC rfl (zp rfl rfl (zM (o := 1) rfl rfl (zU 0 (v := .map (some lm)) rfl rfl rfl rfl (zDn 1 zCw rfl rfl rfl (fun r39 => zA (zX ?_)))))))
    refine zCi (fun (todo kv : List (Nat × LeaD)) (gv : Value) (gs : List Nat) => [(0, .pointer (some ⟨b, 0, none⟩)), (4, gv), (39, .pointer (some ⟨r39, 0, none⟩))]) (fun (todo kv : List (Nat × LeaD)) (gv : Value) (gs : List Nat) => PassI (now + n) kl todo kv gs) (fun (todo kv : List (Nat × LeaD)) (gv : Value) (gs : List Nat) => [Res.row b 126 [.map (some bm), .map (some lm), Vi (now + n), Vn cnt], Res.rg yF zl lm r39 kv todo, Res.vec 32 1 gv gs.length (gs.flatMap U1)]) (fun (todo kv : List (Nat × LeaD)) (gv : Value) (gs : List Nat) => todo.length) (fun w' hw => ⟨kl, kl, .slice none 0 0, [], ⟨rfl, rfl, rfl, trivial⟩, PassI.start _ _, (yW hw 32 1)⟩) (fun todo kv gv gs g hΦ => ?_)
    have hgl : gs.length ≤ 128 := Nat.le_trans (PassI.len hΦ) hl
    refine zB (zE2 1 rfl rfl rfl (fun hq0 => ?_) (fun q1 k v q2 hq1 => ?_))
    ·
     refine zr (vs := [.bool false]) rfl rfl rfl (zA (zK (xr rfl (z8 rfl (zB (zC rfl (zP rfl rfl (fun w' hw => (zJv gv gs w' (by first | assumption | omega | (simp <;> omega) | (constructor <;> (first | omega | (simp only [z6]; omega) | (simp <;> omega)))) (hw.give [2] rfl (by decide))).mono ?_))))))))
     rintro _ w1 ⟨l'1_, rfl, hf12_1, hf12_1_1, hO⟩
     refine (?_ : CL _ _ _ _ _ _ (Own w S [Res.row b 126 [.map (some bm), .map (some lm), Vi (now + n), Vn cnt], Res.rg yF zl lm r39 kv todo, Res.vec 32 1 gv l'1_.length (l'1_.flatMap U1)])) w1 (hw.frameL [2] rfl hO)
     refine zA (zB (zC rfl (zE rfl (zE rfl (zA ?_)))))
     exact zN (ye (v := gv) (v' := Vi 0) rfl rfl rfl (fun w' hw => ⟨gv, l'1_, 0, now + n, kv, rfl, (hΦ.done hq0 hk (jc c1 c2)).1, (hΦ.done hq0 hk (jc c1 c2)).2.1, (hΦ.done hq0 hk (jc c1 c2)).2.2.1, hf12_1.trans (hΦ.done hq0 hk (jc c1 c2)).2.2.2, hf12_1_1.imp (fun q => ole_nat.1 q), (Own.rgEnd 1 hw rfl)⟩))
    ·
     refine zr (vs := [.bool true, Vn k, .agg (LeaD.cells v).toArray]) rfl rfl rfl (zA (zK (zEs rfl (zI (zX (zB (zC8 1 rfl rfl rfl (zr (vs := [Vn k, .agg (LeaD.cells v).toArray]) rfl rfl rfl (zr (vs := [Vn k, .agg (LeaD.cells v).toArray]) rfl rfl rfl (yG (v := .agg #[Vn 0, Vn 0, .string (⟨#[]⟩ : ByteArray), Vi 0, Vi 0]) (by kernel_rfl) rfl (fun b7 => zE rfl (zi 3 rfl rfl rfl (zx rfl) rfl ?_))))))))))))
     refine zA (yy (by kernel_rfl) (by kernel_rfl) (zS rfl (zY (o := 4) rfl) (zS rfl (zj 3 (v := Vi v.until_) rfl rfl rfl) (zS rfl (zL) (zS rfl (zn rfl) (zS rfl (zY (o := 2) rfl) (zS rfl (zj 0 (v := Vi (now + n)) rfl rfl rfl) (zS rfl (zAj rfl rfl) (kT (zT rfl (fun c5 => ?_) (fun c5 => ?_)))))))))))
     ·
      refine zB (zC rfl (zC rfl (yl (e := 32) (sz := 1) (vs := [Vn k]) (by kernel_rfl) rfl rfl (by simp [Value.cells]) (by decide) rfl (fun b54 => yq (g := U1) (sz := 1) (by' := 8) (fun _ => rfl) (l := gs) (l' := [k]) (by simp [cell1, U1]) 2 (by kernel_rfl) rfl rfl rfl (fun w' hw' => Vec.sl (Own.holds hw' 4 _ rfl)) (by first | omega | (simp; omega)) (by decide) rfl (fun v55 => zE rfl (zA (zb (zC rfl (zp rfl rfl (zM (o := 1) rfl rfl (zU 0 (v := .map (some lm)) rfl rfl rfl rfl (zC rfl ?_))))))))))))
      refine zF5 1 (k := k) zFk zCw rfl rfl rfl (hΦ.out hk hq1) ?_
      exact ze (fun w' hw => ⟨q1 ++ q2, x9 k kv, v55, gs ++ [k], ⟨rfl, rfl, rfl, trivial⟩, hΦ.yes hk hq1 c5, hw.sel [0, 1, 2] rfl (by decide), (by rw [hq1, List.length_append, List.length_append, List.length_cons]; omega)⟩)
     ·
      exact xL (fun w' hw => ⟨q1 ++ q2, kv, gv, gs, ⟨rfl, rfl, rfl, trivial⟩, hΦ.no hq1 c5, hw.sel [0, 1, 2] rfl (by decide), (by rw [hq1, List.length_append, List.length_append, List.length_cons]; omega)⟩)
end Go.Proofs.YtcdiehplbmkmeaaGreat
