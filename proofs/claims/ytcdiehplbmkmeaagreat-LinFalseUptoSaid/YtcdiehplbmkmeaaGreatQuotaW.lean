import Derived.Test.YtcdiehplbmkmeaaGreatSortU4
import Derived.Test.YtcdiehplbmkmeaaGreatQuotaP
import Derived.Test.YtcdiehplbmkmeaaGreatIn
set_option linter.unusedSectionVars false
set_option linter.unusedSimpArgs false
set_option linter.unusedVariables false
set_option maxRecDepth 10000
namespace Go.Proofs.YtcdiehplbmkmeaaGreat
open Go Go.Sc Go.Proofs
def zk (l : LeaD) : Value := .agg l.cells.toArray
def yC (n : Nat) : Value := .int .u64 n
def yE (n : Int) : Value := .int .i64 n
theorem zDS : KeyL Tryz.prog 9 Value.string := zGD (by kernel_rfl)
theorem zF5 : KeyL Tryz.prog 32 yC := zDy (by kernel_rfl)
theorem zCu : x3 Tryz.prog 123 = some (9, 2) := by kernel_rfl
theorem zCq : x3 Tryz.prog 124 = some (32, 77) := by kernel_rfl
theorem zCE : kM Tryz.prog 2 = some (yE 0) := by kernel_rfl
theorem zLK : kM Tryz.prog 77 = some (zk LeaD.zero) := by kernel_rfl
def zAE (k : ByteArray) (kl : List (Nat × LeaD)) : Int := yd k (kl.map (·.2))
theorem zHO {k : ByteArray} {kl : List (Nat × LeaD)} {n : Int} (h : n = IntKind.i64.wrap (zAE k kl - zAE k [])) : n = yA k kl := by
  rw [h]; simp [zAE, yd, yA, yF]
theorem zGY {k : ByteArray} {kl todo q1 q2 : List (Nat × LeaD)} {i : Nat} {v : LeaD} {n : Int} (h : n = IntKind.i64.wrap (zAE k kl - zAE k todo)) (ht : todo = q1 ++ (i, v) :: q2) (hk : v.key = k) : IntKind.i64.wrap (n + v.amount) = IntKind.i64.wrap (zAE k kl - zAE k (q1 ++ q2)) := by
  rw [h, zDh, ht]; unfold zAE; rw [zBC, if_pos hk]; congr 1; omega
theorem zIl {k : ByteArray} {kl todo q1 q2 : List (Nat × LeaD)} {i : Nat} {v : LeaD} {n : Int} (h : n = IntKind.i64.wrap (zAE k kl - zAE k todo)) (ht : todo = q1 ++ (i, v) :: q2) (hk : ¬ v.key = k) : n = IntKind.i64.wrap (zAE k kl - zAE k (q1 ++ q2)) := by
  rw [h, ht]; unfold zAE; rw [zBC, if_neg hk]; congr 1; omega
theorem zFB (k : ByteArray) (w : World) : Rets Tryz.prog 105 #[.string k] w fun u_ w' => u_ = .bool (decide (yW k)) ∧ Own w [] [] w' := by
  refine ze Tryz.func105 rfl Tryz.ntmps105 (Own.start w) ?_
  refine zB (zH rfl (zA (zB (zC rfl (zEr rfl rfl rfl (zC rfl (yD (q := k ≠ (⟨#[]⟩ : ByteArray)) 3 2 [8, 7, 6] (((k.size : Nat) : Int) ≤ 64) rfl rfl rfl rfl rfl rfl trivial rfl (fun h1_2 => ?_) (fun g1_6 => ?_))))))))
  ·
   refine zR rfl (gT h1_2) (zC rfl (zR rfl (gT h1_2) (zAC (by kernel_rfl) rfl rfl (zR rfl (gT h1_2) (x5 rfl rfl rfl ?_)))))
   exact yH rfl (fun _ hw => hw)
  refine zH rfl (zA ?_)
  exact zN (z4 (v := .bool (decide ((k ≠ (⟨#[]⟩ : ByteArray)) ∧ (((k.size : Nat) : Int) ≤ 64)))) rfl rfl (fun w' hw => ⟨(by congr 1; exact decide_eq_decide.2 (by unfold yW; rw [zLT]; omega)), hw.drop⟩))
theorem zHD (n : Int) (w : World) : Rets Tryz.prog 106 #[Vi n] w fun u_ w' => u_ = .bool (decide (yM n)) ∧ Own w [] [] w' := by
  refine ze Tryz.func106 rfl Tryz.ntmps106 (Own.start w) ?_
  refine zB (zH rfl (zA (zB (zC rfl (yU rfl rfl rfl (zC rfl (yD (q := 1 ≤ n) 2 2 [7, 6] (n ≤ 1099511627776) rfl rfl rfl rfl rfl rfl trivial rfl (fun h1_2 => ?_) (fun g1_5 => ?_))))))))
  ·
   refine zR rfl (gT h1_2) (zC rfl (zR rfl (gT h1_2) (x5 rfl rfl rfl ?_)))
   exact yH rfl (fun _ hw => hw)
  refine zH rfl (zA ?_)
  exact zN (z4 (v := .bool (decide ((1 ≤ n) ∧ (n ≤ 1099511627776)))) rfl rfl (fun w' hw => ⟨rfl, hw.drop⟩))
theorem j0 {S : List Nat} (b bm lm : Nat) (now : Int) (cnt : Nat) (kl : List (Nat × LeaD)) (k : ByteArray) (w : World) (hin : Own w S [Res.row b 126 [.map (some bm), .map (some lm), Vi now, Vn cnt], Res.mp yC zk lm kl] w) : Rets Tryz.prog 89 #[.pointer (some ⟨b, 0, none⟩), .string k] w fun u_ w' => ∃ (n : Int), u_ = Vi n ∧ n = yA k kl ∧ Own w S [Res.row b 126 [.map (some bm), .map (some lm), Vi now, Vn cnt], Res.mp yC zk lm kl] w' := by
  refine ze Tryz.func89 rfl Tryz.ntmps89 hin ?_
  refine zB (zH rfl (zA (zB (zH rfl (zA (zL (zB (zC rfl (zt rfl rfl (zO (o := 1) rfl rfl (zU 0 (v := .map (some lm)) rfl rfl rfl rfl (zDW 1 zCq rfl rfl rfl (fun r12 => ?_)))))))))))))
  refine zA (zW ?_)
  refine xB (fun (todo : List (Nat × LeaD)) (n : Int) => [(1, .string k), (5, Vi n), (12, .pointer (some ⟨r12, 0, none⟩))]) (fun (todo : List (Nat × LeaD)) (n : Int) => n = IntKind.i64.wrap (zAE k kl - zAE k todo)) (fun (todo : List (Nat × LeaD)) (n : Int) => [Res.row b 126 [.map (some bm), .map (some lm), Vi now, Vn cnt], Res.rg yC zk lm r12 kl todo]) (fun (todo : List (Nat × LeaD)) (n : Int) => todo.length) (fun w' hw => ⟨kl, 0, ⟨rfl, rfl, rfl, trivial⟩, (by rw [Int.sub_self]; decide), hw⟩) (fun todo n g hΦ => ?_)
  refine zB (zE3 1 rfl rfl rfl (fun hq0 => ?_) (fun q1 k v q2 hq1 => ?_))
  ·
   refine zr (vs := [.bool false]) rfl rfl rfl (zA (zL (xt rfl (yB rfl (zB (zC rfl (zH rfl (zA ?_))))))))
   exact zN (z4 (v := Vi n) rfl rfl (fun w' hw => ⟨n, rfl, zHO (hq0 ▸ hΦ), (Own.rgEnd 1 hw rfl)⟩))
  ·
   refine zr (vs := [.bool true, Vn k, .agg (LeaD.cells v).toArray]) rfl rfl rfl (zA (zL (zE8 rfl (zJ (zW (zB (zDs 1 rfl rfl rfl (zr (vs := [Vn k, .agg (LeaD.cells v).toArray]) rfl rfl rfl (yG (v := .agg #[Vn 0, Vn 0, .string (⟨#[]⟩ : ByteArray), Vi 0, Vi 0]) (by kernel_rfl) rfl (fun b7 => zm 2 rfl rfl rfl (zw rfl) rfl (zA (zB ?_))))))))))))
   refine zO (o := 2) rfl rfl (zU 2 (v := .string v.key) rfl rfl rfl rfl (zC rfl (zE9 rfl rfl rfl (zA (zV rfl (fun c3 => ?_) (fun c3 => ?_))))))
   ·
    refine zY (zC rfl (zO (o := 3) rfl rfl (zU 2 (v := Vi v.amount) rfl rfl rfl rfl (zn (c := IntKind.i64.wrap (n + v.amount)) rfl rfl rfl rfl (zH rfl ?_)))))
    exact zd (fun w' hw => ⟨q1 ++ q2, IntKind.i64.wrap (n + v.amount), ⟨rfl, rfl, rfl, trivial⟩, zGY hΦ hq1 c3, hw.sel [0, 1] rfl (by decide), (by rw [hq1, List.length_append, List.length_append, List.length_cons]; omega)⟩)
   ·
    exact xQ (fun w' hw => ⟨q1 ++ q2, n, ⟨rfl, rfl, rfl, trivial⟩, zIl hΦ hq1 c3, hw.sel [0, 1] rfl (by decide), (by rw [hq1, List.length_append, List.length_append, List.length_cons]; omega)⟩)
def jv (kl : List (Nat × LeaD)) (s i : Nat) (x : LeaD) (e : Int) : Prop :=
  (e = 17 ∧ x = LeaD.zero ∧ ∀ l, zf i kl = some l → l.session ≠ s) ∨ (e = 0 ∧ zf i kl = some x ∧ x.session = s)
theorem zIR {kl : List (Nat × LeaD)} {s i : Nat} (h : (!(zf i kl).isSome) = true ∨ ((((zf i kl).getD LeaD.zero).session : Nat) : Int) ≠ ((s : Nat) : Int)) : jv kl s i LeaD.zero 17 := by
  refine .inl ⟨rfl, rfl, fun l hl => ?_⟩
  rw [hl] at h
  rcases h with h | h
  · cases h
  · intro e; exact h (by rw [Option.getD_some, e])
theorem zHS {kl : List (Nat × LeaD)} {s i : Nat} (h : ¬ ((!(zf i kl).isSome) = true ∨ ((((zf i kl).getD LeaD.zero).session : Nat) : Int) ≠ ((s : Nat) : Int))) : jv kl s i ((zf i kl).getD LeaD.zero) 0 := by
  cases hl : zf i kl with
  | none => rw [hl] at h; exact absurd (.inl rfl) h
  | some l =>
    rw [hl, Option.getD_some] at h
    exact .inr ⟨rfl, hl, Decidable.by_contra fun (q : ¬ l.session = s) => h (.inr fun e => q (by omega))⟩
theorem zDv {kl : List (Nat × LeaD)} {s i : Nat} {x : LeaD} {e : Int} (h : jv kl s i x e) (he : e ≠ 0) : e = 17 ∧ x = LeaD.zero ∧ ∀ l, zf i kl = some l → l.session ≠ s := by
  rcases h with h | h
  · exact h
  · exact absurd h.1 he
theorem zCi {kl : List (Nat × LeaD)} {s i : Nat} {x : LeaD} {e : Int} (h : jv kl s i x e) (he : ¬ e ≠ 0) : zf i kl = some x ∧ x.session = s := by
  rcases h with h | h
  · rw [h.1] at he; exact absurd (by decide) he
  · exact h.2
theorem zIs {kl : List (Nat × LeaD)} {s i : Nat} {x : LeaD} {e : Int} (h : jv kl s i x e) (he : ¬ e = 0) : zD5 kl s i x e kl := by
  have := zDv h he; exact .inl ⟨this.2.2, this.1, this.2.1, rfl⟩
theorem zHh {kl : List (Nat × LeaD)} {s i : Nat} {x : LeaD} {e : Int} (h : jv kl s i x e) (he : e = 0) : zD5 kl s i x e (kC i kl) := by
  have := zCi h (fun q => q he); exact .inr ⟨x, this.1, this.2, he, rfl, rfl⟩
theorem zFO {now : Int} {kb : List (ByteArray × Int)} {kl : List (Nat × LeaD)} {s i : Nat} {sp : Int} {x : LeaD} {e : Int} (hs : ¬ ¬ yM sp) (h : jv kl s i x e) (he : e ≠ 0) : zAv now kb kl s i sp LeaD.zero e kl := by
  have := zDv h he; exact .inr (.inl ⟨Decidable.not_not.1 hs, this.2.2, this.1, rfl, rfl⟩)
theorem zDK {now : Int} {kb : List (ByteArray × Int)} {kl : List (Nat × LeaD)} {s i : Nat} {sp n : Int} {x : LeaD} {e : Int} (hs : ¬ ¬ yM sp) (h : jv kl s i x e) (he : ¬ e ≠ 0) (hn : n = yA x.key kl) (hc : (zf x.key kb).getD 0 < n) : zAv now kb kl s i sp LeaD.zero 16 kl := by
  have := zCi h he; exact .inr (.inr ⟨Decidable.not_not.1 hs, x, this.1, this.2, .inl ⟨hn ▸ hc, rfl, rfl, rfl⟩⟩)
theorem zEy {now : Int} {kb : List (ByteArray × Int)} {kl : List (Nat × LeaD)} {s i : Nat} {sp n : Int} {x : LeaD} {e : Int} (hs : ¬ ¬ yM sp) (h : jv kl s i x e) (he : ¬ e ≠ 0) (hn : n = yA x.key kl) (hc : ¬ (zf x.key kb).getD 0 < n) : zAv now kb kl s i sp (yy x (now + sp)) 0 (y6 i (yy x (now + sp)) kl) := by
  have := zCi h he; exact .inr (.inr ⟨Decidable.not_not.1 hs, x, this.1, this.2, .inr ⟨by rw [hn] at hc; omega, rfl, rfl, rfl⟩⟩)
theorem zGe {S : List Nat} (b bm lm : Nat) (now : Int) (cnt : Nat) (kl : List (Nat × LeaD)) (s i : Nat) (w : World) (hin : Own w S [Res.row b 126 [.map (some bm), .map (some lm), Vi now, Vn cnt], Res.mp yC zk lm kl] w) : Rets Tryz.prog 108 #[.pointer (some ⟨b, 0, none⟩), Vn s, Vn i] w fun u_ w' => ∃ (x : LeaD) (e : Int), u_ = .tuple #[.agg (LeaD.cells x).toArray, Vi e] ∧ jv kl s i x e ∧ Own w S [Res.row b 126 [.map (some bm), .map (some lm), Vi now, Vn cnt], Res.mp yC zk lm kl] w' := by
  refine ze Tryz.func108 rfl Tryz.ntmps108 hin ?_
  refine zB (yG (v := .agg #[Vn 0, Vn 0, .string (⟨#[]⟩ : ByteArray), Vi 0, Vi 0]) (by kernel_rfl) rfl (fun b6 => zH rfl (zA (zB (zC rfl (zt rfl rfl (zO (o := 1) rfl rfl (zU 0 (v := .map (some lm)) rfl rfl rfl rfl (zC rfl (zBi (k := i) (kv := kl) (zv := LeaD.zero) zF5 zCq zLK rfl rfl (fun w' hw' => Own.holds hw' 1 _ rfl) rfl (zC rfl (zr (vs := [.agg (LeaD.cells ((zf i kl).getD LeaD.zero)).toArray, .bool ((zf i kl).isSome)]) rfl rfl rfl ?_))))))))))))
  refine zr (vs := [.agg (LeaD.cells ((zf i kl).getD LeaD.zero)).toArray, .bool ((zf i kl).isSome)]) rfl rfl rfl (yG (v := .agg #[Vn 0, Vn 0, .string (⟨#[]⟩ : ByteArray), Vi 0, Vi 0]) (by kernel_rfl) rfl (fun b8 => zm 3 rfl rfl rfl (zw rfl) rfl (zH rfl (zA (zL (zB (zC rfl (kz (b := (zf i kl).isSome) rfl rfl (zC rfl (yk (q := (!((zf i kl).isSome)) = true) 4 2 [25, 24, 23, 22] (((((zf i kl).getD LeaD.zero).session : Nat) : Int) ≠ ((s : Nat) : Int)) rfl rfl (y3 _) rfl rfl rfl trivial rfl (fun h2_2 => ?_) (fun g2_7 => ?_)))))))))))
  ·
   refine zR rfl (bF h2_2) (zO (o := 1) rfl rfl (zR rfl (bF h2_2) (zU 3 (v := Vn (((zf i kl).getD LeaD.zero).session)) rfl rfl rfl rfl (zR rfl (bF h2_2) (zC rfl (zR rfl (bF h2_2) (jK rfl rfl rfl ?_)))))))
   exact yH rfl (fun _ hw => hw)
  refine zA (zV rfl (fun c1 => ?_) (fun c1 => ?_))
  ·
   refine zB (z8 (cs := [Vn 0, Vn 0, .string (⟨#[]⟩ : ByteArray), Vi 0, Vi 0]) (z := [Vn 0, Vn 0, .string (⟨#[]⟩ : ByteArray), Vi 0, Vi 0]) (pl := [(0, 1), (1, 1), (2, 1), (3, 1), (4, 1)]) (by kernel_rfl) (by kernel_rfl) rfl (zm 2 rfl rfl rfl (zw rfl) rfl (zH rfl (zA ?_))))
   exact zN (zy (cs := [Vn 0, Vn 0, .string (⟨#[]⟩ : ByteArray), Vi 0, Vi 0]) (v := Vi 17) rfl rfl rfl (by kernel_rfl) (Own.rowCells (i := 2) rfl) (fun w' hw => ⟨LeaD.zero, 17, rfl, zIR c1, hw.sel [0, 1] rfl (by decide)⟩))
  ·
   refine zJ (zB (yN (cs := (LeaD.cells ((zf i kl).getD LeaD.zero))) 3 rfl rfl rfl (zm 2 rfl rfl rfl (zw rfl) rfl (zH rfl (zA ?_)))))
   exact zN (zy (cs := (LeaD.cells ((zf i kl).getD LeaD.zero))) (v := Vi 0) rfl rfl rfl (by kernel_rfl) (Own.rowCells (i := 2) rfl) (fun w' hw => ⟨(zf i kl).getD LeaD.zero, 0, rfl, zHS c1, hw.sel [0, 1] rfl (by decide)⟩))
theorem zK0 (a c : Int) (w : World) (ha : 0 ≤ a ∧ a ≤ 9223372036854775807) (hc : -9223372036854775808 ≤ c ∧ c ≤ 9223372036854775807) : Rets Tryz.prog 112 #[Vi a, Vi c] w fun u_ w' => ∃ (n e : Int), u_ = .tuple #[Vi n, Vi e] ∧ ((9223372036854775807 < a + c ∧ e = 3 ∧ n = 0) ∨ (a + c ≤ 9223372036854775807 ∧ e = 0 ∧ n = a + c)) ∧ Own w [] [] w' := by
  refine ze Tryz.func112 rfl Tryz.ntmps112 (Own.start w) ?_
  refine zB (zH rfl (zH rfl (zA (zL (zB (zC rfl (xF rfl rfl rfl (zC rfl (yD (q := 0 < c) 4 2 [12, 11, 10, 9] ((9223372036854775807 - c) < a) rfl rfl rfl rfl rfl rfl trivial rfl (fun h1_2 => ?_) (fun g1_7 => ?_))))))))))
  ·
   refine zR rfl (gT h1_2) (zC rfl (zR rfl (gT h1_2) (zC rfl (zR rfl (gT h1_2) (yJ rfl rfl (zh (by omega)) rfl (zR rfl (gT h1_2) (xF rfl rfl rfl ?_)))))))
   exact yH rfl (fun _ hw => hw)
  refine zC rfl (yk (q := (0 < c) ∧ ((9223372036854775807 - c) < a)) 8 8 [22, 21, 20, 19, 18, 17, 16, 15] ((c < 0) ∧ (a < ((-9223372036854775808) - c))) rfl rfl rfl rfl rfl rfl trivial rfl (fun h1_8 => ?_) (fun g1_17 => ?_))
  ·
   refine zR rfl (gF h1_8) (zC rfl (zR rfl (gF h1_8) (z9 rfl rfl rfl (zR rfl (gF h1_8) (zC rfl (yD (q := c < 0) 4 11 [21, 20, 19, 18] (a < ((-9223372036854775808) - c)) rfl rfl rfl rfl rfl rfl ⟨_, rfl, rfl, gF h1_8⟩ rfl (fun h1_11 => ?_) (fun g1_16 => ?_)))))))
   ·
    refine zR rfl (gT h1_11) (zC rfl (zR rfl (gT h1_11) (zC rfl (zR rfl (gT h1_11) (yJ rfl rfl (zh (by omega)) rfl (zR rfl (gT h1_11) (z9 rfl rfl rfl ?_)))))))
    exact yH rfl (fun _ hw => hw)
   exact yH rfl (fun _ hw => hw)
  refine zA (zV rfl (fun c1 => ?_) (fun c1 => ?_))
  ·
   refine zB (zH rfl (zH rfl (zA ?_)))
   exact zN (yo (v := Vi 0) (v' := Vi 3) rfl rfl rfl (fun w' hw => ⟨0, 3, rfl, .inl ⟨by omega, rfl, rfl⟩, hw.drop⟩))
  ·
   refine zJ (zB (zC rfl (zC rfl (zn rfl rfl (zh (by omega)) rfl (zH rfl (zH rfl (zA ?_)))))))
   exact zN (yo (v := Vi (a + c)) (v' := Vi 0) rfl rfl rfl (fun w' hw => ⟨a + c, 0, rfl, .inr ⟨by omega, rfl, rfl⟩, hw.drop⟩))
theorem zIQ (v : Value) (l : List Int) (w : World) (hl : l.length = 2) (h0 : 0 ≤ zG l 0 ∧ zG l 0 ≤ 9223372036854775807) (h1 : -9223372036854775808 ≤ zG l 1 ∧ zG l 1 ≤ 9223372036854775807) (hv : Rd w [] (Res.sl v l.length (l.flatMap I1))) : Rets Tryz.prog 107 #[v] w fun u_ w' => ∃ (n e : Int), u_ = .tuple #[Vi n, Vi e] ∧ ((9223372036854775807 < zG l 0 + zG l 1 ∧ e = 3 ∧ n = 0) ∨ (zG l 0 + zG l 1 ≤ 9223372036854775807 ∧ e = 0 ∧ n = zG l 0 + zG l 1)) ∧ Own w [] [] w' := by
  refine ze Tryz.func107 rfl Tryz.ntmps107 (Own.start w) ?_
  refine zB (zH rfl (zH rfl (zA (zB (zH rfl (zA (zL (zB (zC rfl (yY (pR hv) rfl rfl (zC rfl (zA ?_))))))))))))
  refine zW ?_
  refine xB (fun (k : Nat) (n : Int) => [(4, Vi n), (8, v), (9, Vj l.length), (10, Vj k)]) (fun (k : Nat) (n : Int) => k ≤ 2 ∧ ((k = 0 → n = 0) ∧ (k = 1 → n = zG l 0) ∧ (k = 2 → n = zG l 0 + zG l 1)) ∧ ((k < 2 → 0 ≤ n) ∧ n ≤ 9223372036854775807)) (fun (k : Nat) (n : Int) => []) (fun (k : Nat) (n : Int) => 2 - k) (fun w' hw => ⟨0, 0, ⟨rfl, rfl, rfl, rfl, trivial⟩, ⟨by omega, ⟨fun _ => rfl, by omega, by omega⟩, ⟨fun _ => by omega, by omega⟩⟩, hw⟩) (fun k n g hΦ => ?_)
  have hkl := hΦ.1
  have hkI := hΦ.2.1
  have hkn := hΦ.2.2
  refine zB (z9 rfl rfl rfl (zA (zL (zV rfl (fun c1 => ?_) (fun c1 => ?_)))))
  ·
   have hk2 : k < 2 := by omega
   have hkx : (k = 0 → zG l k = zG l 0) ∧ (k = 1 → zG l k = zG l 1) := ⟨fun h => by rw [h], fun h => by rw [h]⟩
   have hkb : -9223372036854775808 ≤ zG l k ∧ zG l k ≤ 9223372036854775807 := by rcases (show k = 0 ∨ k = 1 by omega) with h | h <;> rw [h] <;> omega
   refine zJ (zL (zW (zB (zF (pR hv) 1 k rfl rfl rfl (by omega) rfl (zP (pR hv) 1 k 0 (fun _ => rfl) rfl rfl (by omega) rfl rfl (zH rfl (zA (zB (zH rfl (zA (zB (zC rfl ?_))))))))))))
   refine zC rfl (zQ rfl rfl (fun w' hw => (zK0 n (zG l k) w' ⟨hkn.1 hk2, hkn.2⟩ hkb).mono ?_))
   rintro _ w1 ⟨n1_, e2_, rfl, hf6_2, hO⟩
   refine (?_ : CL _ _ _ _ _ _ (Own w [] [])) w1 (hw.frame0 hO)
   refine zC rfl (zr (vs := [Vi n1_, Vi e2_]) rfl rfl rfl (zr (vs := [Vi n1_, Vi e2_]) rfl rfl rfl (zH rfl (zH rfl (zA (zB (zC rfl (jK rfl rfl rfl (zA (zV rfl (fun c2 => ?_) (fun c2 => ?_)))))))))))
   ·
    refine zB (zC rfl (zH rfl (zH rfl (zA ?_))))
    exact zN (yo (v := Vi 0) (v' := Vi e2_) rfl rfl rfl (fun w' hw => ⟨0, e2_, rfl, .inl ⟨((zBq hk2 hkI hkx hf6_2 h0 h1).1 c2).1, ((zBq hk2 hkI hkx hf6_2 h0 h1).1 c2).2, rfl⟩, hw.drop⟩))
   ·
    refine zJ (zY (zn rfl rfl (zh (by omega)) rfl (zC rfl ?_)))
    exact zd (fun w' hw => ⟨k + 1, n1_, ⟨rfl, rfl, rfl, rfl, trivial⟩, ⟨by omega, (zBq hk2 hkI hkx hf6_2 h0 h1).2 c2⟩, hw, (by omega)⟩)
  ·
   refine yB rfl (zB (zC rfl (zH rfl (zH rfl (zA ?_)))))
   exact zN (yo (v := Vi n) (v' := Vi 0) rfl rfl rfl (fun w' hw => ⟨n, 0, rfl, .inr ⟨by have := hkI.2.2 (by omega); omega, rfl, hkI.2.2 (by omega)⟩, hw.drop⟩))
theorem zLe {S : List Nat} (b bm lm : Nat) (now : Int) (cnt : Nat) (kb : List (ByteArray × Int)) (kl : List (Nat × LeaD)) (k : ByteArray) (a : Int) (w : World) (hin : Own w S [Res.row b 126 [.map (some bm), .map (some lm), Vi now, Vn cnt], Res.mp Value.string yE bm kb, Res.mp yC zk lm kl] w) : Rets Tryz.prog 90 #[.pointer (some ⟨b, 0, none⟩), .string k, Vi a] w fun u_ w' => ∃ (n e : Int) (kb' : List (ByteArray × Int)), u_ = .tuple #[Vi n, Vi e] ∧ e = x4 k a kb ∧ kb' = zB5 k a kb ∧ (n = if e = 0 then yA k kl else 0) ∧ Own w S [Res.row b 126 [.map (some bm), .map (some lm), Vi now, Vn cnt], Res.mp Value.string yE bm kb', Res.mp yC zk lm kl] w' := by
  refine ze Tryz.func90 rfl Tryz.ntmps90 hin ?_
  refine zB (zH rfl (zH rfl (zA (zL (zB (zC rfl (xk (by kernel_rfl) rfl rfl rfl (zC rfl (zR rfl rfl (zC rfl (zR rfl rfl (zQ rfl rfl (fun w' hw => ?_)))))))))))))
  refine (zFB k w').mono ?_
  rintro _ w1 ⟨rfl, hO⟩
  refine (?_ : CL _ _ _ _ _ _ (Own w S [Res.row b 126 [.map (some bm), .map (some lm), Vi now, Vn cnt], Res.mp Value.string yE bm kb, Res.mp yC zk lm kl])) w1 (hw.frame0 hO)
  refine zR rfl rfl (xn (q := yW k) rfl rfl (ka rfl rfl (zC rfl (yk (q := ¬ (yW k)) 2 7 [19, 18] (a < 0) rfl rfl rfl rfl rfl rfl trivial rfl (fun h1_7 => ?_) (fun g1_10 => ?_)))))
  ·
   refine zR rfl (gF h1_7) (zC rfl (zR rfl (gF h1_7) (z9 rfl rfl rfl ?_)))
   exact yH rfl (fun _ hw => hw)
  refine zA (zV rfl (fun c1 => ?_) (fun c1 => ?_))
  ·
   refine zB (zH rfl (zH rfl (zA ?_)))
   exact zN (yo (v := Vi 0) (v' := Vi 1) rfl rfl rfl (fun w' hw => ⟨0, 1, kb, rfl, (zCO c1).symm, zDt (zCO c1) (by decide), rfl, hw⟩))
  ·
   refine zJ (zB (zC rfl (zt rfl rfl (zO (o := 0) rfl rfl (zU 0 (v := .map (some bm)) rfl rfl rfl rfl (zC rfl (zBi (k := k) (kv := kb) (zv := 0) zDS zCu zCE rfl rfl (fun w' hw' => Own.holds hw' 1 _ rfl) rfl (zC rfl (zr (vs := [Vi ((zf k kb).getD 0), .bool ((zf k kb).isSome)]) rfl rfl rfl (zr (vs := [Vi ((zf k kb).getD 0), .bool ((zf k kb).isSome)]) rfl rfl rfl (zH rfl (zH rfl ?_))))))))))))
   refine zA (zL (zW (zB (zC rfl (yV rfl rfl rfl (zH rfl (zA (zV rfl (fun c2 => ?_) (fun c2 => ?_)))))))))
   ·
    refine zY (zC rfl (zt rfl rfl (zO (o := 0) rfl rfl (zU 0 (v := .map (some bm)) rfl rfl rfl rfl (zC rfl (zDU 1 (k := k) zDS zCu rfl rfl rfl (zA (zB (zC rfl (zC rfl (zQ rfl rfl (fun w' hw => (j0 b bm lm now cnt kl k w' (hw.give [0, 2] rfl (by decide))).mono ?_))))))))))))
    rintro _ w1 ⟨n1_, rfl, hf9_2, hO⟩
    refine (?_ : CL _ _ _ _ _ _ (Own w S [Res.mp Value.string yE bm (kC k kb), Res.row b 126 [.map (some bm), .map (some lm), Vi now, Vn cnt], Res.mp yC zk lm kl])) w1 (hw.frameL [0, 2] rfl hO)
    refine zH rfl (zH rfl (zA ?_))
    exact zN (yo (v := Vi n1_) (v' := Vi 0) rfl rfl rfl (fun w' hw => ⟨n1_, 0, kC k kb, rfl, (zCB c1 c2).symm, zHs (zCB c1 c2) c2, hf9_2, hw.sel [1, 0, 2] rfl (by decide)⟩))
   ·
    refine zB (zC rfl (kz (b := (zf k kb).isSome) rfl rfl (zC rfl (yD (q := (!((zf k kb).isSome)) = true) 6 2 [53, 52, 51, 50, 49, 48] (64 ≤ ((kb.length : Nat) : Int)) rfl rfl (y3 _) rfl rfl rfl trivial rfl (fun h7_2 => ?_) (fun g7_9 => ?_)))))
    ·
     refine zR rfl (bT h7_2) (zC rfl (zR rfl (bT h7_2) (zt rfl rfl (zR rfl (bT h7_2) (zO (o := 0) rfl rfl (zR rfl (bT h7_2) (zU 0 (v := .map (some bm)) rfl rfl rfl rfl (zR rfl (bT h7_2) (zCs Value.string yE (kv := kb) zCu rfl (fun w' hw' => Own.holds hw' 1 _ rfl) rfl (zR rfl (bT h7_2) (yU rfl rfl rfl ?_)))))))))))
     exact yH rfl (fun _ hw => hw)
    refine zH rfl (zA (zV rfl (fun c3 => ?_) (fun c3 => ?_)))
    ·
     refine zB (zH rfl (zH rfl (zA ?_)))
     exact zN (yo (v := Vi 0) (v' := Vi 7) rfl rfl rfl (fun w' hw => ⟨0, 7, kb, rfl, (zBj c1 c2 c3).symm, zDt (zBj c1 c2 c3) (by decide), rfl, hw⟩))
    ·
     refine zY (zC rfl (zt rfl rfl (zO (o := 0) rfl rfl (zU 0 (v := .map (some bm)) rfl rfl rfl rfl (zC rfl (zC rfl (zAu 1 (k := k) (v := a) zDS zCu rfl rfl rfl rfl (zA (zB (zC rfl (zC rfl (zQ rfl rfl (fun w' hw => ?_)))))))))))))
     refine (j0 b bm lm now cnt kl k w' (hw.give [0, 2] rfl (by decide))).mono ?_
     rintro _ w1 ⟨n2_, rfl, hf9_2, hO⟩
     refine (?_ : CL _ _ _ _ _ _ (Own w S [Res.mp Value.string yE bm (y6 k a kb), Res.row b 126 [.map (some bm), .map (some lm), Vi now, Vn cnt], Res.mp yC zk lm kl])) w1 (hw.frameL [0, 2] rfl hO)
     refine zH rfl (zH rfl (zA ?_))
     exact zN (yo (v := Vi n2_) (v' := Vi 0) rfl rfl rfl (fun w' hw => ⟨n2_, 0, y6 k a kb, rfl, (zCQ c1 c3).symm, zGo (zCQ c1 c3) c2, hf9_2, hw.sel [1, 0, 2] rfl (by decide)⟩))
theorem zH9 {S : List Nat} (b bm lm : Nat) (now : Int) (cnt : Nat) (kb : List (ByteArray × Int)) (kl : List (Nat × LeaD)) (k : ByteArray) (w : World) (hin : Own w S [Res.row b 126 [.map (some bm), .map (some lm), Vi now, Vn cnt], Res.mp Value.string yE bm kb, Res.mp yC zk lm kl] w) : Rets Tryz.prog 68 #[.pointer (some ⟨b, 0, none⟩), .string k] w fun u_ w' => ∃ (n : Int), u_ = .tuple #[Vi ((zf k kb).getD 0), Vi n] ∧ n = yA k kl ∧ Own w S [Res.row b 126 [.map (some bm), .map (some lm), Vi now, Vn cnt], Res.mp Value.string yE bm kb, Res.mp yC zk lm kl] w' := by
  refine ze Tryz.func68 rfl Tryz.ntmps68 hin ?_
  refine zB (zH rfl (zH rfl (zA (zL (zB (zC rfl (xk (by kernel_rfl) rfl rfl rfl (zA (xt rfl (zJ (zL (zZ [1] rfl (by decide) (by kernel_rfl) (fun w' hw hS => ?_)))))))))))))
  refine zD 0 rfl (zK) hS (zD 1 rfl (zq rfl) hS (zD 2 rfl (zc (o := 0) rfl) hS (zD 4 rfl (zK) hS (zD 6 rfl (zK) hS (zD 7 rfl (zK) hS (za 3 8 ?_ ?_))))))
  ·
   refine zT 3 rfl hw (zU 0 (v := .map (some bm)) rfl rfl rfl rfl (zE [1] rfl (by decide) (fun w' hw hS => zD 5 rfl (zEs (k := k) (kv := kb) (zv := 0) zDS zCu zCE rfl rfl (fun w' hw' => Own.holds hw' 0 _ rfl)) hS (zX 8 rfl hw (zQ rfl rfl (fun w' hw => (j0 b bm lm now cnt kl k w' (hw.give [0, 2] rfl (by decide))).mono ?_))))))
   rintro _ w1 ⟨n1_, rfl, hf3_8, hO⟩
   refine (?_ : CL _ _ _ _ _ _ (Own w S [Res.mp Value.string yE bm kb, Res.row b 126 [.map (some bm), .map (some lm), Vi now, Vn cnt], Res.mp yC zk lm kl])) w1 (hw.frameL [0, 2] rfl hO)
   refine zE [0] rfl (by decide) (fun w' hw hS => zD 9 rfl (y8) hS (zD 10 rfl (y8) hS (zM ?_)))
   refine (?_ : C _ _ _ _ _ _ _ (Own w S [Res.mp Value.string yE bm kb, Res.row b 126 [.map (some bm), .map (some lm), Vi now, Vn cnt], Res.mp yC zk lm kl])) _ hw
   exact zN (yo (v := Vi ((zf k kb).getD 0)) (v' := Vi n1_) rfl rfl rfl (fun w' hw => ⟨n1_, rfl, hf3_8, hw.sel [1, 0, 2] rfl (by decide)⟩))
  ·
   refine zT 8 rfl hw (zQ rfl rfl (fun w' hw => (j0 b bm lm now cnt kl k w' (hw.give [0, 2] rfl (by decide))).mono ?_))
   rintro _ w1 ⟨n2_, rfl, hf3_8, hO⟩
   refine (?_ : CL _ _ _ _ _ _ (Own w S [Res.mp Value.string yE bm kb, Res.row b 126 [.map (some bm), .map (some lm), Vi now, Vn cnt], Res.mp yC zk lm kl])) w1 (hw.frameL [0, 2] rfl hO)
   refine zE [0] rfl (by decide) (fun w' hw hS => zX 3 rfl hw (zU 1 (v := .map (some bm)) rfl rfl rfl rfl (zE [0] rfl (by decide) (fun w' hw hS => zD 5 rfl (zEs (k := k) (kv := kb) (zv := 0) zDS zCu zCE rfl rfl (fun w' hw' => Own.holds hw' 0 _ rfl)) hS (zD 9 rfl (y8) hS (zD 10 rfl (y8) hS (zM ?_)))))))
   refine (?_ : C _ _ _ _ _ _ _ (Own w S [Res.mp Value.string yE bm kb, Res.row b 126 [.map (some bm), .map (some lm), Vi now, Vn cnt], Res.mp yC zk lm kl])) _ hw
   exact zN (yo (v := Vi ((zf k kb).getD 0)) (v' := Vi n2_) rfl rfl rfl (fun w' hw => ⟨n2_, rfl, hf3_8, hw.sel [1, 0, 2] rfl (by decide)⟩))
theorem zKv (w : World) : Rets Tryz.prog 46 #[] w fun u_ w' => ∃ (b bm lm : Nat), u_ = .pointer (some ⟨b, 0, none⟩) ∧ Own w [] [Res.row b 126 [.map (some bm), .map (some lm), Vi 0, Vn 0], Res.mp Value.string yE bm ([] : List (ByteArray × Int)), Res.mp yC zk lm ([] : List (Nat × LeaD))] w' := by
  refine ze Tryz.func46 rfl Tryz.ntmps46 (Own.start w) ?_
  refine zB (zH rfl (zA (zB (zAo (α := Int) Value.string yE rfl rfl (fun m1 => zAo (α := LeaD) yC zk rfl rfl (fun m2 => z8 (cs := [.map (some m1), .map (some m2), Vi 0, Vn 0]) (z := [.map none, .map none, Vi 0, Vn 0]) (pl := [(0, 1), (1, 1), (2, 1), (3, 1)]) (by kernel_rfl) (by kernel_rfl) rfl (yj rfl rfl (fun b4 => zH rfl (zA ?_)))))))))
  exact zN (z4 (v := .pointer (some ⟨b4, 0, none⟩)) rfl rfl (fun w' hw => ⟨b4, m1, m2, rfl, hw.sel [2, 0, 1] rfl (by decide)⟩))
theorem zKZ {S : List Nat} (b bm lm : Nat) (now : Int) (cnt : Nat) (kb : List (ByteArray × Int)) (kl : List (Nat × LeaD)) (s : Nat) (k : ByteArray) (a sp : Int) (w : World) (hlen : 0 ≤ yA k kl ∧ yA k kl ≤ 9223372036854775807) (ha : yx a) (ht : 0 ≤ now ∧ now ≤ 2305843009213693952) (hc : cnt ≤ 1000000000) (hin : Own w S [Res.row b 126 [.map (some bm), .map (some lm), Vi now, Vn cnt], Res.mp Value.string yE bm kb, Res.mp yC zk lm kl] w) : Rets Tryz.prog 92 #[.pointer (some ⟨b, 0, none⟩), Vn s, .string k, Vi a, Vi sp] w fun u_ w' => ∃ (x : LeaD) (e : Int) (cnt' : Nat) (kl' : List (Nat × LeaD)), u_ = .tuple #[.agg (LeaD.cells x).toArray, Vi e] ∧ e = xV s k a sp kb kl ∧ x = kL e cnt s k a (now + sp) ∧ cnt' = zAU e cnt ∧ kl' = zFJ e x kl ∧ Own w S [Res.row b 126 [.map (some bm), .map (some lm), Vi now, Vn cnt'], Res.mp Value.string yE bm kb, Res.mp yC zk lm kl'] w' := by
  refine ze Tryz.func92 rfl Tryz.ntmps92 hin ?_
  refine zB (yG (v := .agg #[Vn 0, Vn 0, .string (⟨#[]⟩ : ByteArray), Vi 0, Vi 0]) (by kernel_rfl) rfl (fun b10 => zH rfl (zA (zL (zB (zC rfl (xk (by kernel_rfl) rfl rfl rfl (zC rfl (zR rfl rfl (zC rfl (zR rfl rfl (yV rfl rfl rfl ?_))))))))))))
  refine ka rfl rfl (zC rfl (yk (q := ((s : Nat) : Int) = ((0 : Nat) : Int)) 3 6 [26, 25, 24] (¬ (yW k)) rfl rfl rfl rfl rfl rfl trivial rfl (fun h1_6 => ?_) (fun g1_10 => ?_)))
  ·
   refine zR rfl (gF h1_6) (zC rfl (zR rfl (gF h1_6) (zQ rfl rfl (fun w' hw => (zFB k w').mono ?_))))
   rintro _ w1 ⟨rfl, hO⟩
   refine (?_ : CL _ _ _ _ _ _ (Own w S [Res.row b 126 [.map (some bm), .map (some lm), Vi now, Vn cnt], Res.mp Value.string yE bm kb, Res.mp yC zk lm kl, Res.row b10 77 [Vn 0, Vn 0, .string (⟨#[]⟩ : ByteArray), Vi 0, Vi 0]])) w1 (hw.frame0 hO)
   refine zR rfl (gF h1_6) (xn (q := yW k) rfl rfl ?_)
   exact yH rfl (fun _ hw => hw)
  refine zC rfl (yk (q := (((s : Nat) : Int) = ((0 : Nat) : Int)) ∨ (¬ (yW k))) 2 11 [30, 29] (a < 1) rfl rfl rfl rfl rfl rfl trivial rfl (fun h1_11 => ?_) (fun g1_14 => ?_))
  ·
   refine zR rfl (gF h1_11) (zC rfl (zR rfl (gF h1_11) (z9 rfl rfl rfl ?_)))
   exact yH rfl (fun _ hw => hw)
  refine zC rfl (yk (q := ((((s : Nat) : Int) = ((0 : Nat) : Int)) ∨ (¬ (yW k))) ∨ (a < 1)) 3 15 [35, 34, 33] (¬ (yM sp)) rfl rfl rfl rfl rfl rfl trivial rfl (fun h1_15 => ?_) (fun g1_19 => ?_))
  ·
   refine zR rfl (gF h1_15) (zC rfl (zR rfl (gF h1_15) (zQ rfl rfl (fun w' hw => (zHD sp w').mono ?_))))
   rintro _ w1 ⟨rfl, hO⟩
   refine (?_ : CL _ _ _ _ _ _ (Own w S [Res.row b 126 [.map (some bm), .map (some lm), Vi now, Vn cnt], Res.mp Value.string yE bm kb, Res.mp yC zk lm kl, Res.row b10 77 [Vn 0, Vn 0, .string (⟨#[]⟩ : ByteArray), Vi 0, Vi 0]])) w1 (hw.frame0 hO)
   refine zR rfl (gF h1_15) (xn (q := yM sp) rfl rfl ?_)
   exact yH rfl (fun _ hw => hw)
  refine zA (zV rfl (fun c1 => ?_) (fun c1 => ?_))
  ·
   refine zB (z8 (cs := [Vn 0, Vn 0, .string (⟨#[]⟩ : ByteArray), Vi 0, Vi 0]) (z := [Vn 0, Vn 0, .string (⟨#[]⟩ : ByteArray), Vi 0, Vi 0]) (pl := [(0, 1), (1, 1), (2, 1), (3, 1), (4, 1)]) (by kernel_rfl) (by kernel_rfl) rfl (zm 3 rfl rfl rfl (zw rfl) rfl (zH rfl (zA ?_))))
   exact zN (zy (cs := [Vn 0, Vn 0, .string (⟨#[]⟩ : ByteArray), Vi 0, Vi 0]) (v := Vi 1) rfl rfl rfl (by kernel_rfl) (Own.rowCells (i := 3) rfl) (fun w' hw => ⟨LeaD.zero, 1, cnt, kl, rfl, (zJb (larg.1 c1)).symm, rfl, rfl, rfl, hw.sel [0, 1, 2] rfl (by decide)⟩))
  ·
   have hla : ¬ yb s k a sp := fun q => c1 (larg.2 q)
   have hsp : yM sp := Decidable.by_contra fun q => c1 (.inr q)
   have ha1 : 1 ≤ a := Int.not_lt.1 fun q => c1 (.inl (.inr q))
   unfold yM at hsp
   refine zJ (zB (zC rfl (zt rfl rfl (zO (o := 0) rfl rfl (zU 0 (v := .map (some bm)) rfl rfl rfl rfl (zC rfl (zBi (k := k) (kv := kb) (zv := 0) zDS zCu zCE rfl rfl (fun w' hw' => Own.holds hw' 1 _ rfl) rfl (zC rfl (zr (vs := [Vi ((zf k kb).getD 0), .bool ((zf k kb).isSome)]) rfl rfl rfl (zr (vs := [Vi ((zf k kb).getD 0), .bool ((zf k kb).isSome)]) rfl rfl rfl (zH rfl (zH rfl ?_))))))))))))
   refine zA (zL (zB (zC rfl (kz (b := (zf k kb).isSome) rfl rfl (zA (jm rfl (fun c2 => ?_) (fun c2 => ?_)))))))
   ·
    refine zB (z8 (cs := [Vn 0, Vn 0, .string (⟨#[]⟩ : ByteArray), Vi 0, Vi 0]) (z := [Vn 0, Vn 0, .string (⟨#[]⟩ : ByteArray), Vi 0, Vi 0]) (pl := [(0, 1), (1, 1), (2, 1), (3, 1), (4, 1)]) (by kernel_rfl) (by kernel_rfl) rfl (zm 3 rfl rfl rfl (zw rfl) rfl (zH rfl (zA ?_))))
    exact zN (zy (cs := [Vn 0, Vn 0, .string (⟨#[]⟩ : ByteArray), Vi 0, Vi 0]) (v := Vi 8) rfl rfl rfl (by kernel_rfl) (Own.rowCells (i := 3) rfl) (fun w' hw => ⟨LeaD.zero, 8, cnt, kl, rfl, (zK9 hla c2).symm, rfl, rfl, rfl, hw.sel [0, 1, 2] rfl (by decide)⟩))
   ·
    have hc2 : ¬ (!(zf k kb).isSome) = true := by rw [c2]; decide
    refine zJ (zB (zC rfl (zC rfl (zQ rfl rfl (fun w' hw => (j0 b bm lm now cnt kl k w' (hw.give [0, 2] rfl (by decide))).mono ?_)))))
    rintro _ w1 ⟨n1_, rfl, hf6_2, hO⟩
    refine (?_ : CL _ _ _ _ _ _ (Own w S [Res.mp Value.string yE bm kb, Res.row b10 77 [Vn 0, Vn 0, .string (⟨#[]⟩ : ByteArray), Vi 0, Vi 0], Res.row b 126 [.map (some bm), .map (some lm), Vi now, Vn cnt], Res.mp yC zk lm kl])) w1 (hw.frameL [0, 2] rfl hO)
    refine zC rfl (yh (e := 2) (sz := 1) (vs := [Vi n1_, Vi a]) (by kernel_rfl) rfl rfl (by simp [Value.cells]) (by decide) rfl (fun b55 => zQ rfl rfl (fun w' hw => (zIQ (.slice (some ⟨b55, 0, none⟩) 2 2) [n1_, a] w' rfl (by show 0 ≤ n1_ ∧ n1_ ≤ _; rw [hf6_2]; exact hlen) (by show _ ≤ a ∧ a ≤ _; exact ⟨by omega, ha.2⟩) (hw.rdVec0 4 rfl)).mono ?_)))
    rintro _ w1 ⟨n2_, e3_, rfl, hf6_5, hO⟩
    have hsum := zGW hf6_5 hf6_2
    refine (?_ : CL _ _ _ _ _ _ (Own w S [Res.mp Value.string yE bm kb, Res.row b10 77 [Vn 0, Vn 0, .string (⟨#[]⟩ : ByteArray), Vi 0, Vi 0], Res.row b 126 [.map (some bm), .map (some lm), Vi now, Vn cnt], Res.mp yC zk lm kl, Res.vec 2 1 (.slice (some ⟨b55, 0, none⟩) 2 2) [n1_, a].length ([n1_, a].flatMap I1)])) w1 (hw.frame0 hO)
    refine zC rfl (zr (vs := [Vi n2_, Vi e3_]) rfl rfl rfl (zr (vs := [Vi n2_, Vi e3_]) rfl rfl rfl (zH rfl (zH rfl (zA (zL (zW (zB (zC rfl (jK rfl rfl rfl (zH rfl (zA ?_))))))))))))
    refine zV rfl (fun c3 => ?_) (fun c3 => ?_)
    ·
     refine zB (z8 (cs := [Vn 0, Vn 0, .string (⟨#[]⟩ : ByteArray), Vi 0, Vi 0]) (z := [Vn 0, Vn 0, .string (⟨#[]⟩ : ByteArray), Vi 0, Vi 0]) (pl := [(0, 1), (1, 1), (2, 1), (3, 1), (4, 1)]) (by kernel_rfl) (by kernel_rfl) rfl (zC rfl (zm 1 rfl rfl rfl (zw rfl) rfl (zH rfl (zA ?_)))))
     exact zN (zy (cs := [Vn 0, Vn 0, .string (⟨#[]⟩ : ByteArray), Vi 0, Vi 0]) (v := Vi e3_) rfl rfl rfl (by kernel_rfl) (Own.rowCells (i := 1) rfl) (fun w' hw => ⟨LeaD.zero, e3_, cnt, kl, rfl, (by rw [(jY hsum c3).2]; exact (zKr hla hc2 (jY hsum c3).1).symm), (by rw [(jY hsum c3).2]; rfl), (by rw [(jY hsum c3).2]; rfl), (by rw [(jY hsum c3).2]; rfl), hw.sel [2, 0, 3] rfl (by decide)⟩))
    ·
     refine zB (zC rfl (zC rfl (xF rfl rfl rfl (zH rfl (zA (zV rfl (fun c4 => ?_) (fun c4 => ?_)))))))
     ·
      refine zB (z8 (cs := [Vn 0, Vn 0, .string (⟨#[]⟩ : ByteArray), Vi 0, Vi 0]) (z := [Vn 0, Vn 0, .string (⟨#[]⟩ : ByteArray), Vi 0, Vi 0]) (pl := [(0, 1), (1, 1), (2, 1), (3, 1), (4, 1)]) (by kernel_rfl) (by kernel_rfl) rfl (zm 1 rfl rfl rfl (zw rfl) rfl (zH rfl (zA ?_))))
      exact zN (zy (cs := [Vn 0, Vn 0, .string (⟨#[]⟩ : ByteArray), Vi 0, Vi 0]) (v := Vi 16) rfl rfl rfl (by kernel_rfl) (Own.rowCells (i := 1) rfl) (fun w' hw => ⟨LeaD.zero, 16, cnt, kl, rfl, (zKH hla hc2 (ko hsum c3).1 (by rw [← (ko hsum c3).2]; exact c4)).symm, rfl, rfl, rfl, hw.sel [2, 0, 3] rfl (by decide)⟩))
     ·
      refine zB (zC rfl (zt rfl rfl (zO (o := 1) rfl rfl (zU 2 (v := .map (some lm)) rfl rfl rfl rfl (zCs yC zk (kv := kl) zCq rfl (fun w' hw' => Own.holds hw' 3 _ rfl) rfl (yU rfl rfl rfl (zH rfl (zA (zV rfl (fun c5 => ?_) (fun c5 => ?_))))))))))
      ·
       refine zB (z8 (cs := [Vn 0, Vn 0, .string (⟨#[]⟩ : ByteArray), Vi 0, Vi 0]) (z := [Vn 0, Vn 0, .string (⟨#[]⟩ : ByteArray), Vi 0, Vi 0]) (pl := [(0, 1), (1, 1), (2, 1), (3, 1), (4, 1)]) (by kernel_rfl) (by kernel_rfl) rfl (zm 1 rfl rfl rfl (zw rfl) rfl (zH rfl (zA ?_))))
       exact zN (zy (cs := [Vn 0, Vn 0, .string (⟨#[]⟩ : ByteArray), Vi 0, Vi 0]) (v := Vi 7) rfl rfl rfl (by kernel_rfl) (Own.rowCells (i := 1) rfl) (fun w' hw => ⟨LeaD.zero, 7, cnt, kl, rfl, (zK5 hla hc2 (ko hsum c3).1 (by rw [← (ko hsum c3).2]; exact c4) c5).symm, rfl, rfl, rfl, hw.sel [2, 0, 3] rfl (by decide)⟩))
      ·
       refine zJ (zB (zC rfl (zt rfl rfl (zO (o := 3) rfl rfl (zU 2 (v := Vn cnt) rfl rfl rfl rfl (zn rfl rfl (zAt (by omega)) rfl (zt rfl rfl (zO (o := 3) rfl rfl (yn (cs := [.map (some bm), .map (some lm), Vi now, Vn cnt]) 2 rfl rfl rfl rfl rfl (zA (zL (zZ [0, 1, 2, 3, 4] rfl (by decide) (by kernel_rfl) (fun w' hw hS => ?_)))))))))))))
       refine zD 0 rfl (zK) hS (zD 1 rfl (zq rfl) hS (zD 2 rfl (zc (o := 3) rfl) hS (zD 3 rfl (zl 2 (v := Vn (cnt + 1)) rfl rfl rfl) hS (zD 4 rfl (zK) hS (zD 5 rfl (zK) hS (zD 6 rfl (zK) hS (zD 7 rfl (zK) hS (zD 8 rfl (zq rfl) hS (zD 9 rfl (zc (o := 2) rfl) hS (zD 10 rfl (zl 2 (v := Vi now) rfl rfl rfl) hS (zD 11 rfl (zK) hS (zD 12 rfl (yz rfl rfl (zh (by omega))) hS ?_))))))))))))
       refine zD 13 rfl (kw (cs := [Vn (cnt + 1), Vn s, .string k, Vi a, Vi (now + sp)]) (z := [Vn 0, Vn 0, .string (⟨#[]⟩ : ByteArray), Vi 0, Vi 0]) (pl := [(0, 1), (1, 1), (2, 1), (3, 1), (4, 1)]) (by kernel_rfl) (by kernel_rfl)) hS (zX 14 rfl hw (yG (v := .agg #[Vn 0, Vn 0, .string (⟨#[]⟩ : ByteArray), Vi 0, Vi 0]) (by kernel_rfl) rfl (fun b16 => zE [0, 1, 2, 3, 4] rfl (by decide) (fun w' hw hS => zX 15 rfl hw (zm 5 rfl rfl rfl (zw rfl) rfl (zE [0, 1, 2, 3, 4] rfl (by decide) (fun w' hw hS => zM ?_)))))))
       refine (?_ : C _ _ _ _ _ _ _ (Own w S [Res.mp Value.string yE bm kb, Res.row b10 77 [Vn 0, Vn 0, .string (⟨#[]⟩ : ByteArray), Vi 0, Vi 0], Res.row b 126 [.map (some bm), .map (some lm), Vi now, Vn (cnt + 1)], Res.mp yC zk lm kl, Res.vec 2 1 (.slice (some ⟨b55, 0, none⟩) 2 2) [n1_, a].length ([n1_, a].flatMap I1), Res.row b16 77 [Vn (cnt + 1), Vn s, .string k, Vi a, Vi (now + sp)]])) _ hw
       refine zL (zZ [0, 1, 2, 4, 5] rfl (by decide) (by kernel_rfl) (fun w' hw hS => zD 0 rfl (zK) hS (zD 1 rfl (zq rfl) hS (zD 2 rfl (zc (o := 1) rfl) hS (zD 3 rfl (zl 2 (v := .map (some lm)) rfl rfl rfl) hS (zD 4 rfl (zc (o := 0) rfl) hS (zD 5 rfl (zl 4 (v := Vn (cnt + 1)) rfl rfl rfl) hS (zD 6 rfl (xh (cs := [Vn (cnt + 1), Vn s, .string k, Vi a, Vi (now + sp)]) 4 rfl rfl) hS (zX 7 rfl hw (zAu 3 (k := cnt + 1) (v := ({ id := cnt + 1, session := s, key := k, amount := a, until_ := now + sp } : LeaD)) zF5 zCq rfl rfl rfl rfl (zE [0, 1, 2, 4, 5] rfl (by decide) (fun w' hw hS => zM ?_))))))))))))
       refine (?_ : C _ _ _ _ _ _ _ (Own w S [Res.mp Value.string yE bm kb, Res.row b10 77 [Vn 0, Vn 0, .string (⟨#[]⟩ : ByteArray), Vi 0, Vi 0], Res.row b 126 [.map (some bm), .map (some lm), Vi now, Vn (cnt + 1)], Res.mp yC zk lm (y6 (cnt + 1) ({ id := cnt + 1, session := s, key := k, amount := a, until_ := now + sp } : LeaD) kl), Res.vec 2 1 (.slice (some ⟨b55, 0, none⟩) 2 2) [n1_, a].length ([n1_, a].flatMap I1), Res.row b16 77 [Vn (cnt + 1), Vn s, .string k, Vi a, Vi (now + sp)]])) _ hw
       refine zB (yN (cs := [Vn (cnt + 1), Vn s, .string k, Vi a, Vi (now + sp)]) 5 rfl rfl rfl (zm 1 rfl rfl rfl (zw rfl) rfl (zH rfl (zA ?_))))
       exact zN (zy (cs := [Vn (cnt + 1), Vn s, .string k, Vi a, Vi (now + sp)]) (v := Vi 0) rfl rfl rfl (by kernel_rfl) (Own.rowCells (i := 1) rfl) (fun w' hw => ⟨⟨cnt + 1, s, k, a, now + sp⟩, 0, cnt + 1, y6 (cnt + 1) ⟨cnt + 1, s, k, a, now + sp⟩ kl, rfl, (zLS hla hc2 (ko hsum c3).1 (by rw [← (ko hsum c3).2]; exact c4) c5).symm, rfl, rfl, rfl, hw.sel [2, 0, 3] rfl (by decide)⟩))
theorem zIk {S : List Nat} (b bm lm : Nat) (now : Int) (cnt : Nat) (kb : List (ByteArray × Int)) (kl : List (Nat × LeaD)) (s i : Nat) (sp : Int) (w : World) (ht : 0 ≤ now ∧ now ≤ 2305843009213693952) (hin : Own w S [Res.row b 126 [.map (some bm), .map (some lm), Vi now, Vn cnt], Res.mp Value.string yE bm kb, Res.mp yC zk lm kl] w) : Rets Tryz.prog 93 #[.pointer (some ⟨b, 0, none⟩), Vn s, Vn i, Vi sp] w fun u_ w' => ∃ (x : LeaD) (e : Int) (kl' : List (Nat × LeaD)), u_ = .tuple #[.agg (LeaD.cells x).toArray, Vi e] ∧ zAv now kb kl s i sp x e kl' ∧ Own w S [Res.row b 126 [.map (some bm), .map (some lm), Vi now, Vn cnt], Res.mp Value.string yE bm kb, Res.mp yC zk lm kl'] w' := by
  refine ze Tryz.func93 rfl Tryz.ntmps93 hin ?_
  refine zB (yG (v := .agg #[Vn 0, Vn 0, .string (⟨#[]⟩ : ByteArray), Vi 0, Vi 0]) (by kernel_rfl) rfl (fun b8 => zH rfl (zA (zL (zB (zC rfl (xk (by kernel_rfl) rfl rfl rfl (zC rfl (zR rfl rfl (zC rfl (zR rfl rfl (zQ rfl rfl (fun w' hw => ?_)))))))))))))
  refine (zHD sp w').mono ?_
  rintro _ w1 ⟨rfl, hO⟩
  refine (?_ : CL _ _ _ _ _ _ (Own w S [Res.row b 126 [.map (some bm), .map (some lm), Vi now, Vn cnt], Res.mp Value.string yE bm kb, Res.mp yC zk lm kl, Res.row b8 77 [Vn 0, Vn 0, .string (⟨#[]⟩ : ByteArray), Vi 0, Vi 0]])) w1 (hw.frame0 hO)
  refine zR rfl rfl (xn (q := yM sp) rfl rfl (ka rfl rfl (zA (zV rfl (fun c1 => ?_) (fun c1 => ?_)))))
  ·
   refine zB (z8 (cs := [Vn 0, Vn 0, .string (⟨#[]⟩ : ByteArray), Vi 0, Vi 0]) (z := [Vn 0, Vn 0, .string (⟨#[]⟩ : ByteArray), Vi 0, Vi 0]) (pl := [(0, 1), (1, 1), (2, 1), (3, 1), (4, 1)]) (by kernel_rfl) (by kernel_rfl) rfl (zm 3 rfl rfl rfl (zw rfl) rfl (zH rfl (zA ?_))))
   exact zN (zy (cs := [Vn 0, Vn 0, .string (⟨#[]⟩ : ByteArray), Vi 0, Vi 0]) (v := Vi 1) rfl rfl rfl (by kernel_rfl) (Own.rowCells (i := 3) rfl) (fun w' hw => ⟨LeaD.zero, 1, kl, rfl, .inl ⟨c1, rfl, rfl, rfl⟩, hw.sel [0, 1, 2] rfl (by decide)⟩))
  ·
   have hsp : 1 ≤ sp ∧ sp ≤ 1099511627776 := Decidable.not_not.1 c1
   refine zJ (zB (zC rfl (zC rfl (zC rfl (zQ rfl rfl (fun w' hw => (zGe b bm lm now cnt kl s i w' (hw.give [0, 2] rfl (by decide))).mono ?_))))))
   rintro _ w1 ⟨x1_, e2_, rfl, hf3_3, hO⟩
   refine (?_ : CL _ _ _ _ _ _ (Own w S [Res.mp Value.string yE bm kb, Res.row b8 77 [Vn 0, Vn 0, .string (⟨#[]⟩ : ByteArray), Vi 0, Vi 0], Res.row b 126 [.map (some bm), .map (some lm), Vi now, Vn cnt], Res.mp yC zk lm kl])) w1 (hw.frameL [0, 2] rfl hO)
   refine zC rfl (zr (vs := [.agg (LeaD.cells x1_).toArray, Vi e2_]) rfl rfl rfl (zr (vs := [.agg (LeaD.cells x1_).toArray, Vi e2_]) rfl rfl rfl (yG (v := .agg #[Vn 0, Vn 0, .string (⟨#[]⟩ : ByteArray), Vi 0, Vi 0]) (by kernel_rfl) rfl (fun b10 => zm 4 rfl rfl rfl (zw rfl) rfl (zH rfl (zA (zL (zW (zB (zC rfl (jK rfl rfl rfl (zH rfl ?_))))))))))))
   refine zA (zV rfl (fun c2 => ?_) (fun c2 => ?_))
   ·
    refine zB (z8 (cs := [Vn 0, Vn 0, .string (⟨#[]⟩ : ByteArray), Vi 0, Vi 0]) (z := [Vn 0, Vn 0, .string (⟨#[]⟩ : ByteArray), Vi 0, Vi 0]) (pl := [(0, 1), (1, 1), (2, 1), (3, 1), (4, 1)]) (by kernel_rfl) (by kernel_rfl) rfl (zC rfl (zm 1 rfl rfl rfl (zw rfl) rfl (zH rfl (zA ?_)))))
    exact zN (zy (cs := [Vn 0, Vn 0, .string (⟨#[]⟩ : ByteArray), Vi 0, Vi 0]) (v := Vi e2_) rfl rfl rfl (by kernel_rfl) (Own.rowCells (i := 1) rfl) (fun w' hw => ⟨LeaD.zero, e2_, kl, rfl, zFO c1 hf3_3 c2, hw.sel [2, 0, 3] rfl (by decide)⟩))
   ·
    refine zL (zZ [0, 1, 4] rfl (by decide) (by kernel_rfl) (fun w' hw hS => zD 0 rfl (zK) hS (zD 1 rfl (zc (o := 2) rfl) hS (zD 2 rfl (zl 2 (v := .string x1_.key) rfl rfl rfl) hS (zD 4 rfl (zK) hS (zD 5 rfl (zq rfl) hS (zD 6 rfl (zc (o := 0) rfl) hS (zD 8 rfl (zc (o := 2) rfl) hS (zD 9 rfl (zl 2 (v := .string x1_.key) rfl rfl rfl) hS (za 3 7 ?_ ?_))))))))))
    ·
     refine zT 3 rfl hw (zQ rfl rfl (fun w' hw => (j0 b bm lm now cnt kl x1_.key w' (hw.give [2, 3] rfl (by decide))).mono ?_))
     rintro _ w1 ⟨n3_, rfl, hf6_3, hO⟩
     refine (?_ : CL _ _ _ _ _ _ (Own w S [Res.mp Value.string yE bm kb, Res.row b8 77 [Vn 0, Vn 0, .string (⟨#[]⟩ : ByteArray), Vi 0, Vi 0], Res.row b10 77 (LeaD.cells x1_), Res.row b 126 [.map (some bm), .map (some lm), Vi now, Vn cnt], Res.mp yC zk lm kl])) w1 (hw.frameL [2, 3] rfl hO)
     refine zE [0, 1, 2] rfl (by decide) (fun w' hw hS => zX 7 rfl hw (zU 3 (v := .map (some bm)) rfl rfl rfl rfl (zE [0, 1, 2] rfl (by decide) (fun w' hw hS => zD 10 rfl (zEs (k := x1_.key) (kv := kb) (zv := 0) zDS zCu zCE rfl rfl (fun w' hw' => Own.holds hw' 0 _ rfl)) hS (zD 11 rfl (zDV rfl rfl) hS (zD 12 rfl (y8) hS (zM ?_)))))))
     refine (?_ : C _ _ _ _ _ _ _ (Own w S [Res.mp Value.string yE bm kb, Res.row b8 77 [Vn 0, Vn 0, .string (⟨#[]⟩ : ByteArray), Vi 0, Vi 0], Res.row b10 77 (LeaD.cells x1_), Res.row b 126 [.map (some bm), .map (some lm), Vi now, Vn cnt], Res.mp yC zk lm kl])) _ hw
     refine zV rfl (fun c3 => ?_) (fun c3 => ?_)
     ·
      refine zB (z8 (cs := [Vn 0, Vn 0, .string (⟨#[]⟩ : ByteArray), Vi 0, Vi 0]) (z := [Vn 0, Vn 0, .string (⟨#[]⟩ : ByteArray), Vi 0, Vi 0]) (pl := [(0, 1), (1, 1), (2, 1), (3, 1), (4, 1)]) (by kernel_rfl) (by kernel_rfl) rfl (zm 1 rfl rfl rfl (zw rfl) rfl (zH rfl (zA ?_))))
      exact zN (zy (cs := [Vn 0, Vn 0, .string (⟨#[]⟩ : ByteArray), Vi 0, Vi 0]) (v := Vi 16) rfl rfl rfl (by kernel_rfl) (Own.rowCells (i := 1) rfl) (fun w' hw => ⟨LeaD.zero, 16, kl, rfl, zDK c1 hf3_3 c2 hf6_3 c3, hw.sel [3, 0, 4] rfl (by decide)⟩))
     ·
      refine zJ (zL (zZ [0, 1, 3, 4] rfl (by decide) (by kernel_rfl) (fun w' hw hS => zD 0 rfl (zc (o := 4) rfl) hS (zD 2 rfl (zK) hS (zD 3 rfl (zq rfl) hS (zD 4 rfl (zc (o := 2) rfl) hS (zD 5 rfl (zl 2 (v := Vi now) rfl rfl rfl) hS (zD 6 rfl (zK) hS (zD 7 rfl (yz rfl rfl (zh (by omega))) hS (zX 1 rfl hw (zU 2 (v := Vi x1_.until_) rfl rfl rfl rfl (zE [0, 1, 3, 4] rfl (by decide) (fun w' hw hS => ?_)))))))))))))
      refine zD 8 rfl (zJW (c := max x1_.until_ (now + sp)) rfl rfl (zLD _ _)) hS (zD 9 rfl (zc (o := 4) rfl) hS (zX 10 rfl hw (yn (cs := (LeaD.cells x1_)) 2 rfl rfl rfl rfl rfl (zE [0, 1, 3, 4] rfl (by decide) (fun w' hw hS => zM ?_)))))
      refine (?_ : C _ _ _ _ _ _ _ (Own w S [Res.mp Value.string yE bm kb, Res.row b8 77 [Vn 0, Vn 0, .string (⟨#[]⟩ : ByteArray), Vi 0, Vi 0], Res.row b10 77 [Vn x1_.id, Vn x1_.session, .string x1_.key, Vi x1_.amount, Vi (max x1_.until_ (now + sp))], Res.row b 126 [.map (some bm), .map (some lm), Vi now, Vn cnt], Res.mp yC zk lm kl])) _ hw
      refine zL (zZ [0, 1, 2, 3] rfl (by decide) (by kernel_rfl) (fun w' hw hS => zD 0 rfl (zK) hS (zD 1 rfl (zq rfl) hS (zD 2 rfl (zc (o := 1) rfl) hS (zD 3 rfl (zl 3 (v := .map (some lm)) rfl rfl rfl) hS (zD 4 rfl (zK) hS (zD 5 rfl (xh 2 rfl rfl) hS (zX 6 rfl hw (zAu 4 (k := i) (v := ({ x1_ with until_ := max x1_.until_ (now + sp) } : LeaD)) zF5 zCq rfl rfl rfl rfl (zE [0, 1, 2, 3] rfl (by decide) (fun w' hw hS => zM ?_)))))))))))
      refine (?_ : C _ _ _ _ _ _ _ (Own w S [Res.mp Value.string yE bm kb, Res.row b8 77 [Vn 0, Vn 0, .string (⟨#[]⟩ : ByteArray), Vi 0, Vi 0], Res.row b10 77 [Vn x1_.id, Vn x1_.session, .string x1_.key, Vi x1_.amount, Vi (max x1_.until_ (now + sp))], Res.row b 126 [.map (some bm), .map (some lm), Vi now, Vn cnt], Res.mp yC zk lm (y6 i ({ x1_ with until_ := max x1_.until_ (now + sp) } : LeaD) kl)])) _ hw
      refine zB (yN 2 rfl rfl rfl (zm 1 rfl rfl rfl (zw rfl) rfl (zH rfl (zA ?_))))
      exact zN (zy (cs := [Vn x1_.id, Vn x1_.session, .string x1_.key, Vi x1_.amount, Vi (max x1_.until_ (now + sp))]) (v := Vi 0) rfl rfl rfl (by kernel_rfl) (Own.rowCells (i := 1) rfl) (fun w' hw => ⟨yy x1_ (now + sp), 0, y6 i (yy x1_ (now + sp)) kl, rfl, zEy c1 hf3_3 c2 hf6_3 c3, hw.sel [3, 0, 4] rfl (by decide)⟩))
    ·
     refine zT 7 rfl hw (zU 2 (v := .map (some bm)) rfl rfl rfl rfl (zE [0, 1, 4] rfl (by decide) (fun w' hw hS => zD 10 rfl (zEs (k := x1_.key) (kv := kb) (zv := 0) zDS zCu zCE rfl rfl (fun w' hw' => Own.holds hw' 0 _ rfl)) hS (zX 3 rfl hw (zQ rfl rfl (fun w' hw => (j0 b bm lm now cnt kl x1_.key w' (hw.give [2, 3] rfl (by decide))).mono ?_))))))
     rintro _ w1 ⟨n4_, rfl, hf6_3, hO⟩
     refine (?_ : CL _ _ _ _ _ _ (Own w S [Res.mp Value.string yE bm kb, Res.row b8 77 [Vn 0, Vn 0, .string (⟨#[]⟩ : ByteArray), Vi 0, Vi 0], Res.row b10 77 (LeaD.cells x1_), Res.row b 126 [.map (some bm), .map (some lm), Vi now, Vn cnt], Res.mp yC zk lm kl])) w1 (hw.frameL [2, 3] rfl hO)
     refine zE [0, 1, 2] rfl (by decide) (fun w' hw hS => zD 11 rfl (zDV rfl rfl) hS (zD 12 rfl (y8) hS (zM ?_)))
     refine (?_ : C _ _ _ _ _ _ _ (Own w S [Res.mp Value.string yE bm kb, Res.row b8 77 [Vn 0, Vn 0, .string (⟨#[]⟩ : ByteArray), Vi 0, Vi 0], Res.row b10 77 (LeaD.cells x1_), Res.row b 126 [.map (some bm), .map (some lm), Vi now, Vn cnt], Res.mp yC zk lm kl])) _ hw
     refine zV rfl (fun c4 => ?_) (fun c4 => ?_)
     ·
      refine zB (z8 (cs := [Vn 0, Vn 0, .string (⟨#[]⟩ : ByteArray), Vi 0, Vi 0]) (z := [Vn 0, Vn 0, .string (⟨#[]⟩ : ByteArray), Vi 0, Vi 0]) (pl := [(0, 1), (1, 1), (2, 1), (3, 1), (4, 1)]) (by kernel_rfl) (by kernel_rfl) rfl (zm 1 rfl rfl rfl (zw rfl) rfl (zH rfl (zA ?_))))
      exact zN (zy (cs := [Vn 0, Vn 0, .string (⟨#[]⟩ : ByteArray), Vi 0, Vi 0]) (v := Vi 16) rfl rfl rfl (by kernel_rfl) (Own.rowCells (i := 1) rfl) (fun w' hw => ⟨LeaD.zero, 16, kl, rfl, zDK c1 hf3_3 c2 hf6_3 c4, hw.sel [3, 0, 4] rfl (by decide)⟩))
     ·
      refine zJ (zL (zZ [0, 1, 3, 4] rfl (by decide) (by kernel_rfl) (fun w' hw hS => zD 0 rfl (zc (o := 4) rfl) hS (zD 2 rfl (zK) hS (zD 3 rfl (zq rfl) hS (zD 4 rfl (zc (o := 2) rfl) hS (zD 5 rfl (zl 2 (v := Vi now) rfl rfl rfl) hS (zD 6 rfl (zK) hS (zD 7 rfl (yz rfl rfl (zh (by omega))) hS (zX 1 rfl hw (zU 2 (v := Vi x1_.until_) rfl rfl rfl rfl (zE [0, 1, 3, 4] rfl (by decide) (fun w' hw hS => ?_)))))))))))))
      refine zD 8 rfl (zJW (c := max x1_.until_ (now + sp)) rfl rfl (zLD _ _)) hS (zD 9 rfl (zc (o := 4) rfl) hS (zX 10 rfl hw (yn (cs := (LeaD.cells x1_)) 2 rfl rfl rfl rfl rfl (zE [0, 1, 3, 4] rfl (by decide) (fun w' hw hS => zM ?_)))))
      refine (?_ : C _ _ _ _ _ _ _ (Own w S [Res.mp Value.string yE bm kb, Res.row b8 77 [Vn 0, Vn 0, .string (⟨#[]⟩ : ByteArray), Vi 0, Vi 0], Res.row b10 77 [Vn x1_.id, Vn x1_.session, .string x1_.key, Vi x1_.amount, Vi (max x1_.until_ (now + sp))], Res.row b 126 [.map (some bm), .map (some lm), Vi now, Vn cnt], Res.mp yC zk lm kl])) _ hw
      refine zL (zZ [0, 1, 2, 3] rfl (by decide) (by kernel_rfl) (fun w' hw hS => zD 0 rfl (zK) hS (zD 1 rfl (zq rfl) hS (zD 2 rfl (zc (o := 1) rfl) hS (zD 3 rfl (zl 3 (v := .map (some lm)) rfl rfl rfl) hS (zD 4 rfl (zK) hS (zD 5 rfl (xh 2 rfl rfl) hS (zX 6 rfl hw (zAu 4 (k := i) (v := ({ x1_ with until_ := max x1_.until_ (now + sp) } : LeaD)) zF5 zCq rfl rfl rfl rfl (zE [0, 1, 2, 3] rfl (by decide) (fun w' hw hS => zM ?_)))))))))))
      refine (?_ : C _ _ _ _ _ _ _ (Own w S [Res.mp Value.string yE bm kb, Res.row b8 77 [Vn 0, Vn 0, .string (⟨#[]⟩ : ByteArray), Vi 0, Vi 0], Res.row b10 77 [Vn x1_.id, Vn x1_.session, .string x1_.key, Vi x1_.amount, Vi (max x1_.until_ (now + sp))], Res.row b 126 [.map (some bm), .map (some lm), Vi now, Vn cnt], Res.mp yC zk lm (y6 i ({ x1_ with until_ := max x1_.until_ (now + sp) } : LeaD) kl)])) _ hw
      refine zB (yN 2 rfl rfl rfl (zm 1 rfl rfl rfl (zw rfl) rfl (zH rfl (zA ?_))))
      exact zN (zy (cs := [Vn x1_.id, Vn x1_.session, .string x1_.key, Vi x1_.amount, Vi (max x1_.until_ (now + sp))]) (v := Vi 0) rfl rfl rfl (by kernel_rfl) (Own.rowCells (i := 1) rfl) (fun w' hw => ⟨yy x1_ (now + sp), 0, y6 i (yy x1_ (now + sp)) kl, rfl, zEy c1 hf3_3 c2 hf6_3 c4, hw.sel [3, 0, 4] rfl (by decide)⟩))
theorem zKh {S : List Nat} (b bm lm : Nat) (now : Int) (cnt : Nat) (kl : List (Nat × LeaD)) (s i : Nat) (w : World) (hin : Own w S [Res.row b 126 [.map (some bm), .map (some lm), Vi now, Vn cnt], Res.mp yC zk lm kl] w) : Rets Tryz.prog 94 #[.pointer (some ⟨b, 0, none⟩), Vn s, Vn i] w fun u_ w' => ∃ (x : LeaD) (e : Int) (kl' : List (Nat × LeaD)), u_ = .tuple #[.agg (LeaD.cells x).toArray, Vi e] ∧ zD5 kl s i x e kl' ∧ Own w S [Res.row b 126 [.map (some bm), .map (some lm), Vi now, Vn cnt], Res.mp yC zk lm kl'] w' := by
  refine ze Tryz.func94 rfl Tryz.ntmps94 hin ?_
  refine zB (yG (v := .agg #[Vn 0, Vn 0, .string (⟨#[]⟩ : ByteArray), Vi 0, Vi 0]) (by kernel_rfl) rfl (fun b6 => zH rfl (zA (zL (zB (zC rfl (xk (by kernel_rfl) rfl rfl rfl (zA (xt rfl (zJ (zB (zC rfl ?_))))))))))))
  refine zC rfl (zC rfl (zQ rfl rfl (fun w' hw => (zGe b bm lm now cnt kl s i w' (hw.give [0, 1] rfl (by decide))).mono ?_)))
  rintro _ w1 ⟨x1_, e2_, rfl, hf3_3, hO⟩
  refine (?_ : CL _ _ _ _ _ _ (Own w S [Res.row b6 77 [Vn 0, Vn 0, .string (⟨#[]⟩ : ByteArray), Vi 0, Vi 0], Res.row b 126 [.map (some bm), .map (some lm), Vi now, Vn cnt], Res.mp yC zk lm kl])) w1 (hw.frameL [0, 1] rfl hO)
  refine zC rfl (zr (vs := [.agg (LeaD.cells x1_).toArray, Vi e2_]) rfl rfl rfl (zr (vs := [.agg (LeaD.cells x1_).toArray, Vi e2_]) rfl rfl rfl (yG (v := .agg #[Vn 0, Vn 0, .string (⟨#[]⟩ : ByteArray), Vi 0, Vi 0]) (by kernel_rfl) rfl (fun b8 => zm 3 rfl rfl rfl (zw rfl) rfl (zH rfl (zA (zL (zB (zC rfl (yV rfl rfl rfl (zA (zV rfl (fun c2 => ?_) (fun c2 => ?_)))))))))))))
  ·
   refine zY (zC rfl (zt rfl rfl (zO (o := 1) rfl rfl (zU 1 (v := .map (some lm)) rfl rfl rfl rfl (zC rfl (zDU 2 (k := i) zF5 zCq rfl rfl rfl (zA (zB (yN (cs := (LeaD.cells x1_)) 3 rfl rfl rfl (zC rfl (zm 0 rfl rfl rfl (zw rfl) rfl (zH rfl ?_))))))))))))
   refine zA ?_
   exact zN (zy (cs := (LeaD.cells x1_)) (v := Vi e2_) rfl rfl rfl (by kernel_rfl) (Own.rowCells (i := 0) rfl) (fun w' hw => ⟨x1_, e2_, kC i kl, rfl, zHh hf3_3 c2, hw.sel [1, 2] rfl (by decide)⟩))
  ·
   refine zJ (zB (yN (cs := (LeaD.cells x1_)) 3 rfl rfl rfl (zC rfl (zm 0 rfl rfl rfl (zw rfl) rfl (zH rfl (zA ?_))))))
   exact zN (zy (cs := (LeaD.cells x1_)) (v := Vi e2_) rfl rfl rfl (by kernel_rfl) (Own.rowCells (i := 0) rfl) (fun w' hw => ⟨x1_, e2_, kl, rfl, zIs hf3_3 c2, hw.sel [1, 2] rfl (by decide)⟩))
theorem zHm {S : List Nat} (b bm lm : Nat) (now : Int) (cnt : Nat) (kl : List (Nat × LeaD)) (n : Int) (w : World) (ht : 0 ≤ now ∧ now ≤ 2305843009213693952) (hn : yx n) (hk : KNd kl) (hl : kl.length ≤ 128) (hin : Own w S [Res.row b 126 [.map (some bm), .map (some lm), Vi now, Vn cnt], Res.mp yC zk lm kl] w) : Rets Tryz.prog 44 #[.pointer (some ⟨b, 0, none⟩), Vi n] w fun u_ w' => ∃ (gv : Value) (gs : List Nat) (e now' : Int) (kl' : List (Nat × LeaD)), u_ = .tuple #[gv, Vi e] ∧ e = yt now n ∧ now' = zBA now n ∧ kl' = jC now n kl ∧ gs.Perm (zBW now n kl) ∧ gs.Pairwise (fun x y => x ≤ y) ∧ Own w S [Res.row b 126 [.map (some bm), .map (some lm), Vi now', Vn cnt], Res.mp yC zk lm kl', Res.vec 32 1 gv gs.length (gs.flatMap U1)] w' := by
  refine ze Tryz.func44 rfl Tryz.ntmps44 hin ?_
  refine zB (zH rfl (zH rfl (zA (zL (zW (zB (zC rfl (xk (by kernel_rfl) rfl rfl rfl (zC rfl (zR rfl rfl (zC rfl (zR rfl rfl ?_))))))))))))
  refine z9 rfl rfl rfl (ka rfl rfl (zC rfl (yk (q := n < 0) 2 6 [17, 16] (1099511627776 < n) rfl rfl rfl rfl rfl rfl trivial rfl (fun h1_6 => ?_) (fun g1_9 => ?_))))
  ·
   refine zR rfl (gF h1_6) (zC rfl (zR rfl (gF h1_6) (xF rfl rfl rfl ?_)))
   exact yH rfl (fun _ hw => hw)
  refine zH rfl (zA (zV rfl (fun c1 => ?_) (fun c1 => ?_)))
  ·
   refine zB (zH rfl (zH rfl (zA ?_)))
   exact zN (yo (v := .slice none 0 0) (v' := Vi 1) rfl rfl rfl (fun w' hw => ⟨.slice none 0 0, [], 1, now, kl, rfl, (xz (kl := kl) (zC4 c1) (by decide)).1, (xz (kl := kl) (zC4 c1) (by decide)).2.1, (xz (kl := kl) (zC4 c1) (by decide)).2.2.1, (xz (kl := kl) (zC4 c1) (by decide)).2.2.2, List.Pairwise.nil, (yZ hw 32 1)⟩))
  ·
   refine zB (zC rfl (zt rfl rfl (zO (o := 2) rfl rfl (zU 0 (v := Vi now) rfl rfl rfl rfl (zC rfl (yJ rfl rfl (zh (by omega)) rfl (xF rfl rfl rfl (zH rfl (zA (zV rfl (fun c2 => ?_) (fun c2 => ?_)))))))))))
   ·
    refine zB (zH rfl (zH rfl (zA ?_)))
    exact zN (yo (v := .slice none 0 0) (v' := Vi 3) rfl rfl rfl (fun w' hw => ⟨.slice none 0 0, [], 3, now, kl, rfl, (xz (kl := kl) (zC0 c1 c2) (by decide)).1, (xz (kl := kl) (zC0 c1 c2) (by decide)).2.1, (xz (kl := kl) (zC0 c1 c2) (by decide)).2.2.1, (xz (kl := kl) (zC0 c1 c2) (by decide)).2.2.2, List.Pairwise.nil, (yZ hw 32 1)⟩))
   ·
    refine zJ (zB (zC rfl (zt rfl rfl (zO (o := 2) rfl rfl (zU 0 (v := Vi now) rfl rfl rfl rfl (zC rfl (zn rfl rfl (zh (by omega)) rfl (zt rfl rfl (zO (o := 2) rfl rfl (yn (cs := [.map (some bm), .map (some lm), Vi now, Vn cnt]) 0 rfl rfl rfl rfl rfl (zA (zL ?_))))))))))))
    refine zB (zC rfl (zt rfl rfl (zO (o := 1) rfl rfl (zU 0 (v := .map (some lm)) rfl rfl rfl rfl (zDW 1 zCq rfl rfl rfl (fun r39 => zA (zW ?_)))))))
    refine zCn (fun (todo kv : List (Nat × LeaD)) (gv : Value) (gs : List Nat) => [(0, .pointer (some ⟨b, 0, none⟩)), (4, gv), (39, .pointer (some ⟨r39, 0, none⟩))]) (fun (todo kv : List (Nat × LeaD)) (gv : Value) (gs : List Nat) => PassI (now + n) kl todo kv gs) (fun (todo kv : List (Nat × LeaD)) (gv : Value) (gs : List Nat) => [Res.row b 126 [.map (some bm), .map (some lm), Vi (now + n), Vn cnt], Res.rg yC zk lm r39 kv todo, Res.vec 32 1 gv gs.length (gs.flatMap U1)]) (fun (todo kv : List (Nat × LeaD)) (gv : Value) (gs : List Nat) => todo.length) (fun w' hw => ⟨kl, kl, .slice none 0 0, [], ⟨rfl, rfl, rfl, trivial⟩, PassI.start _ _, (yZ hw 32 1)⟩) (fun todo kv gv gs g hΦ => ?_)
    have hgl : gs.length ≤ 128 := Nat.le_trans (PassI.len hΦ) hl
    refine zB (zE3 1 rfl rfl rfl (fun hq0 => ?_) (fun q1 k v q2 hq1 => ?_))
    ·
     refine zr (vs := [.bool false]) rfl rfl rfl (zA (zL (xt rfl (yB rfl (zB (zC rfl (zQ rfl rfl (fun w' hw => (zKI gv gs w' (by first | assumption | omega | (simp <;> omega) | (constructor <;> (first | omega | (simp only [z6]; omega) | (simp <;> omega)))) (hw.give [2] rfl (by decide))).mono ?_))))))))
     rintro _ w1 ⟨l'1_, rfl, hf12_1, hf12_1_1, hO⟩
     refine (?_ : CL _ _ _ _ _ _ (Own w S [Res.row b 126 [.map (some bm), .map (some lm), Vi (now + n), Vn cnt], Res.rg yC zk lm r39 kv todo, Res.vec 32 1 gv l'1_.length (l'1_.flatMap U1)])) w1 (hw.frameL [2] rfl hO)
     refine zA (zB (zC rfl (zH rfl (zH rfl (zA ?_)))))
     exact zN (yo (v := gv) (v' := Vi 0) rfl rfl rfl (fun w' hw => ⟨gv, l'1_, 0, now + n, kv, rfl, (hΦ.done hq0 hk (zCw c1 c2)).1, (hΦ.done hq0 hk (zCw c1 c2)).2.1, (hΦ.done hq0 hk (zCw c1 c2)).2.2.1, hf12_1.trans (hΦ.done hq0 hk (zCw c1 c2)).2.2.2, hf12_1_1.imp (fun q => ole_nat.1 q), (Own.rgEnd 1 hw rfl)⟩))
    ·
     refine zr (vs := [.bool true, Vn k, .agg (LeaD.cells v).toArray]) rfl rfl rfl (zA (zL (zE8 rfl (zJ (zW (zB (zDs 1 rfl rfl rfl (zr (vs := [Vn k, .agg (LeaD.cells v).toArray]) rfl rfl rfl (zr (vs := [Vn k, .agg (LeaD.cells v).toArray]) rfl rfl rfl (yG (v := .agg #[Vn 0, Vn 0, .string (⟨#[]⟩ : ByteArray), Vi 0, Vi 0]) (by kernel_rfl) rfl (fun b7 => zH rfl (zm 3 rfl rfl rfl (zw rfl) rfl ?_))))))))))))
     refine zA (xN (by kernel_rfl) (by kernel_rfl) (zb rfl (zc (o := 4) rfl) (zb rfl (zl 3 (v := Vi v.until_) rfl rfl rfl) (zb rfl (zK) (zb rfl (zq rfl) (zb rfl (zc (o := 2) rfl) (zb rfl (zl 0 (v := Vi (now + n)) rfl rfl rfl) (zb rfl (zBB rfl rfl) (js (zV rfl (fun c5 => ?_) (fun c5 => ?_)))))))))))
     ·
      refine zB (zC rfl (zC rfl (yh (e := 32) (sz := 1) (vs := [Vn k]) (by kernel_rfl) rfl rfl (by simp [Value.cells]) (by decide) rfl (fun b54 => yq (g := U1) (sz := 1) (by' := 8) (fun _ => rfl) (l := gs) (l' := [k]) (by simp [cell1, U1]) 2 (by kernel_rfl) rfl rfl rfl (fun w' hw' => Vec.sl (Own.holds hw' 4 _ rfl)) (by first | omega | (simp; omega)) (by decide) rfl (fun v55 => zH rfl (zA (zY (zC rfl (zt rfl rfl (zO (o := 1) rfl rfl (zU 0 (v := .map (some lm)) rfl rfl rfl rfl (zC rfl ?_))))))))))))
      refine zGh 1 (k := k) zF5 zCq rfl rfl rfl (hΦ.out hk hq1) ?_
      exact zd (fun w' hw => ⟨q1 ++ q2, kC k kv, v55, gs ++ [k], ⟨rfl, rfl, rfl, trivial⟩, hΦ.yes hk hq1 c5, hw.sel [0, 1, 2] rfl (by decide), (by rw [hq1, List.length_append, List.length_append, List.length_cons]; omega)⟩)
     ·
      exact xQ (fun w' hw => ⟨q1 ++ q2, kv, gv, gs, ⟨rfl, rfl, rfl, trivial⟩, hΦ.no hq1 c5, hw.sel [0, 1, 2] rfl (by decide), (by rw [hq1, List.length_append, List.length_append, List.length_cons]; omega)⟩)
end Go.Proofs.YtcdiehplbmkmeaaGreat
