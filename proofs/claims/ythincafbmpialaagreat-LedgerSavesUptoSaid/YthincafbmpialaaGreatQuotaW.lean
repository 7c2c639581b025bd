import Derived.Test.YthincafbmpialaaGreatSortU4
import Derived.Test.YthincafbmpialaaGreatQuotaP
import Derived.Test.YthincafbmpialaaGreatRefW
set_option linter.unusedSectionVars false
set_option linter.unusedSimpArgs false
set_option linter.unusedVariables false
set_option maxRecDepth 10000
namespace Go.Proofs.YthincafbmpialaaGreat
open Go Go.Sc Go.Proofs
def zX (l : LeaD) : Value := .agg l.cells.toArray
def yB (n : Nat) : Value := .int .u64 n
def yC (n : Int) : Value := .int .i64 n
theorem zCK : KeyL Tryz.prog 9 Value.string := zIk (by kernel_rfl)
theorem zFE : KeyL Tryz.prog 28 yB := zFd (by kernel_rfl)
theorem zBn : ki Tryz.prog 108 = some (9, 2) := by kernel_rfl
theorem zB6 : ki Tryz.prog 109 = some (28, 76) := by kernel_rfl
theorem zCY : jk Tryz.prog 2 = some (yC 0) := by kernel_rfl
theorem zNU : jk Tryz.prog 76 = some (zX LeaD.zero) := by kernel_rfl
def zA8 (k : ByteArray) (kl : List (Nat × LeaD)) : Int := yq k (kl.map (·.2))
theorem zI9 {k : ByteArray} {kl : List (Nat × LeaD)} {n : Int} (h : n = IntKind.i64.wrap (zA8 k kl - zA8 k [])) : n = yf k kl := by
  rw [h]; simp [zA8, yq, yf, yj]
theorem zIG {k : ByteArray} {kl todo q1 q2 : List (Nat × LeaD)} {i : Nat} {v : LeaD} {n : Int} (h : n = IntKind.i64.wrap (zA8 k kl - zA8 k todo)) (ht : todo = q1 ++ (i, v) :: q2) (hk : v.key = k) : IntKind.i64.wrap (n + v.amount) = IntKind.i64.wrap (zA8 k kl - zA8 k (q1 ++ q2)) := by
  rw [h, zFD, ht]; unfold zA8; rw [zBz, if_pos hk]; congr 1; omega
theorem zKc {k : ByteArray} {kl todo q1 q2 : List (Nat × LeaD)} {i : Nat} {v : LeaD} {n : Int} (h : n = IntKind.i64.wrap (zA8 k kl - zA8 k todo)) (ht : todo = q1 ++ (i, v) :: q2) (hk : ¬ v.key = k) : n = IntKind.i64.wrap (zA8 k kl - zA8 k (q1 ++ q2)) := by
  rw [h, ht]; unfold zA8; rw [zBz, if_neg hk]; congr 1; omega
theorem zCG (k : ByteArray) (w : World) : Rets Tryz.prog 76 #[.string k] w fun u_ w' => u_ = .bool (decide (yY k)) ∧ Own w [] [] w' := by
  refine zW Tryz.func76 rfl Tryz.ntmps76 (Own.start w) ?_
  refine zB (zD rfl (zA (zB (zC rfl (zJa rfl rfl rfl (zC rfl (yR (q := k ≠ (⟨#[]⟩ : ByteArray)) 3 2 [8, 7, 6] (((k.size : Nat) : Int) ≤ 64) rfl rfl rfl rfl rfl rfl trivial rfl (fun h1_2 => ?_) (fun g1_6 => ?_))))))))
  ·
   refine zP rfl (gT h1_2) (zC rfl (zP rfl (gT h1_2) (zCI (by kernel_rfl) rfl rfl (zP rfl (gT h1_2) (kd rfl rfl rfl ?_)))))
   exact yP rfl (fun _ hw => hw)
  refine zD rfl (zA ?_)
  exact zM (z8 (v := .bool (decide ((k ≠ (⟨#[]⟩ : ByteArray)) ∧ (((k.size : Nat) : Int) ≤ 64)))) rfl rfl (fun w' hw => ⟨(by congr 1; exact decide_eq_decide.2 (by unfold yY; rw [zNF]; omega)), hw.drop⟩))
theorem zIN (n : Int) (w : World) : Rets Tryz.prog 107 #[Vi n] w fun u_ w' => u_ = .bool (decide (y5 n)) ∧ Own w [] [] w' := by
  refine zW Tryz.func107 rfl Tryz.ntmps107 (Own.start w) ?_
  refine zB (zD rfl (zA (zB (zC rfl (xC rfl rfl rfl (zC rfl (yR (q := 1 ≤ n) 2 2 [7, 6] (n ≤ 1099511627776) rfl rfl rfl rfl rfl rfl trivial rfl (fun h1_2 => ?_) (fun g1_5 => ?_))))))))
  ·
   refine zP rfl (gT h1_2) (zC rfl (zP rfl (gT h1_2) (kd rfl rfl rfl ?_)))
   exact yP rfl (fun _ hw => hw)
  refine zD rfl (zA ?_)
  exact zM (z8 (v := .bool (decide ((1 ≤ n) ∧ (n ≤ 1099511627776)))) rfl rfl (fun w' hw => ⟨rfl, hw.drop⟩))
theorem zAQ {S : List Nat} (b bm lm : Nat) (now : Int) (cnt : Nat) (kl : List (Nat × LeaD)) (k : ByteArray) (w : World) (hin : Own w S [Res.row b 111 [.map (some bm), .map (some lm), Vi now, Vn cnt], Res.mp yB zX lm kl] w) : Rets Tryz.prog 78 #[.pointer (some ⟨b, 0, none⟩), .string k] w fun u_ w' => ∃ (n : Int), u_ = Vi n ∧ n = yf k kl ∧ Own w S [Res.row b 111 [.map (some bm), .map (some lm), Vi now, Vn cnt], Res.mp yB zX lm kl] w' := by
  refine zW Tryz.func78 rfl Tryz.ntmps78 hin ?_
  refine zB (zD rfl (zA (zB (zD rfl (zA (zL (zB (zC rfl (zm rfl rfl (zQ (o := 1) rfl rfl (zT 0 (v := .map (some lm)) rfl rfl rfl rfl (zAX 1 zB6 rfl rfl rfl (fun r12 => ?_)))))))))))))
  refine zA (zS ?_)
  refine xT (fun (todo : List (Nat × LeaD)) (n : Int) => [(1, .string k), (5, Vi n), (12, .pointer (some ⟨r12, 0, none⟩))]) (fun (todo : List (Nat × LeaD)) (n : Int) => n = IntKind.i64.wrap (zA8 k kl - zA8 k todo)) (fun (todo : List (Nat × LeaD)) (n : Int) => [Res.row b 111 [.map (some bm), .map (some lm), Vi now, Vn cnt], Res.rg yB zX lm r12 kl todo]) (fun (todo : List (Nat × LeaD)) (n : Int) => todo.length) (fun w' hw => ⟨kl, 0, ⟨rfl, rfl, rfl, trivial⟩, (by rw [Int.sub_self]; decide), hw⟩) (fun todo n g hΦ => ?_)
  refine zB (zBe 1 rfl rfl rfl (fun hq0 => ?_) (fun q1 k v q2 hq1 => ?_))
  ·
   refine zo (vs := [.bool false]) rfl rfl rfl (zA (zL (xP rfl (yG rfl (zB (zC rfl (zD rfl (zA ?_))))))))
   exact zM (z8 (v := Vi n) rfl rfl (fun w' hw => ⟨n, rfl, zI9 (hq0 ▸ hΦ), (Own.rgEnd 1 hw rfl)⟩))
  ·
   refine zo (vs := [.bool true, Vn k, .agg (LeaD.cells v).toArray]) rfl rfl rfl (zA (zL (zAA rfl (zK (zS (zB (zAU 1 rfl rfl rfl (zo (vs := [Vn k, .agg (LeaD.cells v).toArray]) rfl rfl rfl (yF (v := .agg #[Vn 0, Vn 0, .string (⟨#[]⟩ : ByteArray), Vi 0, Vi 0]) (by kernel_rfl) rfl (fun b7 => zi 2 rfl rfl rfl (z7 rfl) rfl (zA (zB ?_))))))))))))
   refine zQ (o := 2) rfl rfl (zT 2 (v := .string v.key) rfl rfl rfl rfl (zC rfl (zIa rfl rfl rfl (zA (zU rfl (fun c3 => ?_) (fun c3 => ?_))))))
   ·
    refine zd (zC rfl (zQ (o := 3) rfl rfl (zT 2 (v := Vi v.amount) rfl rfl rfl rfl (zu (c := IntKind.i64.wrap (n + v.amount)) rfl rfl rfl rfl (zD rfl ?_)))))
    exact zj (fun w' hw => ⟨q1 ++ q2, IntKind.i64.wrap (n + v.amount), ⟨rfl, rfl, rfl, trivial⟩, zIG hΦ hq1 c3, hw.sel [0, 1] rfl (by decide), (by rw [hq1, List.length_append, List.length_append, List.length_cons]; omega)⟩)
   ·
    exact xj (fun w' hw => ⟨q1 ++ q2, n, ⟨rfl, rfl, rfl, trivial⟩, zKc hΦ hq1 c3, hw.sel [0, 1] rfl (by decide), (by rw [hq1, List.length_append, List.length_append, List.length_cons]; omega)⟩)
def zAs (kl : List (Nat × LeaD)) (s i : Nat) (x : LeaD) (e : Int) : Prop :=
  (e = 17 ∧ x = LeaD.zero ∧ ∀ l, zw i kl = some l → l.session ≠ s) ∨ (e = 0 ∧ zw i kl = some x ∧ x.session = s)
theorem zKC {kl : List (Nat × LeaD)} {s i : Nat} (h : (!(zw i kl).isSome) = true ∨ ((((zw i kl).getD LeaD.zero).session : Nat) : Int) ≠ ((s : Nat) : Int)) : zAs kl s i LeaD.zero 17 := by
  refine .inl ⟨rfl, rfl, fun l hl => ?_⟩
  rw [hl] at h
  rcases h with h | h
  · cases h
  · intro e; exact h (by rw [Option.getD_some, e])
theorem zIe {kl : List (Nat × LeaD)} {s i : Nat} (h : ¬ ((!(zw i kl).isSome) = true ∨ ((((zw i kl).getD LeaD.zero).session : Nat) : Int) ≠ ((s : Nat) : Int))) : zAs kl s i ((zw i kl).getD LeaD.zero) 0 := by
  cases hl : zw i kl with
  | none => rw [hl] at h; exact absurd (.inl rfl) h
  | some l =>
    rw [hl, Option.getD_some] at h
    exact .inr ⟨rfl, hl, Decidable.by_contra fun (q : ¬ l.session = s) => h (.inr fun e => q (by omega))⟩
theorem zE4 {kl : List (Nat × LeaD)} {s i : Nat} {x : LeaD} {e : Int} (h : zAs kl s i x e) (he : e ≠ 0) : e = 17 ∧ x = LeaD.zero ∧ ∀ l, zw i kl = some l → l.session ≠ s := by
  rcases h with h | h
  · exact h
  · exact absurd h.1 he
theorem zD3 {kl : List (Nat × LeaD)} {s i : Nat} {x : LeaD} {e : Int} (h : zAs kl s i x e) (he : ¬ e ≠ 0) : zw i kl = some x ∧ x.session = s := by
  rcases h with h | h
  · rw [h.1] at he; exact absurd (by decide) he
  · exact h.2
theorem zKq {kl : List (Nat × LeaD)} {s i : Nat} {x : LeaD} {e : Int} (h : zAs kl s i x e) (he : ¬ e = 0) : zFM kl s i x e kl := by
  have := zE4 h he; exact .inl ⟨this.2.2, this.1, this.2.1, rfl⟩
theorem zId {kl : List (Nat × LeaD)} {s i : Nat} {x : LeaD} {e : Int} (h : zAs kl s i x e) (he : e = 0) : zFM kl s i x e (kx i kl) := by
  have := zD3 h (fun q => q he); exact .inr ⟨x, this.1, this.2, he, rfl, rfl⟩
theorem zHD {now : Int} {kb : List (ByteArray × Int)} {kl : List (Nat × LeaD)} {s i : Nat} {sp : Int} {x : LeaD} {e : Int} (hs : ¬ ¬ y5 sp) (h : zAs kl s i x e) (he : e ≠ 0) : zBh now kb kl s i sp LeaD.zero e kl := by
  have := zE4 h he; exact .inr (.inl ⟨Decidable.not_not.1 hs, this.2.2, this.1, rfl, rfl⟩)
theorem zFH {now : Int} {kb : List (ByteArray × Int)} {kl : List (Nat × LeaD)} {s i : Nat} {sp n : Int} {x : LeaD} {e : Int} (hs : ¬ ¬ y5 sp) (h : zAs kl s i x e) (he : ¬ e ≠ 0) (hn : n = yf x.key kl) (hc : (zw x.key kb).getD 0 < n) : zBh now kb kl s i sp LeaD.zero 16 kl := by
  have := zD3 h he; exact .inr (.inr ⟨Decidable.not_not.1 hs, x, this.1, this.2, .inl ⟨hn ▸ hc, rfl, rfl, rfl⟩⟩)
theorem zGX {now : Int} {kb : List (ByteArray × Int)} {kl : List (Nat × LeaD)} {s i : Nat} {sp n : Int} {x : LeaD} {e : Int} (hs : ¬ ¬ y5 sp) (h : zAs kl s i x e) (he : ¬ e ≠ 0) (hn : n = yf x.key kl) (hc : ¬ (zw x.key kb).getD 0 < n) : zBh now kb kl s i sp (xc x (now + sp)) 0 (xL i (xc x (now + sp)) kl) := by
  have := zD3 h he; exact .inr (.inr ⟨Decidable.not_not.1 hs, x, this.1, this.2, .inr ⟨by rw [hn] at hc; omega, rfl, rfl, rfl⟩⟩)
theorem zI3 {S : List Nat} (b bm lm : Nat) (now : Int) (cnt : Nat) (kl : List (Nat × LeaD)) (s i : Nat) (w : World) (hin : Own w S [Res.row b 111 [.map (some bm), .map (some lm), Vi now, Vn cnt], Res.mp yB zX lm kl] w) : Rets Tryz.prog 108 #[.pointer (some ⟨b, 0, none⟩), Vn s, Vn i] w fun u_ w' => ∃ (x : LeaD) (e : Int), u_ = .tuple #[.agg (LeaD.cells x).toArray, Vi e] ∧ zAs kl s i x e ∧ Own w S [Res.row b 111 [.map (some bm), .map (some lm), Vi now, Vn cnt], Res.mp yB zX lm kl] w' := by
  refine zW Tryz.func108 rfl Tryz.ntmps108 hin ?_
  refine zB (yF (v := .agg #[Vn 0, Vn 0, .string (⟨#[]⟩ : ByteArray), Vi 0, Vi 0]) (by kernel_rfl) rfl (fun b6 => zD rfl (zA (zB (zC rfl (zm rfl rfl (zQ (o := 1) rfl rfl (zT 0 (v := .map (some lm)) rfl rfl rfl rfl (zC rfl (zEY (k := i) (kv := kl) (zv := LeaD.zero) zFE zB6 zNU rfl rfl (fun w' hw' => Own.holds hw' 1 _ rfl) rfl (zC rfl (zo (vs := [.agg (LeaD.cells ((zw i kl).getD LeaD.zero)).toArray, .bool ((zw i kl).isSome)]) rfl rfl rfl ?_))))))))))))
  refine zo (vs := [.agg (LeaD.cells ((zw i kl).getD LeaD.zero)).toArray, .bool ((zw i kl).isSome)]) rfl rfl rfl (yF (v := .agg #[Vn 0, Vn 0, .string (⟨#[]⟩ : ByteArray), Vi 0, Vi 0]) (by kernel_rfl) rfl (fun b8 => zi 3 rfl rfl rfl (z7 rfl) rfl (zD rfl (zA (zL (zB (zC rfl (ka (b := (zw i kl).isSome) rfl rfl (zC rfl (ya (q := (!((zw i kl).isSome)) = true) 4 2 [25, 24, 23, 22] (((((zw i kl).getD LeaD.zero).session : Nat) : Int) ≠ ((s : Nat) : Int)) rfl rfl (yc _) rfl rfl rfl trivial rfl (fun h2_2 => ?_) (fun g2_7 => ?_)))))))))))
  ·
   refine zP rfl (bF h2_2) (zQ (o := 1) rfl rfl (zP rfl (bF h2_2) (zT 3 (v := Vn (((zw i kl).getD LeaD.zero).session)) rfl rfl rfl rfl (zP rfl (bF h2_2) (zC rfl (zP rfl (bF h2_2) (xq rfl rfl rfl ?_)))))))
   exact yP rfl (fun _ hw => hw)
  refine zA (zU rfl (fun c1 => ?_) (fun c1 => ?_))
  ·
   refine zB (yT (cs := [Vn 0, Vn 0, .string (⟨#[]⟩ : ByteArray), Vi 0, Vi 0]) (z := [Vn 0, Vn 0, .string (⟨#[]⟩ : ByteArray), Vi 0, Vi 0]) (pl := [(0, 1), (1, 1), (2, 1), (3, 1), (4, 1)]) (by kernel_rfl) (by kernel_rfl) rfl (zi 2 rfl rfl rfl (z7 rfl) rfl (zD rfl (zA ?_))))
   exact zM (yK (cs := [Vn 0, Vn 0, .string (⟨#[]⟩ : ByteArray), Vi 0, Vi 0]) (v := Vi 17) rfl rfl rfl (by kernel_rfl) (Own.rowCells (i := 2) rfl) (fun w' hw => ⟨LeaD.zero, 17, rfl, zKC c1, hw.sel [0, 1] rfl (by decide)⟩))
  ·
   refine zK (zB (yO (cs := (LeaD.cells ((zw i kl).getD LeaD.zero))) 3 rfl rfl rfl (zi 2 rfl rfl rfl (z7 rfl) rfl (zD rfl (zA ?_)))))
   exact zM (yK (cs := (LeaD.cells ((zw i kl).getD LeaD.zero))) (v := Vi 0) rfl rfl rfl (by kernel_rfl) (Own.rowCells (i := 2) rfl) (fun w' hw => ⟨(zw i kl).getD LeaD.zero, 0, rfl, zIe c1, hw.sel [0, 1] rfl (by decide)⟩))
theorem zNb (a c : Int) (w : World) (ha : 0 ≤ a ∧ a ≤ 9223372036854775807) (hc : -9223372036854775808 ≤ c ∧ c ≤ 9223372036854775807) : Rets Tryz.prog 113 #[Vi a, Vi c] w fun u_ w' => ∃ (n e : Int), u_ = .tuple #[Vi n, Vi e] ∧ ((9223372036854775807 < a + c ∧ e = 3 ∧ n = 0) ∨ (a + c ≤ 9223372036854775807 ∧ e = 0 ∧ n = a + c)) ∧ Own w [] [] w' := by
  refine zW Tryz.func113 rfl Tryz.ntmps113 (Own.start w) ?_
  refine zB (zD rfl (zD rfl (zA (zL (zB (zC rfl (yi rfl rfl rfl (zC rfl (yR (q := 0 < c) 4 2 [12, 11, 10, 9] ((9223372036854775807 - c) < a) rfl rfl rfl rfl rfl rfl trivial rfl (fun h1_2 => ?_) (fun g1_7 => ?_))))))))))
  ·
   refine zP rfl (gT h1_2) (zC rfl (zP rfl (gT h1_2) (zC rfl (zP rfl (gT h1_2) (yb rfl rfl (zt (by omega)) rfl (zP rfl (gT h1_2) (yi rfl rfl rfl ?_)))))))
   exact yP rfl (fun _ hw => hw)
  refine zC rfl (ya (q := (0 < c) ∧ ((9223372036854775807 - c) < a)) 8 8 [22, 21, 20, 19, 18, 17, 16, 15] ((c < 0) ∧ (a < ((-9223372036854775808) - c))) rfl rfl rfl rfl rfl rfl trivial rfl (fun h1_8 => ?_) (fun g1_17 => ?_))
  ·
   refine zP rfl (gF h1_8) (zC rfl (zP rfl (gF h1_8) (yI rfl rfl rfl (zP rfl (gF h1_8) (zC rfl (yR (q := c < 0) 4 11 [21, 20, 19, 18] (a < ((-9223372036854775808) - c)) rfl rfl rfl rfl rfl rfl ⟨_, rfl, rfl, gF h1_8⟩ rfl (fun h1_11 => ?_) (fun g1_16 => ?_)))))))
   ·
    refine zP rfl (gT h1_11) (zC rfl (zP rfl (gT h1_11) (zC rfl (zP rfl (gT h1_11) (yb rfl rfl (zt (by omega)) rfl (zP rfl (gT h1_11) (yI rfl rfl rfl ?_)))))))
    exact yP rfl (fun _ hw => hw)
   exact yP rfl (fun _ hw => hw)
  refine zA (zU rfl (fun c1 => ?_) (fun c1 => ?_))
  ·
   refine zB (zD rfl (zD rfl (zA ?_)))
   exact zM (xK (v := Vi 0) (v' := Vi 3) rfl rfl rfl (fun w' hw => ⟨0, 3, rfl, .inl ⟨by omega, rfl, rfl⟩, hw.drop⟩))
  ·
   refine zK (zB (zC rfl (zC rfl (zu rfl rfl (zt (by omega)) rfl (zD rfl (zD rfl (zA ?_)))))))
   exact zM (xK (v := Vi (a + c)) (v' := Vi 0) rfl rfl rfl (fun w' hw => ⟨a + c, 0, rfl, .inr ⟨by omega, rfl, rfl⟩, hw.drop⟩))
theorem zGJ (v : Value) (l : List Int) (w : World) (hl : l.length = 2) (h0 : 0 ≤ zI l 0 ∧ zI l 0 ≤ 9223372036854775807) (h1 : -9223372036854775808 ≤ zI l 1 ∧ zI l 1 ≤ 9223372036854775807) (hv : Rd w [] (Res.sl v l.length (l.flatMap I1))) : Rets Tryz.prog 77 #[v] w fun u_ w' => ∃ (n e : Int), u_ = .tuple #[Vi n, Vi e] ∧ ((9223372036854775807 < zI l 0 + zI l 1 ∧ e = 3 ∧ n = 0) ∨ (zI l 0 + zI l 1 ≤ 9223372036854775807 ∧ e = 0 ∧ n = zI l 0 + zI l 1)) ∧ Own w [] [] w' := by
  refine zW Tryz.func77 rfl Tryz.ntmps77 (Own.start w) ?_
  refine zB (zD rfl (zD rfl (zA (zB (zD rfl (zA (zL (zB (zC rfl (yD (pR hv) rfl rfl (zC rfl (zA ?_))))))))))))
  refine zS ?_
  refine xT (fun (k : Nat) (n : Int) => [(4, Vi n), (8, v), (9, Vj l.length), (10, Vj k)]) (fun (k : Nat) (n : Int) => k ≤ 2 ∧ ((k = 0 → n = 0) ∧ (k = 1 → n = zI l 0) ∧ (k = 2 → n = zI l 0 + zI l 1)) ∧ ((k < 2 → 0 ≤ n) ∧ n ≤ 9223372036854775807)) (fun (k : Nat) (n : Int) => []) (fun (k : Nat) (n : Int) => 2 - k) (fun w' hw => ⟨0, 0, ⟨rfl, rfl, rfl, rfl, trivial⟩, ⟨by omega, ⟨fun _ => rfl, by omega, by omega⟩, ⟨fun _ => by omega, by omega⟩⟩, hw⟩) (fun k n g hΦ => ?_)
  have hkl := hΦ.1
  have hkI := hΦ.2.1
  have hkn := hΦ.2.2
  refine zB (yI rfl rfl rfl (zA (zL (zU rfl (fun c1 => ?_) (fun c1 => ?_)))))
  ·
   have hk2 : k < 2 := by omega
   have hkx : (k = 0 → zI l k = zI l 0) ∧ (k = 1 → zI l k = zI l 1) := ⟨fun h => by rw [h], fun h => by rw [h]⟩
   have hkb : -9223372036854775808 ≤ zI l k ∧ zI l k ≤ 9223372036854775807 := by rcases (show k = 0 ∨ k = 1 by omega) with h | h <;> rw [h] <;> omega
   refine zK (zL (zS (zB (zH (pR hv) 1 k rfl rfl rfl (by omega) rfl (zV (pR hv) 1 k 0 (fun _ => rfl) rfl rfl (by omega) rfl rfl (zD rfl (zA (zB (zD rfl (zA (zB (zC rfl ?_))))))))))))
   refine zC rfl (zJ rfl rfl (fun w' hw => (zNb n (zI l k) w' ⟨hkn.1 hk2, hkn.2⟩ hkb).mono ?_))
   rintro _ w1 ⟨n1_, e2_, rfl, hf6_2, hO⟩
   refine (?_ : CL _ _ _ _ _ _ (Own w [] [])) w1 (hw.frame0 hO)
   refine zC rfl (zo (vs := [Vi n1_, Vi e2_]) rfl rfl rfl (zo (vs := [Vi n1_, Vi e2_]) rfl rfl rfl (zD rfl (zD rfl (zA (zB (zC rfl (xq rfl rfl rfl (zA (zU rfl (fun c2 => ?_) (fun c2 => ?_)))))))))))
   ·
    refine zB (zC rfl (zD rfl (zD rfl (zA ?_))))
    exact zM (xK (v := Vi 0) (v' := Vi e2_) rfl rfl rfl (fun w' hw => ⟨0, e2_, rfl, .inl ⟨((zCR hk2 hkI hkx hf6_2 h0 h1).1 c2).1, ((zCR hk2 hkI hkx hf6_2 h0 h1).1 c2).2, rfl⟩, hw.drop⟩))
   ·
    refine zK (zd (zu rfl rfl (zt (by omega)) rfl (zC rfl ?_)))
    exact zj (fun w' hw => ⟨k + 1, n1_, ⟨rfl, rfl, rfl, rfl, trivial⟩, ⟨by omega, (zCR hk2 hkI hkx hf6_2 h0 h1).2 c2⟩, hw, (by omega)⟩)
  ·
   refine yG rfl (zB (zC rfl (zD rfl (zD rfl (zA ?_)))))
   exact zM (xK (v := Vi n) (v' := Vi 0) rfl rfl rfl (fun w' hw => ⟨n, 0, rfl, .inr ⟨by have := hkI.2.2 (by omega); omega, rfl, hkI.2.2 (by omega)⟩, hw.drop⟩))
theorem zNa {S : List Nat} (b bm lm : Nat) (now : Int) (cnt : Nat) (kb : List (ByteArray × Int)) (kl : List (Nat × LeaD)) (k : ByteArray) (a : Int) (w : World) (hin : Own w S [Res.row b 111 [.map (some bm), .map (some lm), Vi now, Vn cnt], Res.mp Value.string yC bm kb, Res.mp yB zX lm kl] w) : Rets Tryz.prog 62 #[.pointer (some ⟨b, 0, none⟩), .string k, Vi a] w fun u_ w' => ∃ (n e : Int) (kb' : List (ByteArray × Int)), u_ = .tuple #[Vi n, Vi e] ∧ e = kp k a kb ∧ kb' = zDG k a kb ∧ (n = if e = 0 then yf k kl else 0) ∧ Own w S [Res.row b 111 [.map (some bm), .map (some lm), Vi now, Vn cnt], Res.mp Value.string yC bm kb', Res.mp yB zX lm kl] w' := by
  refine zW Tryz.func62 rfl Tryz.ntmps62 hin ?_
  refine zB (zD rfl (zD rfl (zA (zL (zB (zC rfl (xF (by kernel_rfl) rfl rfl rfl (zC rfl (zP rfl rfl (zC rfl (zP rfl rfl (zJ rfl rfl (fun w' hw => ?_)))))))))))))
  refine (zCG k w').mono ?_
  rintro _ w1 ⟨rfl, hO⟩
  refine (?_ : CL _ _ _ _ _ _ (Own w S [Res.row b 111 [.map (some bm), .map (some lm), Vi now, Vn cnt], Res.mp Value.string yC bm kb, Res.mp yB zX lm kl])) w1 (hw.frame0 hO)
  refine zP rfl rfl (xp (q := yY k) rfl rfl (kO rfl rfl (zC rfl (ya (q := ¬ (yY k)) 2 7 [19, 18] (a < 0) rfl rfl rfl rfl rfl rfl trivial rfl (fun h1_7 => ?_) (fun g1_10 => ?_)))))
  ·
   refine zP rfl (gF h1_7) (zC rfl (zP rfl (gF h1_7) (yI rfl rfl rfl ?_)))
   exact yP rfl (fun _ hw => hw)
  refine zA (zU rfl (fun c1 => ?_) (fun c1 => ?_))
  ·
   refine zB (zD rfl (zD rfl (zA ?_)))
   exact zM (xK (v := Vi 0) (v' := Vi 1) rfl rfl rfl (fun w' hw => ⟨0, 1, kb, rfl, (zDQ c1).symm, zEv (zDQ c1) (by decide), rfl, hw⟩))
  ·
   refine zK (zB (zC rfl (zm rfl rfl (zQ (o := 0) rfl rfl (zT 0 (v := .map (some bm)) rfl rfl rfl rfl (zC rfl (zEY (k := k) (kv := kb) (zv := 0) zCK zBn zCY rfl rfl (fun w' hw' => Own.holds hw' 1 _ rfl) rfl (zC rfl (zo (vs := [Vi ((zw k kb).getD 0), .bool ((zw k kb).isSome)]) rfl rfl rfl (zo (vs := [Vi ((zw k kb).getD 0), .bool ((zw k kb).isSome)]) rfl rfl rfl (zD rfl (zD rfl ?_))))))))))))
   refine zA (zL (zS (zB (zC rfl (yu rfl rfl rfl (zD rfl (zA (zU rfl (fun c2 => ?_) (fun c2 => ?_)))))))))
   ·
    refine zd (zC rfl (zm rfl rfl (zQ (o := 0) rfl rfl (zT 0 (v := .map (some bm)) rfl rfl rfl rfl (zC rfl (zFW 1 (k := k) zCK zBn rfl rfl rfl (zA (zB (zC rfl (zC rfl (zJ rfl rfl (fun w' hw => (zAQ b bm lm now cnt kl k w' (hw.give [0, 2] rfl (by decide))).mono ?_))))))))))))
    rintro _ w1 ⟨n1_, rfl, hf9_2, hO⟩
    refine (?_ : CL _ _ _ _ _ _ (Own w S [Res.mp Value.string yC bm (kx k kb), Res.row b 111 [.map (some bm), .map (some lm), Vi now, Vn cnt], Res.mp yB zX lm kl])) w1 (hw.frameL [0, 2] rfl hO)
    refine zD rfl (zD rfl (zA ?_))
    exact zM (xK (v := Vi n1_) (v' := Vi 0) rfl rfl rfl (fun w' hw => ⟨n1_, 0, kx k kb, rfl, (zDV c1 c2).symm, zIH (zDV c1 c2) c2, hf9_2, hw.sel [1, 0, 2] rfl (by decide)⟩))
   ·
    refine zB (zC rfl (ka (b := (zw k kb).isSome) rfl rfl (zC rfl (yR (q := (!((zw k kb).isSome)) = true) 6 2 [53, 52, 51, 50, 49, 48] (64 ≤ ((kb.length : Nat) : Int)) rfl rfl (yc _) rfl rfl rfl trivial rfl (fun h7_2 => ?_) (fun g7_9 => ?_)))))
    ·
     refine zP rfl (bT h7_2) (zC rfl (zP rfl (bT h7_2) (zm rfl rfl (zP rfl (bT h7_2) (zQ (o := 0) rfl rfl (zP rfl (bT h7_2) (zT 0 (v := .map (some bm)) rfl rfl rfl rfl (zP rfl (bT h7_2) (zEP Value.string yC (kv := kb) zBn rfl (fun w' hw' => Own.holds hw' 1 _ rfl) rfl (zP rfl (bT h7_2) (xC rfl rfl rfl ?_)))))))))))
     exact yP rfl (fun _ hw => hw)
    refine zD rfl (zA (zU rfl (fun c3 => ?_) (fun c3 => ?_)))
    ·
     refine zB (zD rfl (zD rfl (zA ?_)))
     exact zM (xK (v := Vi 0) (v' := Vi 7) rfl rfl rfl (fun w' hw => ⟨0, 7, kb, rfl, (zC9 c1 c2 c3).symm, zEv (zC9 c1 c2 c3) (by decide), rfl, hw⟩))
    ·
     refine zd (zC rfl (zm rfl rfl (zQ (o := 0) rfl rfl (zT 0 (v := .map (some bm)) rfl rfl rfl rfl (zC rfl (zC rfl (jR 1 (k := k) (v := a) zCK zBn rfl rfl rfl rfl (zA (zB (zC rfl (zC rfl (zJ rfl rfl (fun w' hw => ?_)))))))))))))
     refine (zAQ b bm lm now cnt kl k w' (hw.give [0, 2] rfl (by decide))).mono ?_
     rintro _ w1 ⟨n2_, rfl, hf9_2, hO⟩
     refine (?_ : CL _ _ _ _ _ _ (Own w S [Res.mp Value.string yC bm (xL k a kb), Res.row b 111 [.map (some bm), .map (some lm), Vi now, Vn cnt], Res.mp yB zX lm kl])) w1 (hw.frameL [0, 2] rfl hO)
     refine zD rfl (zD rfl (zA ?_))
     exact zM (xK (v := Vi n2_) (v' := Vi 0) rfl rfl rfl (fun w' hw => ⟨n2_, 0, xL k a kb, rfl, (zDm c1 c3).symm, zI5 (zDm c1 c3) c2, hf9_2, hw.sel [1, 0, 2] rfl (by decide)⟩))
theorem zKp {S : List Nat} (b bm lm : Nat) (now : Int) (cnt : Nat) (kb : List (ByteArray × Int)) (kl : List (Nat × LeaD)) (k : ByteArray) (w : World) (hin : Own w S [Res.row b 111 [.map (some bm), .map (some lm), Vi now, Vn cnt], Res.mp Value.string yC bm kb, Res.mp yB zX lm kl] w) : Rets Tryz.prog 71 #[.pointer (some ⟨b, 0, none⟩), .string k] w fun u_ w' => ∃ (n : Int), u_ = .tuple #[Vi ((zw k kb).getD 0), Vi n] ∧ n = yf k kl ∧ Own w S [Res.row b 111 [.map (some bm), .map (some lm), Vi now, Vn cnt], Res.mp Value.string yC bm kb, Res.mp yB zX lm kl] w' := by
  refine zW Tryz.func71 rfl Tryz.ntmps71 hin ?_
  refine zB (zD rfl (zD rfl (zA (zL (zB (zC rfl (xF (by kernel_rfl) rfl rfl rfl (zA (xP rfl (zK (zL (zh [1] rfl (by decide) (by kernel_rfl) (fun w' hw hS => ?_)))))))))))))
  refine zF 0 rfl (zO) hS (zF 1 rfl (yA rfl) hS (zF 2 rfl (zk (o := 0) rfl) hS (zF 4 rfl (zO) hS (zF 6 rfl (zO) hS (zF 7 rfl (zO) hS (zl 3 8 ?_ ?_))))))
  ·
   refine zY 3 rfl hw (zT 0 (v := .map (some bm)) rfl rfl rfl rfl (zG [1] rfl (by decide) (fun w' hw hS => zF 5 rfl (zFF (k := k) (kv := kb) (zv := 0) zCK zBn zCY rfl rfl (fun w' hw' => Own.holds hw' 0 _ rfl)) hS (zZ 8 rfl hw (zJ rfl rfl (fun w' hw => (zAQ b bm lm now cnt kl k w' (hw.give [0, 2] rfl (by decide))).mono ?_))))))
   rintro _ w1 ⟨n1_, rfl, hf3_8, hO⟩
   refine (?_ : CL _ _ _ _ _ _ (Own w S [Res.mp Value.string yC bm kb, Res.row b 111 [.map (some bm), .map (some lm), Vi now, Vn cnt], Res.mp yB zX lm kl])) w1 (hw.frameL [0, 2] rfl hO)
   refine zG [0] rfl (by decide) (fun w' hw hS => zF 9 rfl (yz) hS (zF 10 rfl (yz) hS (zR ?_)))
   refine (?_ : C _ _ _ _ _ _ _ (Own w S [Res.mp Value.string yC bm kb, Res.row b 111 [.map (some bm), .map (some lm), Vi now, Vn cnt], Res.mp yB zX lm kl])) _ hw
   exact zM (xK (v := Vi ((zw k kb).getD 0)) (v' := Vi n1_) rfl rfl rfl (fun w' hw => ⟨n1_, rfl, hf3_8, hw.sel [1, 0, 2] rfl (by decide)⟩))
  ·
   refine zY 8 rfl hw (zJ rfl rfl (fun w' hw => (zAQ b bm lm now cnt kl k w' (hw.give [0, 2] rfl (by decide))).mono ?_))
   rintro _ w1 ⟨n2_, rfl, hf3_8, hO⟩
   refine (?_ : CL _ _ _ _ _ _ (Own w S [Res.mp Value.string yC bm kb, Res.row b 111 [.map (some bm), .map (some lm), Vi now, Vn cnt], Res.mp yB zX lm kl])) w1 (hw.frameL [0, 2] rfl hO)
   refine zG [0] rfl (by decide) (fun w' hw hS => zZ 3 rfl hw (zT 1 (v := .map (some bm)) rfl rfl rfl rfl (zG [0] rfl (by decide) (fun w' hw hS => zF 5 rfl (zFF (k := k) (kv := kb) (zv := 0) zCK zBn zCY rfl rfl (fun w' hw' => Own.holds hw' 0 _ rfl)) hS (zF 9 rfl (yz) hS (zF 10 rfl (yz) hS (zR ?_)))))))
   refine (?_ : C _ _ _ _ _ _ _ (Own w S [Res.mp Value.string yC bm kb, Res.row b 111 [.map (some bm), .map (some lm), Vi now, Vn cnt], Res.mp yB zX lm kl])) _ hw
   exact zM (xK (v := Vi ((zw k kb).getD 0)) (v' := Vi n2_) rfl rfl rfl (fun w' hw => ⟨n2_, rfl, hf3_8, hw.sel [1, 0, 2] rfl (by decide)⟩))
theorem zK8 (w : World) : Rets Tryz.prog 20 #[] w fun u_ w' => ∃ (b bm lm : Nat), u_ = .pointer (some ⟨b, 0, none⟩) ∧ Own w [] [Res.row b 111 [.map (some bm), .map (some lm), Vi 0, Vn 0], Res.mp Value.string yC bm ([] : List (ByteArray × Int)), Res.mp yB zX lm ([] : List (Nat × LeaD))] w' := by
  refine zW Tryz.func20 rfl Tryz.ntmps20 (Own.start w) ?_
  refine zB (zD rfl (zA (zB (zBS (α := Int) Value.string yC rfl rfl (fun m1 => zBS (α := LeaD) yB zX rfl rfl (fun m2 => yT (cs := [.map (some m1), .map (some m2), Vi 0, Vn 0]) (z := [.map none, .map none, Vi 0, Vn 0]) (pl := [(0, 1), (1, 1), (2, 1), (3, 1)]) (by kernel_rfl) (by kernel_rfl) rfl (yh rfl rfl (fun b4 => zD rfl (zA ?_)))))))))
  exact zM (z8 (v := .pointer (some ⟨b4, 0, none⟩)) rfl rfl (fun w' hw => ⟨b4, m1, m2, rfl, hw.sel [2, 0, 1] rfl (by decide)⟩))
theorem zMJ {S : List Nat} (b bm lm : Nat) (now : Int) (cnt : Nat) (kb : List (ByteArray × Int)) (kl : List (Nat × LeaD)) (s : Nat) (k : ByteArray) (a sp : Int) (w : World) (hlen : 0 ≤ yf k kl ∧ yf k kl ≤ 9223372036854775807) (ha : xM a) (ht : 0 ≤ now ∧ now ≤ 2305843009213693952) (hc : cnt ≤ 1000000000) (hin : Own w S [Res.row b 111 [.map (some bm), .map (some lm), Vi now, Vn cnt], Res.mp Value.string yC bm kb, Res.mp yB zX lm kl] w) : Rets Tryz.prog 64 #[.pointer (some ⟨b, 0, none⟩), Vn s, .string k, Vi a, Vi sp] w fun u_ w' => ∃ (x : LeaD) (e : Int) (cnt' : Nat) (kl' : List (Nat × LeaD)), u_ = .tuple #[.agg (LeaD.cells x).toArray, Vi e] ∧ e = kB s k a sp kb kl ∧ x = jj e cnt s k a (now + sp) ∧ cnt' = zC5 e cnt ∧ kl' = zGe e x kl ∧ Own w S [Res.row b 111 [.map (some bm), .map (some lm), Vi now, Vn cnt'], Res.mp Value.string yC bm kb, Res.mp yB zX lm kl'] w' := by
  refine zW Tryz.func64 rfl Tryz.ntmps64 hin ?_
  refine zB (yF (v := .agg #[Vn 0, Vn 0, .string (⟨#[]⟩ : ByteArray), Vi 0, Vi 0]) (by kernel_rfl) rfl (fun b10 => zD rfl (zA (zL (zB (zC rfl (xF (by kernel_rfl) rfl rfl rfl (zC rfl (zP rfl rfl (zC rfl (zP rfl rfl (yu rfl rfl rfl ?_))))))))))))
  refine kO rfl rfl (zC rfl (ya (q := ((s : Nat) : Int) = ((0 : Nat) : Int)) 3 6 [26, 25, 24] (¬ (yY k)) rfl rfl rfl rfl rfl rfl trivial rfl (fun h1_6 => ?_) (fun g1_10 => ?_)))
  ·
   refine zP rfl (gF h1_6) (zC rfl (zP rfl (gF h1_6) (zJ rfl rfl (fun w' hw => (zCG k w').mono ?_))))
   rintro _ w1 ⟨rfl, hO⟩
   refine (?_ : CL _ _ _ _ _ _ (Own w S [Res.row b 111 [.map (some bm), .map (some lm), Vi now, Vn cnt], Res.mp Value.string yC bm kb, Res.mp yB zX lm kl, Res.row b10 76 [Vn 0, Vn 0, .string (⟨#[]⟩ : ByteArray), Vi 0, Vi 0]])) w1 (hw.frame0 hO)
   refine zP rfl (gF h1_6) (xp (q := yY k) rfl rfl ?_)
   exact yP rfl (fun _ hw => hw)
  refine zC rfl (ya (q := (((s : Nat) : Int) = ((0 : Nat) : Int)) ∨ (¬ (yY k))) 2 11 [30, 29] (a < 1) rfl rfl rfl rfl rfl rfl trivial rfl (fun h1_11 => ?_) (fun g1_14 => ?_))
  ·
   refine zP rfl (gF h1_11) (zC rfl (zP rfl (gF h1_11) (yI rfl rfl rfl ?_)))
   exact yP rfl (fun _ hw => hw)
  refine zC rfl (ya (q := ((((s : Nat) : Int) = ((0 : Nat) : Int)) ∨ (¬ (yY k))) ∨ (a < 1)) 3 15 [35, 34, 33] (¬ (y5 sp)) rfl rfl rfl rfl rfl rfl trivial rfl (fun h1_15 => ?_) (fun g1_19 => ?_))
  ·
   refine zP rfl (gF h1_15) (zC rfl (zP rfl (gF h1_15) (zJ rfl rfl (fun w' hw => (zIN sp w').mono ?_))))
   rintro _ w1 ⟨rfl, hO⟩
   refine (?_ : CL _ _ _ _ _ _ (Own w S [Res.row b 111 [.map (some bm), .map (some lm), Vi now, Vn cnt], Res.mp Value.string yC bm kb, Res.mp yB zX lm kl, Res.row b10 76 [Vn 0, Vn 0, .string (⟨#[]⟩ : ByteArray), Vi 0, Vi 0]])) w1 (hw.frame0 hO)
   refine zP rfl (gF h1_15) (xp (q := y5 sp) rfl rfl ?_)
   exact yP rfl (fun _ hw => hw)
  refine zA (zU rfl (fun c1 => ?_) (fun c1 => ?_))
  ·
   refine zB (yT (cs := [Vn 0, Vn 0, .string (⟨#[]⟩ : ByteArray), Vi 0, Vi 0]) (z := [Vn 0, Vn 0, .string (⟨#[]⟩ : ByteArray), Vi 0, Vi 0]) (pl := [(0, 1), (1, 1), (2, 1), (3, 1), (4, 1)]) (by kernel_rfl) (by kernel_rfl) rfl (zi 3 rfl rfl rfl (z7 rfl) rfl (zD rfl (zA ?_))))
   exact zM (yK (cs := [Vn 0, Vn 0, .string (⟨#[]⟩ : ByteArray), Vi 0, Vi 0]) (v := Vi 1) rfl rfl rfl (by kernel_rfl) (Own.rowCells (i := 3) rfl) (fun w' hw => ⟨LeaD.zero, 1, cnt, kl, rfl, (zLL (larg.1 c1)).symm, rfl, rfl, rfl, hw.sel [0, 1, 2] rfl (by decide)⟩))
  ·
   have hla : ¬ xA s k a sp := fun q => c1 (larg.2 q)
   have hsp : y5 sp := Decidable.by_contra fun q => c1 (.inr q)
   have ha1 : 1 ≤ a := Int.not_lt.1 fun q => c1 (.inl (.inr q))
   unfold y5 at hsp
   refine zK (zB (zC rfl (zm rfl rfl (zQ (o := 0) rfl rfl (zT 0 (v := .map (some bm)) rfl rfl rfl rfl (zC rfl (zEY (k := k) (kv := kb) (zv := 0) zCK zBn zCY rfl rfl (fun w' hw' => Own.holds hw' 1 _ rfl) rfl (zC rfl (zo (vs := [Vi ((zw k kb).getD 0), .bool ((zw k kb).isSome)]) rfl rfl rfl (zo (vs := [Vi ((zw k kb).getD 0), .bool ((zw k kb).isSome)]) rfl rfl rfl (zD rfl (zD rfl ?_))))))))))))
   refine zA (zL (zB (zC rfl (ka (b := (zw k kb).isSome) rfl rfl (zA (zCt rfl (fun c2 => ?_) (fun c2 => ?_)))))))
   ·
    refine zB (yT (cs := [Vn 0, Vn 0, .string (⟨#[]⟩ : ByteArray), Vi 0, Vi 0]) (z := [Vn 0, Vn 0, .string (⟨#[]⟩ : ByteArray), Vi 0, Vi 0]) (pl := [(0, 1), (1, 1), (2, 1), (3, 1), (4, 1)]) (by kernel_rfl) (by kernel_rfl) rfl (zi 3 rfl rfl rfl (z7 rfl) rfl (zD rfl (zA ?_))))
    exact zM (yK (cs := [Vn 0, Vn 0, .string (⟨#[]⟩ : ByteArray), Vi 0, Vi 0]) (v := Vi 8) rfl rfl rfl (by kernel_rfl) (Own.rowCells (i := 3) rfl) (fun w' hw => ⟨LeaD.zero, 8, cnt, kl, rfl, (zNP hla c2).symm, rfl, rfl, rfl, hw.sel [0, 1, 2] rfl (by decide)⟩))
   ·
    have hc2 : ¬ (!(zw k kb).isSome) = true := by rw [c2]; decide
    refine zK (zB (zC rfl (zC rfl (zJ rfl rfl (fun w' hw => (zAQ b bm lm now cnt kl k w' (hw.give [0, 2] rfl (by decide))).mono ?_)))))
    rintro _ w1 ⟨n1_, rfl, hf6_2, hO⟩
    refine (?_ : CL _ _ _ _ _ _ (Own w S [Res.mp Value.string yC bm kb, Res.row b10 76 [Vn 0, Vn 0, .string (⟨#[]⟩ : ByteArray), Vi 0, Vi 0], Res.row b 111 [.map (some bm), .map (some lm), Vi now, Vn cnt], Res.mp yB zX lm kl])) w1 (hw.frameL [0, 2] rfl hO)
    refine zC rfl (ym (e := 2) (sz := 1) (vs := [Vi n1_, Vi a]) (by kernel_rfl) rfl rfl (by simp [Value.cells]) (by decide) rfl (fun b55 => zJ rfl rfl (fun w' hw => (zGJ (.slice (some ⟨b55, 0, none⟩) 2 2) [n1_, a] w' rfl (by show 0 ≤ n1_ ∧ n1_ ≤ _; rw [hf6_2]; exact hlen) (by show _ ≤ a ∧ a ≤ _; exact ⟨by omega, ha.2⟩) (hw.rdVec0 4 rfl)).mono ?_)))
    rintro _ w1 ⟨n2_, e3_, rfl, hf6_5, hO⟩
    have hsum := zHp hf6_5 hf6_2
    refine (?_ : CL _ _ _ _ _ _ (Own w S [Res.mp Value.string yC bm kb, Res.row b10 76 [Vn 0, Vn 0, .string (⟨#[]⟩ : ByteArray), Vi 0, Vi 0], Res.row b 111 [.map (some bm), .map (some lm), Vi now, Vn cnt], Res.mp yB zX lm kl, Res.vec 2 1 (.slice (some ⟨b55, 0, none⟩) 2 2) [n1_, a].length ([n1_, a].flatMap I1)])) w1 (hw.frame0 hO)
    refine zC rfl (zo (vs := [Vi n2_, Vi e3_]) rfl rfl rfl (zo (vs := [Vi n2_, Vi e3_]) rfl rfl rfl (zD rfl (zD rfl (zA (zL (zS (zB (zC rfl (xq rfl rfl rfl (zD rfl (zA ?_))))))))))))
    refine zU rfl (fun c3 => ?_) (fun c3 => ?_)
    ·
     refine zB (yT (cs := [Vn 0, Vn 0, .string (⟨#[]⟩ : ByteArray), Vi 0, Vi 0]) (z := [Vn 0, Vn 0, .string (⟨#[]⟩ : ByteArray), Vi 0, Vi 0]) (pl := [(0, 1), (1, 1), (2, 1), (3, 1), (4, 1)]) (by kernel_rfl) (by kernel_rfl) rfl (zC rfl (zi 1 rfl rfl rfl (z7 rfl) rfl (zD rfl (zA ?_)))))
     exact zM (yK (cs := [Vn 0, Vn 0, .string (⟨#[]⟩ : ByteArray), Vi 0, Vi 0]) (v := Vi e3_) rfl rfl rfl (by kernel_rfl) (Own.rowCells (i := 1) rfl) (fun w' hw => ⟨LeaD.zero, e3_, cnt, kl, rfl, (by rw [(zAF hsum c3).2]; exact (zM8 hla hc2 (zAF hsum c3).1).symm), (by rw [(zAF hsum c3).2]; rfl), (by rw [(zAF hsum c3).2]; rfl), (by rw [(zAF hsum c3).2]; rfl), hw.sel [2, 0, 3] rfl (by decide)⟩))
    ·
     refine zB (zC rfl (zC rfl (yi rfl rfl rfl (zD rfl (zA (zU rfl (fun c4 => ?_) (fun c4 => ?_)))))))
     ·
      refine zB (yT (cs := [Vn 0, Vn 0, .string (⟨#[]⟩ : ByteArray), Vi 0, Vi 0]) (z := [Vn 0, Vn 0, .string (⟨#[]⟩ : ByteArray), Vi 0, Vi 0]) (pl := [(0, 1), (1, 1), (2, 1), (3, 1), (4, 1)]) (by kernel_rfl) (by kernel_rfl) rfl (zi 1 rfl rfl rfl (z7 rfl) rfl (zD rfl (zA ?_))))
      exact zM (yK (cs := [Vn 0, Vn 0, .string (⟨#[]⟩ : ByteArray), Vi 0, Vi 0]) (v := Vi 16) rfl rfl rfl (by kernel_rfl) (Own.rowCells (i := 1) rfl) (fun w' hw => ⟨LeaD.zero, 16, cnt, kl, rfl, (zMS hla hc2 (jY hsum c3).1 (by rw [← (jY hsum c3).2]; exact c4)).symm, rfl, rfl, rfl, hw.sel [2, 0, 3] rfl (by decide)⟩))
     ·
      refine zB (zC rfl (zm rfl rfl (zQ (o := 1) rfl rfl (zT 2 (v := .map (some lm)) rfl rfl rfl rfl (zEP yB zX (kv := kl) zB6 rfl (fun w' hw' => Own.holds hw' 3 _ rfl) rfl (xC rfl rfl rfl (zD rfl (zA (zU rfl (fun c5 => ?_) (fun c5 => ?_))))))))))
      ·
       refine zB (yT (cs := [Vn 0, Vn 0, .string (⟨#[]⟩ : ByteArray), Vi 0, Vi 0]) (z := [Vn 0, Vn 0, .string (⟨#[]⟩ : ByteArray), Vi 0, Vi 0]) (pl := [(0, 1), (1, 1), (2, 1), (3, 1), (4, 1)]) (by kernel_rfl) (by kernel_rfl) rfl (zi 1 rfl rfl rfl (z7 rfl) rfl (zD rfl (zA ?_))))
       exact zM (yK (cs := [Vn 0, Vn 0, .string (⟨#[]⟩ : ByteArray), Vi 0, Vi 0]) (v := Vi 7) rfl rfl rfl (by kernel_rfl) (Own.rowCells (i := 1) rfl) (fun w' hw => ⟨LeaD.zero, 7, cnt, kl, rfl, (zNN hla hc2 (jY hsum c3).1 (by rw [← (jY hsum c3).2]; exact c4) c5).symm, rfl, rfl, rfl, hw.sel [2, 0, 3] rfl (by decide)⟩))
      ·
       refine zK (zB (zC rfl (zm rfl rfl (zQ (o := 3) rfl rfl (zT 2 (v := Vn cnt) rfl rfl rfl rfl (zu rfl rfl (kY (by omega)) rfl (zm rfl rfl (zQ (o := 3) rfl rfl (yk (cs := [.map (some bm), .map (some lm), Vi now, Vn cnt]) 2 rfl rfl rfl rfl rfl (zA (zL (zh [0, 1, 2, 3, 4] rfl (by decide) (by kernel_rfl) (fun w' hw hS => ?_)))))))))))))
       refine zF 0 rfl (zO) hS (zF 1 rfl (yA rfl) hS (zF 2 rfl (zk (o := 3) rfl) hS (zF 3 rfl (zr 2 (v := Vn (cnt + 1)) rfl rfl rfl) hS (zF 4 rfl (zO) hS (zF 5 rfl (zO) hS (zF 6 rfl (zO) hS (zF 7 rfl (zO) hS (zF 8 rfl (yA rfl) hS (zF 9 rfl (zk (o := 2) rfl) hS (zF 10 rfl (zr 2 (v := Vi now) rfl rfl rfl) hS (zF 11 rfl (zO) hS (zF 12 rfl (x2 rfl rfl (zt (by omega))) hS ?_))))))))))))
       refine zF 13 rfl (j0 (cs := [Vn (cnt + 1), Vn s, .string k, Vi a, Vi (now + sp)]) (z := [Vn 0, Vn 0, .string (⟨#[]⟩ : ByteArray), Vi 0, Vi 0]) (pl := [(0, 1), (1, 1), (2, 1), (3, 1), (4, 1)]) (by kernel_rfl) (by kernel_rfl)) hS (zZ 14 rfl hw (yF (v := .agg #[Vn 0, Vn 0, .string (⟨#[]⟩ : ByteArray), Vi 0, Vi 0]) (by kernel_rfl) rfl (fun b16 => zG [0, 1, 2, 3, 4] rfl (by decide) (fun w' hw hS => zZ 15 rfl hw (zi 5 rfl rfl rfl (z7 rfl) rfl (zG [0, 1, 2, 3, 4] rfl (by decide) (fun w' hw hS => zR ?_)))))))
       refine (?_ : C _ _ _ _ _ _ _ (Own w S [Res.mp Value.string yC bm kb, Res.row b10 76 [Vn 0, Vn 0, .string (⟨#[]⟩ : ByteArray), Vi 0, Vi 0], Res.row b 111 [.map (some bm), .map (some lm), Vi now, Vn (cnt + 1)], Res.mp yB zX lm kl, Res.vec 2 1 (.slice (some ⟨b55, 0, none⟩) 2 2) [n1_, a].length ([n1_, a].flatMap I1), Res.row b16 76 [Vn (cnt + 1), Vn s, .string k, Vi a, Vi (now + sp)]])) _ hw
       refine zL (zh [0, 1, 2, 4, 5] rfl (by decide) (by kernel_rfl) (fun w' hw hS => zF 0 rfl (zO) hS (zF 1 rfl (yA rfl) hS (zF 2 rfl (zk (o := 1) rfl) hS (zF 3 rfl (zr 2 (v := .map (some lm)) rfl rfl rfl) hS (zF 4 rfl (zk (o := 0) rfl) hS (zF 5 rfl (zr 4 (v := Vn (cnt + 1)) rfl rfl rfl) hS (zF 6 rfl (kQ (cs := [Vn (cnt + 1), Vn s, .string k, Vi a, Vi (now + sp)]) 4 rfl rfl) hS (zZ 7 rfl hw (jR 3 (k := cnt + 1) (v := ({ id := cnt + 1, session := s, key := k, amount := a, until_ := now + sp } : LeaD)) zFE zB6 rfl rfl rfl rfl (zG [0, 1, 2, 4, 5] rfl (by decide) (fun w' hw hS => zR ?_))))))))))))
       refine (?_ : C _ _ _ _ _ _ _ (Own w S [Res.mp Value.string yC bm kb, Res.row b10 76 [Vn 0, Vn 0, .string (⟨#[]⟩ : ByteArray), Vi 0, Vi 0], Res.row b 111 [.map (some bm), .map (some lm), Vi now, Vn (cnt + 1)], Res.mp yB zX lm (xL (cnt + 1) ({ id := cnt + 1, session := s, key := k, amount := a, until_ := now + sp } : LeaD) kl), Res.vec 2 1 (.slice (some ⟨b55, 0, none⟩) 2 2) [n1_, a].length ([n1_, a].flatMap I1), Res.row b16 76 [Vn (cnt + 1), Vn s, .string k, Vi a, Vi (now + sp)]])) _ hw
       refine zB (yO (cs := [Vn (cnt + 1), Vn s, .string k, Vi a, Vi (now + sp)]) 5 rfl rfl rfl (zi 1 rfl rfl rfl (z7 rfl) rfl (zD rfl (zA ?_))))
       exact zM (yK (cs := [Vn (cnt + 1), Vn s, .string k, Vi a, Vi (now + sp)]) (v := Vi 0) rfl rfl rfl (by kernel_rfl) (Own.rowCells (i := 1) rfl) (fun w' hw => ⟨⟨cnt + 1, s, k, a, now + sp⟩, 0, cnt + 1, xL (cnt + 1) ⟨cnt + 1, s, k, a, now + sp⟩ kl, rfl, (zNC hla hc2 (jY hsum c3).1 (by rw [← (jY hsum c3).2]; exact c4) c5).symm, rfl, rfl, rfl, hw.sel [2, 0, 3] rfl (by decide)⟩))
theorem zKB {S : List Nat} (b bm lm : Nat) (now : Int) (cnt : Nat) (kb : List (ByteArray × Int)) (kl : List (Nat × LeaD)) (s i : Nat) (sp : Int) (w : World) (ht : 0 ≤ now ∧ now ≤ 2305843009213693952) (hin : Own w S [Res.row b 111 [.map (some bm), .map (some lm), Vi now, Vn cnt], Res.mp Value.string yC bm kb, Res.mp yB zX lm kl] w) : Rets Tryz.prog 65 #[.pointer (some ⟨b, 0, none⟩), Vn s, Vn i, Vi sp] w fun u_ w' => ∃ (x : LeaD) (e : Int) (kl' : List (Nat × LeaD)), u_ = .tuple #[.agg (LeaD.cells x).toArray, Vi e] ∧ zBh now kb kl s i sp x e kl' ∧ Own w S [Res.row b 111 [.map (some bm), .map (some lm), Vi now, Vn cnt], Res.mp Value.string yC bm kb, Res.mp yB zX lm kl'] w' := by
  refine zW Tryz.func65 rfl Tryz.ntmps65 hin ?_
  refine zB (yF (v := .agg #[Vn 0, Vn 0, .string (⟨#[]⟩ : ByteArray), Vi 0, Vi 0]) (by kernel_rfl) rfl (fun b8 => zD rfl (zA (zL (zB (zC rfl (xF (by kernel_rfl) rfl rfl rfl (zC rfl (zP rfl rfl (zC rfl (zP rfl rfl (zJ rfl rfl (fun w' hw => ?_)))))))))))))
  refine (zIN sp w').mono ?_
  rintro _ w1 ⟨rfl, hO⟩
  refine (?_ : CL _ _ _ _ _ _ (Own w S [Res.row b 111 [.map (some bm), .map (some lm), Vi now, Vn cnt], Res.mp Value.string yC bm kb, Res.mp yB zX lm kl, Res.row b8 76 [Vn 0, Vn 0, .string (⟨#[]⟩ : ByteArray), Vi 0, Vi 0]])) w1 (hw.frame0 hO)
  refine zP rfl rfl (xp (q := y5 sp) rfl rfl (kO rfl rfl (zA (zU rfl (fun c1 => ?_) (fun c1 => ?_)))))
  ·
   refine zB (yT (cs := [Vn 0, Vn 0, .string (⟨#[]⟩ : ByteArray), Vi 0, Vi 0]) (z := [Vn 0, Vn 0, .string (⟨#[]⟩ : ByteArray), Vi 0, Vi 0]) (pl := [(0, 1), (1, 1), (2, 1), (3, 1), (4, 1)]) (by kernel_rfl) (by kernel_rfl) rfl (zi 3 rfl rfl rfl (z7 rfl) rfl (zD rfl (zA ?_))))
   exact zM (yK (cs := [Vn 0, Vn 0, .string (⟨#[]⟩ : ByteArray), Vi 0, Vi 0]) (v := Vi 1) rfl rfl rfl (by kernel_rfl) (Own.rowCells (i := 3) rfl) (fun w' hw => ⟨LeaD.zero, 1, kl, rfl, .inl ⟨c1, rfl, rfl, rfl⟩, hw.sel [0, 1, 2] rfl (by decide)⟩))
  ·
   have hsp : 1 ≤ sp ∧ sp ≤ 1099511627776 := Decidable.not_not.1 c1
   refine zK (zB (zC rfl (zC rfl (zC rfl (zJ rfl rfl (fun w' hw => (zI3 b bm lm now cnt kl s i w' (hw.give [0, 2] rfl (by decide))).mono ?_))))))
   rintro _ w1 ⟨x1_, e2_, rfl, hf3_3, hO⟩
   refine (?_ : CL _ _ _ _ _ _ (Own w S [Res.mp Value.string yC bm kb, Res.row b8 76 [Vn 0, Vn 0, .string (⟨#[]⟩ : ByteArray), Vi 0, Vi 0], Res.row b 111 [.map (some bm), .map (some lm), Vi now, Vn cnt], Res.mp yB zX lm kl])) w1 (hw.frameL [0, 2] rfl hO)
   refine zC rfl (zo (vs := [.agg (LeaD.cells x1_).toArray, Vi e2_]) rfl rfl rfl (zo (vs := [.agg (LeaD.cells x1_).toArray, Vi e2_]) rfl rfl rfl (yF (v := .agg #[Vn 0, Vn 0, .string (⟨#[]⟩ : ByteArray), Vi 0, Vi 0]) (by kernel_rfl) rfl (fun b10 => zi 4 rfl rfl rfl (z7 rfl) rfl (zD rfl (zA (zL (zS (zB (zC rfl (xq rfl rfl rfl (zD rfl ?_))))))))))))
   refine zA (zU rfl (fun c2 => ?_) (fun c2 => ?_))
   ·
    refine zB (yT (cs := [Vn 0, Vn 0, .string (⟨#[]⟩ : ByteArray), Vi 0, Vi 0]) (z := [Vn 0, Vn 0, .string (⟨#[]⟩ : ByteArray), Vi 0, Vi 0]) (pl := [(0, 1), (1, 1), (2, 1), (3, 1), (4, 1)]) (by kernel_rfl) (by kernel_rfl) rfl (zC rfl (zi 1 rfl rfl rfl (z7 rfl) rfl (zD rfl (zA ?_)))))
    exact zM (yK (cs := [Vn 0, Vn 0, .string (⟨#[]⟩ : ByteArray), Vi 0, Vi 0]) (v := Vi e2_) rfl rfl rfl (by kernel_rfl) (Own.rowCells (i := 1) rfl) (fun w' hw => ⟨LeaD.zero, e2_, kl, rfl, zHD c1 hf3_3 c2, hw.sel [2, 0, 3] rfl (by decide)⟩))
   ·
    refine zL (zh [0, 1, 4] rfl (by decide) (by kernel_rfl) (fun w' hw hS => zF 0 rfl (zO) hS (zF 1 rfl (zk (o := 2) rfl) hS (zF 2 rfl (zr 2 (v := .string x1_.key) rfl rfl rfl) hS (zF 4 rfl (zO) hS (zF 5 rfl (yA rfl) hS (zF 6 rfl (zk (o := 0) rfl) hS (zF 8 rfl (zk (o := 2) rfl) hS (zF 9 rfl (zr 2 (v := .string x1_.key) rfl rfl rfl) hS (zl 3 7 ?_ ?_))))))))))
    ·
     refine zY 3 rfl hw (zJ rfl rfl (fun w' hw => (zAQ b bm lm now cnt kl x1_.key w' (hw.give [2, 3] rfl (by decide))).mono ?_))
     rintro _ w1 ⟨n3_, rfl, hf6_3, hO⟩
     refine (?_ : CL _ _ _ _ _ _ (Own w S [Res.mp Value.string yC bm kb, Res.row b8 76 [Vn 0, Vn 0, .string (⟨#[]⟩ : ByteArray), Vi 0, Vi 0], Res.row b10 76 (LeaD.cells x1_), Res.row b 111 [.map (some bm), .map (some lm), Vi now, Vn cnt], Res.mp yB zX lm kl])) w1 (hw.frameL [2, 3] rfl hO)
     refine zG [0, 1, 2] rfl (by decide) (fun w' hw hS => zZ 7 rfl hw (zT 3 (v := .map (some bm)) rfl rfl rfl rfl (zG [0, 1, 2] rfl (by decide) (fun w' hw hS => zF 10 rfl (zFF (k := x1_.key) (kv := kb) (zv := 0) zCK zBn zCY rfl rfl (fun w' hw' => Own.holds hw' 0 _ rfl)) hS (zF 11 rfl (zAp rfl rfl) hS (zF 12 rfl (yz) hS (zR ?_)))))))
     refine (?_ : C _ _ _ _ _ _ _ (Own w S [Res.mp Value.string yC bm kb, Res.row b8 76 [Vn 0, Vn 0, .string (⟨#[]⟩ : ByteArray), Vi 0, Vi 0], Res.row b10 76 (LeaD.cells x1_), Res.row b 111 [.map (some bm), .map (some lm), Vi now, Vn cnt], Res.mp yB zX lm kl])) _ hw
     refine zU rfl (fun c3 => ?_) (fun c3 => ?_)
     ·
      refine zB (yT (cs := [Vn 0, Vn 0, .string (⟨#[]⟩ : ByteArray), Vi 0, Vi 0]) (z := [Vn 0, Vn 0, .string (⟨#[]⟩ : ByteArray), Vi 0, Vi 0]) (pl := [(0, 1), (1, 1), (2, 1), (3, 1), (4, 1)]) (by kernel_rfl) (by kernel_rfl) rfl (zi 1 rfl rfl rfl (z7 rfl) rfl (zD rfl (zA ?_))))
      exact zM (yK (cs := [Vn 0, Vn 0, .string (⟨#[]⟩ : ByteArray), Vi 0, Vi 0]) (v := Vi 16) rfl rfl rfl (by kernel_rfl) (Own.rowCells (i := 1) rfl) (fun w' hw => ⟨LeaD.zero, 16, kl, rfl, zFH c1 hf3_3 c2 hf6_3 c3, hw.sel [3, 0, 4] rfl (by decide)⟩))
     ·
      refine zK (zL (zh [0, 1, 3, 4] rfl (by decide) (by kernel_rfl) (fun w' hw hS => zF 0 rfl (zk (o := 4) rfl) hS (zF 2 rfl (zO) hS (zF 3 rfl (yA rfl) hS (zF 4 rfl (zk (o := 2) rfl) hS (zF 5 rfl (zr 2 (v := Vi now) rfl rfl rfl) hS (zF 6 rfl (zO) hS (zF 7 rfl (x2 rfl rfl (zt (by omega))) hS (zZ 1 rfl hw (zT 2 (v := Vi x1_.until_) rfl rfl rfl rfl (zG [0, 1, 3, 4] rfl (by decide) (fun w' hw hS => ?_)))))))))))))
      refine zF 8 rfl (zJb (c := max x1_.until_ (now + sp)) rfl rfl (zNe _ _)) hS (zF 9 rfl (zk (o := 4) rfl) hS (zZ 10 rfl hw (yk (cs := (LeaD.cells x1_)) 2 rfl rfl rfl rfl rfl (zG [0, 1, 3, 4] rfl (by decide) (fun w' hw hS => zR ?_)))))
      refine (?_ : C _ _ _ _ _ _ _ (Own w S [Res.mp Value.string yC bm kb, Res.row b8 76 [Vn 0, Vn 0, .string (⟨#[]⟩ : ByteArray), Vi 0, Vi 0], Res.row b10 76 [Vn x1_.id, Vn x1_.session, .string x1_.key, Vi x1_.amount, Vi (max x1_.until_ (now + sp))], Res.row b 111 [.map (some bm), .map (some lm), Vi now, Vn cnt], Res.mp yB zX lm kl])) _ hw
      refine zL (zh [0, 1, 2, 3] rfl (by decide) (by kernel_rfl) (fun w' hw hS => zF 0 rfl (zO) hS (zF 1 rfl (yA rfl) hS (zF 2 rfl (zk (o := 1) rfl) hS (zF 3 rfl (zr 3 (v := .map (some lm)) rfl rfl rfl) hS (zF 4 rfl (zO) hS (zF 5 rfl (kQ 2 rfl rfl) hS (zZ 6 rfl hw (jR 4 (k := i) (v := ({ x1_ with until_ := max x1_.until_ (now + sp) } : LeaD)) zFE zB6 rfl rfl rfl rfl (zG [0, 1, 2, 3] rfl (by decide) (fun w' hw hS => zR ?_)))))))))))
      refine (?_ : C _ _ _ _ _ _ _ (Own w S [Res.mp Value.string yC bm kb, Res.row b8 76 [Vn 0, Vn 0, .string (⟨#[]⟩ : ByteArray), Vi 0, Vi 0], Res.row b10 76 [Vn x1_.id, Vn x1_.session, .string x1_.key, Vi x1_.amount, Vi (max x1_.until_ (now + sp))], Res.row b 111 [.map (some bm), .map (some lm), Vi now, Vn cnt], Res.mp yB zX lm (xL i ({ x1_ with until_ := max x1_.until_ (now + sp) } : LeaD) kl)])) _ hw
      refine zB (yO 2 rfl rfl rfl (zi 1 rfl rfl rfl (z7 rfl) rfl (zD rfl (zA ?_))))
      exact zM (yK (cs := [Vn x1_.id, Vn x1_.session, .string x1_.key, Vi x1_.amount, Vi (max x1_.until_ (now + sp))]) (v := Vi 0) rfl rfl rfl (by kernel_rfl) (Own.rowCells (i := 1) rfl) (fun w' hw => ⟨xc x1_ (now + sp), 0, xL i (xc x1_ (now + sp)) kl, rfl, zGX c1 hf3_3 c2 hf6_3 c3, hw.sel [3, 0, 4] rfl (by decide)⟩))
    ·
     refine zY 7 rfl hw (zT 2 (v := .map (some bm)) rfl rfl rfl rfl (zG [0, 1, 4] rfl (by decide) (fun w' hw hS => zF 10 rfl (zFF (k := x1_.key) (kv := kb) (zv := 0) zCK zBn zCY rfl rfl (fun w' hw' => Own.holds hw' 0 _ rfl)) hS (zZ 3 rfl hw (zJ rfl rfl (fun w' hw => (zAQ b bm lm now cnt kl x1_.key w' (hw.give [2, 3] rfl (by decide))).mono ?_))))))
     rintro _ w1 ⟨n4_, rfl, hf6_3, hO⟩
     refine (?_ : CL _ _ _ _ _ _ (Own w S [Res.mp Value.string yC bm kb, Res.row b8 76 [Vn 0, Vn 0, .string (⟨#[]⟩ : ByteArray), Vi 0, Vi 0], Res.row b10 76 (LeaD.cells x1_), Res.row b 111 [.map (some bm), .map (some lm), Vi now, Vn cnt], Res.mp yB zX lm kl])) w1 (hw.frameL [2, 3] rfl hO)
     refine zG [0, 1, 2] rfl (by decide) (fun w' hw hS => zF 11 rfl (zAp rfl rfl) hS (zF 12 rfl (yz) hS (zR ?_)))
     refine (?_ : C _ _ _ _ _ _ _ (Own w S [Res.mp Value.string yC bm kb, Res.row b8 76 [Vn 0, Vn 0, .string (⟨#[]⟩ : ByteArray), Vi 0, Vi 0], Res.row b10 76 (LeaD.cells x1_), Res.row b 111 [.map (some bm), .map (some lm), Vi now, Vn cnt], Res.mp yB zX lm kl])) _ hw
     refine zU rfl (fun c4 => ?_) (fun c4 => ?_)
     ·
      refine zB (yT (cs := [Vn 0, Vn 0, .string (⟨#[]⟩ : ByteArray), Vi 0, Vi 0]) (z := [Vn 0, Vn 0, .string (⟨#[]⟩ : ByteArray), Vi 0, Vi 0]) (pl := [(0, 1), (1, 1), (2, 1), (3, 1), (4, 1)]) (by kernel_rfl) (by kernel_rfl) rfl (zi 1 rfl rfl rfl (z7 rfl) rfl (zD rfl (zA ?_))))
      exact zM (yK (cs := [Vn 0, Vn 0, .string (⟨#[]⟩ : ByteArray), Vi 0, Vi 0]) (v := Vi 16) rfl rfl rfl (by kernel_rfl) (Own.rowCells (i := 1) rfl) (fun w' hw => ⟨LeaD.zero, 16, kl, rfl, zFH c1 hf3_3 c2 hf6_3 c4, hw.sel [3, 0, 4] rfl (by decide)⟩))
     ·
      refine zK (zL (zh [0, 1, 3, 4] rfl (by decide) (by kernel_rfl) (fun w' hw hS => zF 0 rfl (zk (o := 4) rfl) hS (zF 2 rfl (zO) hS (zF 3 rfl (yA rfl) hS (zF 4 rfl (zk (o := 2) rfl) hS (zF 5 rfl (zr 2 (v := Vi now) rfl rfl rfl) hS (zF 6 rfl (zO) hS (zF 7 rfl (x2 rfl rfl (zt (by omega))) hS (zZ 1 rfl hw (zT 2 (v := Vi x1_.until_) rfl rfl rfl rfl (zG [0, 1, 3, 4] rfl (by decide) (fun w' hw hS => ?_)))))))))))))
      refine zF 8 rfl (zJb (c := max x1_.until_ (now + sp)) rfl rfl (zNe _ _)) hS (zF 9 rfl (zk (o := 4) rfl) hS (zZ 10 rfl hw (yk (cs := (LeaD.cells x1_)) 2 rfl rfl rfl rfl rfl (zG [0, 1, 3, 4] rfl (by decide) (fun w' hw hS => zR ?_)))))
      refine (?_ : C _ _ _ _ _ _ _ (Own w S [Res.mp Value.string yC bm kb, Res.row b8 76 [Vn 0, Vn 0, .string (⟨#[]⟩ : ByteArray), Vi 0, Vi 0], Res.row b10 76 [Vn x1_.id, Vn x1_.session, .string x1_.key, Vi x1_.amount, Vi (max x1_.until_ (now + sp))], Res.row b 111 [.map (some bm), .map (some lm), Vi now, Vn cnt], Res.mp yB zX lm kl])) _ hw
      refine zL (zh [0, 1, 2, 3] rfl (by decide) (by kernel_rfl) (fun w' hw hS => zF 0 rfl (zO) hS (zF 1 rfl (yA rfl) hS (zF 2 rfl (zk (o := 1) rfl) hS (zF 3 rfl (zr 3 (v := .map (some lm)) rfl rfl rfl) hS (zF 4 rfl (zO) hS (zF 5 rfl (kQ 2 rfl rfl) hS (zZ 6 rfl hw (jR 4 (k := i) (v := ({ x1_ with until_ := max x1_.until_ (now + sp) } : LeaD)) zFE zB6 rfl rfl rfl rfl (zG [0, 1, 2, 3] rfl (by decide) (fun w' hw hS => zR ?_)))))))))))
      refine (?_ : C _ _ _ _ _ _ _ (Own w S [Res.mp Value.string yC bm kb, Res.row b8 76 [Vn 0, Vn 0, .string (⟨#[]⟩ : ByteArray), Vi 0, Vi 0], Res.row b10 76 [Vn x1_.id, Vn x1_.session, .string x1_.key, Vi x1_.amount, Vi (max x1_.until_ (now + sp))], Res.row b 111 [.map (some bm), .map (some lm), Vi now, Vn cnt], Res.mp yB zX lm (xL i ({ x1_ with until_ := max x1_.until_ (now + sp) } : LeaD) kl)])) _ hw
      refine zB (yO 2 rfl rfl rfl (zi 1 rfl rfl rfl (z7 rfl) rfl (zD rfl (zA ?_))))
      exact zM (yK (cs := [Vn x1_.id, Vn x1_.session, .string x1_.key, Vi x1_.amount, Vi (max x1_.until_ (now + sp))]) (v := Vi 0) rfl rfl rfl (by kernel_rfl) (Own.rowCells (i := 1) rfl) (fun w' hw => ⟨xc x1_ (now + sp), 0, xL i (xc x1_ (now + sp)) kl, rfl, zGX c1 hf3_3 c2 hf6_3 c4, hw.sel [3, 0, 4] rfl (by decide)⟩))
theorem zLw {S : List Nat} (b bm lm : Nat) (now : Int) (cnt : Nat) (kl : List (Nat × LeaD)) (s i : Nat) (w : World) (hin : Own w S [Res.row b 111 [.map (some bm), .map (some lm), Vi now, Vn cnt], Res.mp yB zX lm kl] w) : Rets Tryz.prog 66 #[.pointer (some ⟨b, 0, none⟩), Vn s, Vn i] w fun u_ w' => ∃ (x : LeaD) (e : Int) (kl' : List (Nat × LeaD)), u_ = .tuple #[.agg (LeaD.cells x).toArray, Vi e] ∧ zFM kl s i x e kl' ∧ Own w S [Res.row b 111 [.map (some bm), .map (some lm), Vi now, Vn cnt], Res.mp yB zX lm kl'] w' := by
  refine zW Tryz.func66 rfl Tryz.ntmps66 hin ?_
  refine zB (yF (v := .agg #[Vn 0, Vn 0, .string (⟨#[]⟩ : ByteArray), Vi 0, Vi 0]) (by kernel_rfl) rfl (fun b6 => zD rfl (zA (zL (zB (zC rfl (xF (by kernel_rfl) rfl rfl rfl (zA (xP rfl (zK (zB (zC rfl ?_))))))))))))
  refine zC rfl (zC rfl (zJ rfl rfl (fun w' hw => (zI3 b bm lm now cnt kl s i w' (hw.give [0, 1] rfl (by decide))).mono ?_)))
  rintro _ w1 ⟨x1_, e2_, rfl, hf3_3, hO⟩
  refine (?_ : CL _ _ _ _ _ _ (Own w S [Res.row b6 76 [Vn 0, Vn 0, .string (⟨#[]⟩ : ByteArray), Vi 0, Vi 0], Res.row b 111 [.map (some bm), .map (some lm), Vi now, Vn cnt], Res.mp yB zX lm kl])) w1 (hw.frameL [0, 1] rfl hO)
  refine zC rfl (zo (vs := [.agg (LeaD.cells x1_).toArray, Vi e2_]) rfl rfl rfl (zo (vs := [.agg (LeaD.cells x1_).toArray, Vi e2_]) rfl rfl rfl (yF (v := .agg #[Vn 0, Vn 0, .string (⟨#[]⟩ : ByteArray), Vi 0, Vi 0]) (by kernel_rfl) rfl (fun b8 => zi 3 rfl rfl rfl (z7 rfl) rfl (zD rfl (zA (zL (zB (zC rfl (yu rfl rfl rfl (zA (zU rfl (fun c2 => ?_) (fun c2 => ?_)))))))))))))
  ·
   refine zd (zC rfl (zm rfl rfl (zQ (o := 1) rfl rfl (zT 1 (v := .map (some lm)) rfl rfl rfl rfl (zC rfl (zFW 2 (k := i) zFE zB6 rfl rfl rfl (zA (zB (yO (cs := (LeaD.cells x1_)) 3 rfl rfl rfl (zC rfl (zi 0 rfl rfl rfl (z7 rfl) rfl (zD rfl ?_))))))))))))
   refine zA ?_
   exact zM (yK (cs := (LeaD.cells x1_)) (v := Vi e2_) rfl rfl rfl (by kernel_rfl) (Own.rowCells (i := 0) rfl) (fun w' hw => ⟨x1_, e2_, kx i kl, rfl, zId hf3_3 c2, hw.sel [1, 2] rfl (by decide)⟩))
  ·
   refine zK (zB (yO (cs := (LeaD.cells x1_)) 3 rfl rfl rfl (zC rfl (zi 0 rfl rfl rfl (z7 rfl) rfl (zD rfl (zA ?_))))))
   exact zM (yK (cs := (LeaD.cells x1_)) (v := Vi e2_) rfl rfl rfl (by kernel_rfl) (Own.rowCells (i := 0) rfl) (fun w' hw => ⟨x1_, e2_, kl, rfl, zKq hf3_3 c2, hw.sel [1, 2] rfl (by decide)⟩))
theorem zMD {S : List Nat} (b bm lm : Nat) (now : Int) (cnt : Nat) (kl : List (Nat × LeaD)) (n : Int) (w : World) (ht : 0 ≤ now ∧ now ≤ 2305843009213693952) (hn : xM n) (hk : KNd kl) (hl : kl.length ≤ 128) (hin : Own w S [Res.row b 111 [.map (some bm), .map (some lm), Vi now, Vn cnt], Res.mp yB zX lm kl] w) : Rets Tryz.prog 55 #[.pointer (some ⟨b, 0, none⟩), Vi n] w fun u_ w' => ∃ (gv : Value) (gs : List Nat) (e now' : Int) (kl' : List (Nat × LeaD)), u_ = .tuple #[gv, Vi e] ∧ e = x0 now n ∧ now' = kg now n ∧ kl' = kC now n kl ∧ gs.Perm (zCu now n kl) ∧ gs.Pairwise (fun x y => x ≤ y) ∧ Own w S [Res.row b 111 [.map (some bm), .map (some lm), Vi now', Vn cnt], Res.mp yB zX lm kl', Res.vec 28 1 gv gs.length (gs.flatMap U1)] w' := by
  refine zW Tryz.func55 rfl Tryz.ntmps55 hin ?_
  refine zB (zD rfl (zD rfl (zA (zL (zS (zB (zC rfl (xF (by kernel_rfl) rfl rfl rfl (zC rfl (zP rfl rfl (zC rfl (zP rfl rfl ?_))))))))))))
  refine yI rfl rfl rfl (kO rfl rfl (zC rfl (ya (q := n < 0) 2 6 [17, 16] (1099511627776 < n) rfl rfl rfl rfl rfl rfl trivial rfl (fun h1_6 => ?_) (fun g1_9 => ?_))))
  ·
   refine zP rfl (gF h1_6) (zC rfl (zP rfl (gF h1_6) (yi rfl rfl rfl ?_)))
   exact yP rfl (fun _ hw => hw)
  refine zD rfl (zA (zU rfl (fun c1 => ?_) (fun c1 => ?_)))
  ·
   refine zB (zD rfl (zD rfl (zA ?_)))
   exact zM (xK (v := .slice none 0 0) (v' := Vi 1) rfl rfl rfl (fun w' hw => ⟨.slice none 0 0, [], 1, now, kl, rfl, (kh (kl := kl) (zAK c1) (by decide)).1, (kh (kl := kl) (zAK c1) (by decide)).2.1, (kh (kl := kl) (zAK c1) (by decide)).2.2.1, (kh (kl := kl) (zAK c1) (by decide)).2.2.2, List.Pairwise.nil, (yN hw 28 1)⟩))
  ·
   refine zB (zC rfl (zm rfl rfl (zQ (o := 2) rfl rfl (zT 0 (v := Vi now) rfl rfl rfl rfl (zC rfl (yb rfl rfl (zt (by omega)) rfl (yi rfl rfl rfl (zD rfl (zA (zU rfl (fun c2 => ?_) (fun c2 => ?_)))))))))))
   ·
    refine zB (zD rfl (zD rfl (zA ?_)))
    exact zM (xK (v := .slice none 0 0) (v' := Vi 3) rfl rfl rfl (fun w' hw => ⟨.slice none 0 0, [], 3, now, kl, rfl, (kh (kl := kl) (zAV c1 c2) (by decide)).1, (kh (kl := kl) (zAV c1 c2) (by decide)).2.1, (kh (kl := kl) (zAV c1 c2) (by decide)).2.2.1, (kh (kl := kl) (zAV c1 c2) (by decide)).2.2.2, List.Pairwise.nil, (yN hw 28 1)⟩))
   ·
    refine zK (zB (zC rfl (zm rfl rfl (zQ (o := 2) rfl rfl (zT 0 (v := Vi now) rfl rfl rfl rfl (zC rfl (zu rfl rfl (zt (by omega)) rfl (zm rfl rfl (zQ (o := 2) rfl rfl (yk (cs := [.map (some bm), .map (some lm), Vi now, Vn cnt]) 0 rfl rfl rfl rfl rfl (zA (zL ?_))))))))))))
    refine zB (zC rfl (zm rfl rfl (zQ (o := 1) rfl rfl (zT 0 (v := .map (some lm)) rfl rfl rfl rfl (zAX 1 zB6 rfl rfl rfl (fun r39 => zA (zS ?_)))))))
    refine zCF (fun (todo kv : List (Nat × LeaD)) (gv : Value) (gs : List Nat) => [(0, .pointer (some ⟨b, 0, none⟩)), (4, gv), (39, .pointer (some ⟨r39, 0, none⟩))]) (fun (todo kv : List (Nat × LeaD)) (gv : Value) (gs : List Nat) => PassI (now + n) kl todo kv gs) (fun (todo kv : List (Nat × LeaD)) (gv : Value) (gs : List Nat) => [Res.row b 111 [.map (some bm), .map (some lm), Vi (now + n), Vn cnt], Res.rg yB zX lm r39 kv todo, Res.vec 28 1 gv gs.length (gs.flatMap U1)]) (fun (todo kv : List (Nat × LeaD)) (gv : Value) (gs : List Nat) => todo.length) (fun w' hw => ⟨kl, kl, .slice none 0 0, [], ⟨rfl, rfl, rfl, trivial⟩, PassI.start _ _, (yN hw 28 1)⟩) (fun todo kv gv gs g hΦ => ?_)
    have hgl : gs.length ≤ 128 := Nat.le_trans (PassI.len hΦ) hl
    refine zB (zBe 1 rfl rfl rfl (fun hq0 => ?_) (fun q1 k v q2 hq1 => ?_))
    ·
     refine zo (vs := [.bool false]) rfl rfl rfl (zA (zL (xP rfl (yG rfl (zB (zC rfl (zJ rfl rfl (fun w' hw => (zJI gv gs w' (by first | assumption | omega | (simp <;> omega) | (constructor <;> (first | omega | (simp only [zb]; omega) | (simp <;> omega)))) (hw.give [2] rfl (by decide))).mono ?_))))))))
     rintro _ w1 ⟨l'1_, rfl, hf12_1, hf12_1_1, hO⟩
     refine (?_ : CL _ _ _ _ _ _ (Own w S [Res.row b 111 [.map (some bm), .map (some lm), Vi (now + n), Vn cnt], Res.rg yB zX lm r39 kv todo, Res.vec 28 1 gv l'1_.length (l'1_.flatMap U1)])) w1 (hw.frameL [2] rfl hO)
     refine zA (zB (zC rfl (zD rfl (zD rfl (zA ?_)))))
     exact zM (xK (v := gv) (v' := Vi 0) rfl rfl rfl (fun w' hw => ⟨gv, l'1_, 0, now + n, kv, rfl, (hΦ.done hq0 hk (zAL c1 c2)).1, (hΦ.done hq0 hk (zAL c1 c2)).2.1, (hΦ.done hq0 hk (zAL c1 c2)).2.2.1, hf12_1.trans (hΦ.done hq0 hk (zAL c1 c2)).2.2.2, hf12_1_1.imp (fun q => ole_nat.1 q), (Own.rgEnd 1 hw rfl)⟩))
    ·
     refine zo (vs := [.bool true, Vn k, .agg (LeaD.cells v).toArray]) rfl rfl rfl (zA (zL (zAA rfl (zK (zS (zB (zAU 1 rfl rfl rfl (zo (vs := [Vn k, .agg (LeaD.cells v).toArray]) rfl rfl rfl (zo (vs := [Vn k, .agg (LeaD.cells v).toArray]) rfl rfl rfl (yF (v := .agg #[Vn 0, Vn 0, .string (⟨#[]⟩ : ByteArray), Vi 0, Vi 0]) (by kernel_rfl) rfl (fun b7 => zD rfl (zi 3 rfl rfl rfl (z7 rfl) rfl ?_))))))))))))
     refine zA (xf (by kernel_rfl) (by kernel_rfl) (zf rfl (zk (o := 4) rfl) (zf rfl (zr 3 (v := Vi v.until_) rfl rfl rfl) (zf rfl (zO) (zf rfl (yA rfl) (zf rfl (zk (o := 2) rfl) (zf rfl (zr 0 (v := Vi (now + n)) rfl rfl rfl) (zf rfl (zAv rfl rfl) (zAB (zU rfl (fun c5 => ?_) (fun c5 => ?_)))))))))))
     ·
      refine zB (zC rfl (zC rfl (ym (e := 28) (sz := 1) (vs := [Vn k]) (by kernel_rfl) rfl rfl (by simp [Value.cells]) (by decide) rfl (fun b54 => yx (g := U1) (sz := 1) (by' := 8) (fun _ => rfl) (l := gs) (l' := [k]) (by simp [cell1, U1]) 2 (by kernel_rfl) rfl rfl rfl (fun w' hw' => Vec.sl (Own.holds hw' 4 _ rfl)) (by first | omega | (simp; omega)) (by decide) rfl (fun v55 => zD rfl (zA (zd (zC rfl (zm rfl rfl (zQ (o := 1) rfl rfl (zT 0 (v := .map (some lm)) rfl rfl rfl rfl (zC rfl ?_))))))))))))
      refine zJX 1 (k := k) zFE zB6 rfl rfl rfl (hΦ.out hk hq1) ?_
      exact zj (fun w' hw => ⟨q1 ++ q2, kx k kv, v55, gs ++ [k], ⟨rfl, rfl, rfl, trivial⟩, hΦ.yes hk hq1 c5, hw.sel [0, 1, 2] rfl (by decide), (by rw [hq1, List.length_append, List.length_append, List.length_cons]; omega)⟩)
     ·
      exact xj (fun w' hw => ⟨q1 ++ q2, kv, gv, gs, ⟨rfl, rfl, rfl, trivial⟩, hΦ.no hq1 c5, hw.sel [0, 1, 2] rfl (by decide), (by rw [hq1, List.length_append, List.length_append, List.length_cons]; omega)⟩)
end Go.Proofs.YthincafbmpialaaGreat
