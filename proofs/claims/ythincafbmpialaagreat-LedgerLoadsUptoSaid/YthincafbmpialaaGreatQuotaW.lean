import Derived.Test.YthincafbmpialaaGreatSortU4
import Derived.Test.YthincafbmpialaaGreatQuotaP
import Derived.Test.YthincafbmpialaaGreatRefW
set_option linter.unusedSectionVars false
set_option linter.unusedSimpArgs false
set_option linter.unusedVariables false
set_option maxRecDepth 10000
namespace Go.Proofs.YthincafbmpialaaGreat
open Go Go.Sc Go.Proofs
def zZ (l : LeaD) : Value := .agg l.cells.toArray
def yA (n : Nat) : Value := .int .u64 n
def yD (n : Int) : Value := .int .i64 n
theorem zCC : KeyL Tryz.prog 9 Value.string := zJR (by kernel_rfl)
theorem zFF : KeyL Tryz.prog 28 yA := zEb (by kernel_rfl)
theorem zBX : kf Tryz.prog 108 = some (9, 2) := by kernel_rfl
theorem zBu : kf Tryz.prog 109 = some (28, 76) := by kernel_rfl
theorem zC1 : jc Tryz.prog 2 = some (yD 0) := by kernel_rfl
theorem zMg : jc Tryz.prog 76 = some (zZ LeaD.zero) := by kernel_rfl
def zAp (k : ByteArray) (kl : List (Nat × LeaD)) : Int := ym k (kl.map (·.2))
theorem zIm {k : ByteArray} {kl : List (Nat × LeaD)} {n : Int} (h : n = IntKind.i64.wrap (zAp k kl - zAp k [])) : n = ye k kl := by
  rw [h]; simp [zAp, ym, ye, yh]
theorem zHa {k : ByteArray} {kl todo q1 q2 : List (Nat × LeaD)} {i : Nat} {v : LeaD} {n : Int} (h : n = IntKind.i64.wrap (zAp k kl - zAp k todo)) (ht : todo = q1 ++ (i, v) :: q2) (hk : v.key = k) : IntKind.i64.wrap (n + v.amount) = IntKind.i64.wrap (zAp k kl - zAp k (q1 ++ q2)) := by
  rw [h, zEu, ht]; unfold zAp; rw [zBn, if_pos hk]; congr 1; omega
theorem zJr {k : ByteArray} {kl todo q1 q2 : List (Nat × LeaD)} {i : Nat} {v : LeaD} {n : Int} (h : n = IntKind.i64.wrap (zAp k kl - zAp k todo)) (ht : todo = q1 ++ (i, v) :: q2) (hk : ¬ v.key = k) : n = IntKind.i64.wrap (zAp k kl - zAp k (q1 ++ q2)) := by
  rw [h, ht]; unfold zAp; rw [zBn, if_neg hk]; congr 1; omega
theorem zB9 (k : ByteArray) (w : World) : Rets Tryz.prog 76 #[.string k] w fun u_ w' => u_ = .bool (decide (yZ k)) ∧ Own w [] [] w' := by
  refine zW Tryz.func76 rfl Tryz.ntmps76 (Own.start w) ?_
  refine zB (zD rfl (zA (zB (zC rfl (zJK rfl rfl rfl (zC rfl (yP (q := k ≠ (⟨#[]⟩ : ByteArray)) 3 2 [8, 7, 6] (((k.size : Nat) : Int) ≤ 64) rfl rfl rfl rfl rfl rfl trivial rfl (fun h1_2 => ?_) (fun g1_6 => ?_))))))))
  ·
   refine zO rfl (gT h1_2) (zC rfl (zO rfl (gT h1_2) (zCc (by kernel_rfl) rfl rfl (zO rfl (gT h1_2) (ka rfl rfl rfl ?_)))))
   exact yL rfl (fun _ hw => hw)
  refine zD rfl (zA ?_)
  exact zM (z6 (v := .bool (decide ((k ≠ (⟨#[]⟩ : ByteArray)) ∧ (((k.size : Nat) : Int) ≤ 64)))) rfl rfl (fun w' hw => ⟨(by congr 1; exact decide_eq_decide.2 (by unfold yZ; rw [zNC]; omega)), hw.drop⟩))
theorem zHu (n : Int) (w : World) : Rets Tryz.prog 107 #[Vi n] w fun u_ w' => u_ = .bool (decide (y3 n)) ∧ Own w [] [] w' := by
  refine zW Tryz.func107 rfl Tryz.ntmps107 (Own.start w) ?_
  refine zB (zD rfl (zA (zB (zC rfl (xC rfl rfl rfl (zC rfl (yP (q := 1 ≤ n) 2 2 [7, 6] (n ≤ 1099511627776) rfl rfl rfl rfl rfl rfl trivial rfl (fun h1_2 => ?_) (fun g1_5 => ?_))))))))
  ·
   refine zO rfl (gT h1_2) (zC rfl (zO rfl (gT h1_2) (ka rfl rfl rfl ?_)))
   exact yL rfl (fun _ hw => hw)
  refine zD rfl (zA ?_)
  exact zM (z6 (v := .bool (decide ((1 ≤ n) ∧ (n ≤ 1099511627776)))) rfl rfl (fun w' hw => ⟨rfl, hw.drop⟩))
theorem zAN {S : List Nat} (b bm lm : Nat) (now : Int) (cnt : Nat) (kl : List (Nat × LeaD)) (k : ByteArray) (w : World) (hin : Own w S [Res.row b 111 [.map (some bm), .map (some lm), Vi now, Vn cnt], Res.mp yA zZ lm kl] w) : Rets Tryz.prog 78 #[.pointer (some ⟨b, 0, none⟩), .string k] w fun u_ w' => ∃ (n : Int), u_ = Vi n ∧ n = ye k kl ∧ Own w S [Res.row b 111 [.map (some bm), .map (some lm), Vi now, Vn cnt], Res.mp yA zZ lm kl] w' := by
  refine zW Tryz.func78 rfl Tryz.ntmps78 hin ?_
  refine zB (zD rfl (zA (zB (zD rfl (zA (zL (zB (zC rfl (zm rfl rfl (zP (o := 1) rfl rfl (zS 0 (v := .map (some lm)) rfl rfl rfl rfl (zAD 1 zBu rfl rfl rfl (fun r12 => ?_)))))))))))))
  refine zA (zT ?_)
  refine xT (fun (todo : List (Nat × LeaD)) (n : Int) => [(1, .string k), (5, Vi n), (12, .pointer (some ⟨r12, 0, none⟩))]) (fun (todo : List (Nat × LeaD)) (n : Int) => n = IntKind.i64.wrap (zAp k kl - zAp k todo)) (fun (todo : List (Nat × LeaD)) (n : Int) => [Res.row b 111 [.map (some bm), .map (some lm), Vi now, Vn cnt], Res.rg yA zZ lm r12 kl todo]) (fun (todo : List (Nat × LeaD)) (n : Int) => todo.length) (fun w' hw => ⟨kl, 0, ⟨rfl, rfl, rfl, trivial⟩, (by rw [Int.sub_self]; decide), hw⟩) (fun todo n g hΦ => ?_)
  refine zB (zBC 1 rfl rfl rfl (fun hq0 => ?_) (fun q1 k v q2 hq1 => ?_))
  ·
   refine zp (vs := [.bool false]) rfl rfl rfl (zA (zL (xQ rfl (yG rfl (zB (zC rfl (zD rfl (zA ?_))))))))
   exact zM (z6 (v := Vi n) rfl rfl (fun w' hw => ⟨n, rfl, zIm (hq0 ▸ hΦ), (Own.rgEnd 1 hw rfl)⟩))
  ·
   refine zp (vs := [.bool true, Vn k, .agg (LeaD.cells v).toArray]) rfl rfl rfl (zA (zL (jz rfl (zK (zT (zB (zAP 1 rfl rfl rfl (zp (vs := [Vn k, .agg (LeaD.cells v).toArray]) rfl rfl rfl (yF (v := .agg #[Vn 0, Vn 0, .string (⟨#[]⟩ : ByteArray), Vi 0, Vi 0]) (by kernel_rfl) rfl (fun b7 => zh 2 rfl rfl rfl (z8 rfl) rfl (zA (zB ?_))))))))))))
   refine zP (o := 2) rfl rfl (zS 2 (v := .string v.key) rfl rfl rfl rfl (zC rfl (zGL rfl rfl rfl (zA (zU rfl (fun c3 => ?_) (fun c3 => ?_))))))
   ·
    refine zd (zC rfl (zP (o := 3) rfl rfl (zS 2 (v := Vi v.amount) rfl rfl rfl rfl (zt (c := IntKind.i64.wrap (n + v.amount)) rfl rfl rfl rfl (zD rfl ?_)))))
    exact zj (fun w' hw => ⟨q1 ++ q2, IntKind.i64.wrap (n + v.amount), ⟨rfl, rfl, rfl, trivial⟩, zHa hΦ hq1 c3, hw.sel [0, 1] rfl (by decide), (by rw [hq1, List.length_append, List.length_append, List.length_cons]; omega)⟩)
   ·
    exact xj (fun w' hw => ⟨q1 ++ q2, n, ⟨rfl, rfl, rfl, trivial⟩, zJr hΦ hq1 c3, hw.sel [0, 1] rfl (by decide), (by rw [hq1, List.length_append, List.length_append, List.length_cons]; omega)⟩)
def zAg (kl : List (Nat × LeaD)) (s i : Nat) (x : LeaD) (e : Int) : Prop :=
  (e = 17 ∧ x = LeaD.zero ∧ ∀ l, zu i kl = some l → l.session ≠ s) ∨ (e = 0 ∧ zu i kl = some x ∧ x.session = s)
theorem zKR {kl : List (Nat × LeaD)} {s i : Nat} (h : (!(zu i kl).isSome) = true ∨ ((((zu i kl).getD LeaD.zero).session : Nat) : Int) ≠ ((s : Nat) : Int)) : zAg kl s i LeaD.zero 17 := by
  refine .inl ⟨rfl, rfl, fun l hl => ?_⟩
  rw [hl] at h
  rcases h with h | h
  · cases h
  · intro e; exact h (by rw [Option.getD_some, e])
theorem zIZ {kl : List (Nat × LeaD)} {s i : Nat} (h : ¬ ((!(zu i kl).isSome) = true ∨ ((((zu i kl).getD LeaD.zero).session : Nat) : Int) ≠ ((s : Nat) : Int))) : zAg kl s i ((zu i kl).getD LeaD.zero) 0 := by
  cases hl : zu i kl with
  | none => rw [hl] at h; exact absurd (.inl rfl) h
  | some l =>
    rw [hl, Option.getD_some] at h
    exact .inr ⟨rfl, hl, Decidable.by_contra fun (q : ¬ l.session = s) => h (.inr fun e => q (by omega))⟩
theorem zEo {kl : List (Nat × LeaD)} {s i : Nat} {x : LeaD} {e : Int} (h : zAg kl s i x e) (he : e ≠ 0) : e = 17 ∧ x = LeaD.zero ∧ ∀ l, zu i kl = some l → l.session ≠ s := by
  rcases h with h | h
  · exact h
  · exact absurd h.1 he
theorem zDi {kl : List (Nat × LeaD)} {s i : Nat} {x : LeaD} {e : Int} (h : zAg kl s i x e) (he : ¬ e ≠ 0) : zu i kl = some x ∧ x.session = s := by
  rcases h with h | h
  · rw [h.1] at he; exact absurd (by decide) he
  · exact h.2
theorem zJx {kl : List (Nat × LeaD)} {s i : Nat} {x : LeaD} {e : Int} (h : zAg kl s i x e) (he : ¬ e = 0) : zE1 kl s i x e kl := by
  have := zEo h he; exact .inl ⟨this.2.2, this.1, this.2.1, rfl⟩
theorem zHi {kl : List (Nat × LeaD)} {s i : Nat} {x : LeaD} {e : Int} (h : zAg kl s i x e) (he : e = 0) : zE1 kl s i x e (kp i kl) := by
  have := zDi h (fun q => q he); exact .inr ⟨x, this.1, this.2, he, rfl, rfl⟩
theorem zG3 {now : Int} {kb : List (ByteArray × Int)} {kl : List (Nat × LeaD)} {s i : Nat} {sp : Int} {x : LeaD} {e : Int} (hs : ¬ ¬ y3 sp) (h : zAg kl s i x e) (he : e ≠ 0) : zBY now kb kl s i sp LeaD.zero e kl := by
  have := zEo h he; exact .inr (.inl ⟨Decidable.not_not.1 hs, this.2.2, this.1, rfl, rfl⟩)
theorem zFI {now : Int} {kb : List (ByteArray × Int)} {kl : List (Nat × LeaD)} {s i : Nat} {sp n : Int} {x : LeaD} {e : Int} (hs : ¬ ¬ y3 sp) (h : zAg kl s i x e) (he : ¬ e ≠ 0) (hn : n = ye x.key kl) (hc : (zu x.key kb).getD 0 < n) : zBY now kb kl s i sp LeaD.zero 16 kl := by
  have := zDi h he; exact .inr (.inr ⟨Decidable.not_not.1 hs, x, this.1, this.2, .inl ⟨hn ▸ hc, rfl, rfl, rfl⟩⟩)
theorem zGe {now : Int} {kb : List (ByteArray × Int)} {kl : List (Nat × LeaD)} {s i : Nat} {sp n : Int} {x : LeaD} {e : Int} (hs : ¬ ¬ y3 sp) (h : zAg kl s i x e) (he : ¬ e ≠ 0) (hn : n = ye x.key kl) (hc : ¬ (zu x.key kb).getD 0 < n) : zBY now kb kl s i sp (xa x (now + sp)) 0 (xJ i (xa x (now + sp)) kl) := by
  have := zDi h he; exact .inr (.inr ⟨Decidable.not_not.1 hs, x, this.1, this.2, .inr ⟨by rw [hn] at hc; omega, rfl, rfl, rfl⟩⟩)
theorem zI9 {S : List Nat} (b bm lm : Nat) (now : Int) (cnt : Nat) (kl : List (Nat × LeaD)) (s i : Nat) (w : World) (hin : Own w S [Res.row b 111 [.map (some bm), .map (some lm), Vi now, Vn cnt], Res.mp yA zZ lm kl] w) : Rets Tryz.prog 108 #[.pointer (some ⟨b, 0, none⟩), Vn s, Vn i] w fun u_ w' => ∃ (x : LeaD) (e : Int), u_ = .tuple #[.agg (LeaD.cells x).toArray, Vi e] ∧ zAg kl s i x e ∧ Own w S [Res.row b 111 [.map (some bm), .map (some lm), Vi now, Vn cnt], Res.mp yA zZ lm kl] w' := by
  refine zW Tryz.func108 rfl Tryz.ntmps108 hin ?_
  refine zB (yF (v := .agg #[Vn 0, Vn 0, .string (⟨#[]⟩ : ByteArray), Vi 0, Vi 0]) (by kernel_rfl) rfl (fun b6 => zD rfl (zA (zB (zC rfl (zm rfl rfl (zP (o := 1) rfl rfl (zS 0 (v := .map (some lm)) rfl rfl rfl rfl (zC rfl (zD9 (k := i) (kv := kl) (zv := LeaD.zero) zFF zBu zMg rfl rfl (fun w' hw' => Own.holds hw' 1 _ rfl) rfl (zC rfl (zp (vs := [.agg (LeaD.cells ((zu i kl).getD LeaD.zero)).toArray, .bool ((zu i kl).isSome)]) rfl rfl rfl ?_))))))))))))
  refine zp (vs := [.agg (LeaD.cells ((zu i kl).getD LeaD.zero)).toArray, .bool ((zu i kl).isSome)]) rfl rfl rfl (yF (v := .agg #[Vn 0, Vn 0, .string (⟨#[]⟩ : ByteArray), Vi 0, Vi 0]) (by kernel_rfl) rfl (fun b8 => zh 3 rfl rfl rfl (z8 rfl) rfl (zD rfl (zA (zL (zB (zC rfl (kY (b := (zu i kl).isSome) rfl rfl (zC rfl (yY (q := (!((zu i kl).isSome)) = true) 4 2 [25, 24, 23, 22] (((((zu i kl).getD LeaD.zero).session : Nat) : Int) ≠ ((s : Nat) : Int)) rfl rfl (yb _) rfl rfl rfl trivial rfl (fun h2_2 => ?_) (fun g2_7 => ?_)))))))))))
  ·
   refine zO rfl (bF h2_2) (zP (o := 1) rfl rfl (zO rfl (bF h2_2) (zS 3 (v := Vn (((zu i kl).getD LeaD.zero).session)) rfl rfl rfl rfl (zO rfl (bF h2_2) (zC rfl (zO rfl (bF h2_2) (xn rfl rfl rfl ?_)))))))
   exact yL rfl (fun _ hw => hw)
  refine zA (zU rfl (fun c1 => ?_) (fun c1 => ?_))
  ·
   refine zB (yQ (cs := [Vn 0, Vn 0, .string (⟨#[]⟩ : ByteArray), Vi 0, Vi 0]) (z := [Vn 0, Vn 0, .string (⟨#[]⟩ : ByteArray), Vi 0, Vi 0]) (pl := [(0, 1), (1, 1), (2, 1), (3, 1), (4, 1)]) (by kernel_rfl) (by kernel_rfl) rfl (zh 2 rfl rfl rfl (z8 rfl) rfl (zD rfl (zA ?_))))
   exact zM (yH (cs := [Vn 0, Vn 0, .string (⟨#[]⟩ : ByteArray), Vi 0, Vi 0]) (v := Vi 17) rfl rfl rfl (by kernel_rfl) (Own.rowCells (i := 2) rfl) (fun w' hw => ⟨LeaD.zero, 17, rfl, zKR c1, hw.sel [0, 1] rfl (by decide)⟩))
  ·
   refine zK (zB (yN (cs := (LeaD.cells ((zu i kl).getD LeaD.zero))) 3 rfl rfl rfl (zh 2 rfl rfl rfl (z8 rfl) rfl (zD rfl (zA ?_)))))
   exact zM (yH (cs := (LeaD.cells ((zu i kl).getD LeaD.zero))) (v := Vi 0) rfl rfl rfl (by kernel_rfl) (Own.rowCells (i := 2) rfl) (fun w' hw => ⟨(zu i kl).getD LeaD.zero, 0, rfl, zIZ c1, hw.sel [0, 1] rfl (by decide)⟩))
theorem zMu (a c : Int) (w : World) (ha : 0 ≤ a ∧ a ≤ 9223372036854775807) (hc : -9223372036854775808 ≤ c ∧ c ≤ 9223372036854775807) : Rets Tryz.prog 113 #[Vi a, Vi c] w fun u_ w' => ∃ (n e : Int), u_ = .tuple #[Vi n, Vi e] ∧ ((9223372036854775807 < a + c ∧ e = 3 ∧ n = 0) ∨ (a + c ≤ 9223372036854775807 ∧ e = 0 ∧ n = a + c)) ∧ Own w [] [] w' := by
  refine zW Tryz.func113 rfl Tryz.ntmps113 (Own.start w) ?_
  refine zB (zD rfl (zD rfl (zA (zL (zB (zC rfl (yg rfl rfl rfl (zC rfl (yP (q := 0 < c) 4 2 [12, 11, 10, 9] ((9223372036854775807 - c) < a) rfl rfl rfl rfl rfl rfl trivial rfl (fun h1_2 => ?_) (fun g1_7 => ?_))))))))))
  ·
   refine zO rfl (gT h1_2) (zC rfl (zO rfl (gT h1_2) (zC rfl (zO rfl (gT h1_2) (yX rfl rfl (zr (by omega)) rfl (zO rfl (gT h1_2) (yg rfl rfl rfl ?_)))))))
   exact yL rfl (fun _ hw => hw)
  refine zC rfl (yY (q := (0 < c) ∧ ((9223372036854775807 - c) < a)) 8 8 [22, 21, 20, 19, 18, 17, 16, 15] ((c < 0) ∧ (a < ((-9223372036854775808) - c))) rfl rfl rfl rfl rfl rfl trivial rfl (fun h1_8 => ?_) (fun g1_17 => ?_))
  ·
   refine zO rfl (gF h1_8) (zC rfl (zO rfl (gF h1_8) (yI rfl rfl rfl (zO rfl (gF h1_8) (zC rfl (yP (q := c < 0) 4 11 [21, 20, 19, 18] (a < ((-9223372036854775808) - c)) rfl rfl rfl rfl rfl rfl ⟨_, rfl, rfl, gF h1_8⟩ rfl (fun h1_11 => ?_) (fun g1_16 => ?_)))))))
   ·
    refine zO rfl (gT h1_11) (zC rfl (zO rfl (gT h1_11) (zC rfl (zO rfl (gT h1_11) (yX rfl rfl (zr (by omega)) rfl (zO rfl (gT h1_11) (yI rfl rfl rfl ?_)))))))
    exact yL rfl (fun _ hw => hw)
   exact yL rfl (fun _ hw => hw)
  refine zA (zU rfl (fun c1 => ?_) (fun c1 => ?_))
  ·
   refine zB (zD rfl (zD rfl (zA ?_)))
   exact zM (xK (v := Vi 0) (v' := Vi 3) rfl rfl rfl (fun w' hw => ⟨0, 3, rfl, .inl ⟨by omega, rfl, rfl⟩, hw.drop⟩))
  ·
   refine zK (zB (zC rfl (zC rfl (zt rfl rfl (zr (by omega)) rfl (zD rfl (zD rfl (zA ?_)))))))
   exact zM (xK (v := Vi (a + c)) (v' := Vi 0) rfl rfl rfl (fun w' hw => ⟨a + c, 0, rfl, .inr ⟨by omega, rfl, rfl⟩, hw.drop⟩))
theorem zGf (v : Value) (l : List Int) (w : World) (hl : l.length = 2) (h0 : 0 ≤ zI l 0 ∧ zI l 0 ≤ 9223372036854775807) (h1 : -9223372036854775808 ≤ zI l 1 ∧ zI l 1 ≤ 9223372036854775807) (hv : Rd w [] (Res.sl v l.length (l.flatMap I1))) : Rets Tryz.prog 77 #[v] w fun u_ w' => ∃ (n e : Int), u_ = .tuple #[Vi n, Vi e] ∧ ((9223372036854775807 < zI l 0 + zI l 1 ∧ e = 3 ∧ n = 0) ∨ (zI l 0 + zI l 1 ≤ 9223372036854775807 ∧ e = 0 ∧ n = zI l 0 + zI l 1)) ∧ Own w [] [] w' := by
  refine zW Tryz.func77 rfl Tryz.ntmps77 (Own.start w) ?_
  refine zB (zD rfl (zD rfl (zA (zB (zD rfl (zA (zL (zB (zC rfl (yC (pR hv) rfl rfl (zC rfl (zA ?_))))))))))))
  refine zT ?_
  refine xT (fun (k : Nat) (n : Int) => [(4, Vi n), (8, v), (9, Vj l.length), (10, Vj k)]) (fun (k : Nat) (n : Int) => k ≤ 2 ∧ ((k = 0 → n = 0) ∧ (k = 1 → n = zI l 0) ∧ (k = 2 → n = zI l 0 + zI l 1)) ∧ ((k < 2 → 0 ≤ n) ∧ n ≤ 9223372036854775807)) (fun (k : Nat) (n : Int) => []) (fun (k : Nat) (n : Int) => 2 - k) (fun w' hw => ⟨0, 0, ⟨rfl, rfl, rfl, rfl, trivial⟩, ⟨by omega, ⟨fun _ => rfl, by omega, by omega⟩, ⟨fun _ => by omega, by omega⟩⟩, hw⟩) (fun k n g hΦ => ?_)
  have hkl := hΦ.1
  have hkI := hΦ.2.1
  have hkn := hΦ.2.2
  refine zB (yI rfl rfl rfl (zA (zL (zU rfl (fun c1 => ?_) (fun c1 => ?_)))))
  ·
   have hk2 : k < 2 := by omega
   have hkx : (k = 0 → zI l k = zI l 0) ∧ (k = 1 → zI l k = zI l 1) := ⟨fun h => by rw [h], fun h => by rw [h]⟩
   have hkb : -9223372036854775808 ≤ zI l k ∧ zI l k ≤ 9223372036854775807 := by rcases (show k = 0 ∨ k = 1 by omega) with h | h <;> rw [h] <;> omega
   refine zK (zL (zT (zB (zH (pR hv) 1 k rfl rfl rfl (by omega) rfl (zV (pR hv) 1 k 0 (fun _ => rfl) rfl rfl (by omega) rfl rfl (zD rfl (zA (zB (zD rfl (zA (zB (zC rfl ?_))))))))))))
   refine zC rfl (zJ rfl rfl (fun w' hw => (zMu n (zI l k) w' ⟨hkn.1 hk2, hkn.2⟩ hkb).mono ?_))
   rintro _ w1 ⟨n1_, e2_, rfl, hf6_2, hO⟩
   refine (?_ : CL _ _ _ _ _ _ (Own w [] [])) w1 (hw.frame0 hO)
   refine zC rfl (zp (vs := [Vi n1_, Vi e2_]) rfl rfl rfl (zp (vs := [Vi n1_, Vi e2_]) rfl rfl rfl (zD rfl (zD rfl (zA (zB (zC rfl (xn rfl rfl rfl (zA (zU rfl (fun c2 => ?_) (fun c2 => ?_)))))))))))
   ·
    refine zB (zC rfl (zD rfl (zD rfl (zA ?_))))
    exact zM (xK (v := Vi 0) (v' := Vi e2_) rfl rfl rfl (fun w' hw => ⟨0, e2_, rfl, .inl ⟨((zCk hk2 hkI hkx hf6_2 h0 h1).1 c2).1, ((zCk hk2 hkI hkx hf6_2 h0 h1).1 c2).2, rfl⟩, hw.drop⟩))
   ·
    refine zK (zd (zt rfl rfl (zr (by omega)) rfl (zC rfl ?_)))
    exact zj (fun w' hw => ⟨k + 1, n1_, ⟨rfl, rfl, rfl, rfl, trivial⟩, ⟨by omega, (zCk hk2 hkI hkx hf6_2 h0 h1).2 c2⟩, hw, (by omega)⟩)
  ·
   refine yG rfl (zB (zC rfl (zD rfl (zD rfl (zA ?_)))))
   exact zM (xK (v := Vi n) (v' := Vi 0) rfl rfl rfl (fun w' hw => ⟨n, 0, rfl, .inr ⟨by have := hkI.2.2 (by omega); omega, rfl, hkI.2.2 (by omega)⟩, hw.drop⟩))
theorem zMo {S : List Nat} (b bm lm : Nat) (now : Int) (cnt : Nat) (kb : List (ByteArray × Int)) (kl : List (Nat × LeaD)) (k : ByteArray) (a : Int) (w : World) (hin : Own w S [Res.row b 111 [.map (some bm), .map (some lm), Vi now, Vn cnt], Res.mp Value.string yD bm kb, Res.mp yA zZ lm kl] w) : Rets Tryz.prog 62 #[.pointer (some ⟨b, 0, none⟩), .string k, Vi a] w fun u_ w' => ∃ (n e : Int) (kb' : List (ByteArray × Int)), u_ = .tuple #[Vi n, Vi e] ∧ e = kh k a kb ∧ kb' = zC3 k a kb ∧ (n = if e = 0 then ye k kl else 0) ∧ Own w S [Res.row b 111 [.map (some bm), .map (some lm), Vi now, Vn cnt], Res.mp Value.string yD bm kb', Res.mp yA zZ lm kl] w' := by
  refine zW Tryz.func62 rfl Tryz.ntmps62 hin ?_
  refine zB (zD rfl (zD rfl (zA (zL (zB (zC rfl (xE (by kernel_rfl) rfl rfl rfl (zC rfl (zO rfl rfl (zC rfl (zO rfl rfl (zJ rfl rfl (fun w' hw => ?_)))))))))))))
  refine (zB9 k w').mono ?_
  rintro _ w1 ⟨rfl, hO⟩
  refine (?_ : CL _ _ _ _ _ _ (Own w S [Res.row b 111 [.map (some bm), .map (some lm), Vi now, Vn cnt], Res.mp Value.string yD bm kb, Res.mp yA zZ lm kl])) w1 (hw.frame0 hO)
  refine zO rfl rfl (xo (q := yZ k) rfl rfl (kL rfl rfl (zC rfl (yY (q := ¬ (yZ k)) 2 7 [19, 18] (a < 0) rfl rfl rfl rfl rfl rfl trivial rfl (fun h1_7 => ?_) (fun g1_10 => ?_)))))
  ·
   refine zO rfl (gF h1_7) (zC rfl (zO rfl (gF h1_7) (yI rfl rfl rfl ?_)))
   exact yL rfl (fun _ hw => hw)
  refine zA (zU rfl (fun c1 => ?_) (fun c1 => ?_))
  ·
   refine zB (zD rfl (zD rfl (zA ?_)))
   exact zM (xK (v := Vi 0) (v' := Vi 1) rfl rfl rfl (fun w' hw => ⟨0, 1, kb, rfl, (zDV c1).symm, zEv (zDV c1) (by decide), rfl, hw⟩))
  ·
   refine zK (zB (zC rfl (zm rfl rfl (zP (o := 0) rfl rfl (zS 0 (v := .map (some bm)) rfl rfl rfl rfl (zC rfl (zD9 (k := k) (kv := kb) (zv := 0) zCC zBX zC1 rfl rfl (fun w' hw' => Own.holds hw' 1 _ rfl) rfl (zC rfl (zp (vs := [Vi ((zu k kb).getD 0), .bool ((zu k kb).isSome)]) rfl rfl rfl (zp (vs := [Vi ((zu k kb).getD 0), .bool ((zu k kb).isSome)]) rfl rfl rfl (zD rfl (zD rfl ?_))))))))))))
   refine zA (zL (zT (zB (zC rfl (yo rfl rfl rfl (zD rfl (zA (zU rfl (fun c2 => ?_) (fun c2 => ?_)))))))))
   ·
    refine zd (zC rfl (zm rfl rfl (zP (o := 0) rfl rfl (zS 0 (v := .map (some bm)) rfl rfl rfl rfl (zC rfl (zFA 1 (k := k) zCC zBX rfl rfl rfl (zA (zB (zC rfl (zC rfl (zJ rfl rfl (fun w' hw => (zAN b bm lm now cnt kl k w' (hw.give [0, 2] rfl (by decide))).mono ?_))))))))))))
    rintro _ w1 ⟨n1_, rfl, hf9_2, hO⟩
    refine (?_ : CL _ _ _ _ _ _ (Own w S [Res.mp Value.string yD bm (kp k kb), Res.row b 111 [.map (some bm), .map (some lm), Vi now, Vn cnt], Res.mp yA zZ lm kl])) w1 (hw.frameL [0, 2] rfl hO)
    refine zD rfl (zD rfl (zA ?_))
    exact zM (xK (v := Vi n1_) (v' := Vi 0) rfl rfl rfl (fun w' hw => ⟨n1_, 0, kp k kb, rfl, (zDG c1 c2).symm, zIn (zDG c1 c2) c2, hf9_2, hw.sel [1, 0, 2] rfl (by decide)⟩))
   ·
    refine zB (zC rfl (kY (b := (zu k kb).isSome) rfl rfl (zC rfl (yP (q := (!((zu k kb).isSome)) = true) 6 2 [53, 52, 51, 50, 49, 48] (64 ≤ ((kb.length : Nat) : Int)) rfl rfl (yb _) rfl rfl rfl trivial rfl (fun h7_2 => ?_) (fun g7_9 => ?_)))))
    ·
     refine zO rfl (bT h7_2) (zC rfl (zO rfl (bT h7_2) (zm rfl rfl (zO rfl (bT h7_2) (zP (o := 0) rfl rfl (zO rfl (bT h7_2) (zS 0 (v := .map (some bm)) rfl rfl rfl rfl (zO rfl (bT h7_2) (zD8 Value.string yD (kv := kb) zBX rfl (fun w' hw' => Own.holds hw' 1 _ rfl) rfl (zO rfl (bT h7_2) (xC rfl rfl rfl ?_)))))))))))
     exact yL rfl (fun _ hw => hw)
    refine zD rfl (zA (zU rfl (fun c3 => ?_) (fun c3 => ?_)))
    ·
     refine zB (zD rfl (zD rfl (zA ?_)))
     exact zM (xK (v := Vi 0) (v' := Vi 7) rfl rfl rfl (fun w' hw => ⟨0, 7, kb, rfl, (zCg c1 c2 c3).symm, zEv (zCg c1 c2 c3) (by decide), rfl, hw⟩))
    ·
     refine zd (zC rfl (zm rfl rfl (zP (o := 0) rfl rfl (zS 0 (v := .map (some bm)) rfl rfl rfl rfl (zC rfl (zC rfl (jP 1 (k := k) (v := a) zCC zBX rfl rfl rfl rfl (zA (zB (zC rfl (zC rfl (zJ rfl rfl (fun w' hw => ?_)))))))))))))
     refine (zAN b bm lm now cnt kl k w' (hw.give [0, 2] rfl (by decide))).mono ?_
     rintro _ w1 ⟨n2_, rfl, hf9_2, hO⟩
     refine (?_ : CL _ _ _ _ _ _ (Own w S [Res.mp Value.string yD bm (xJ k a kb), Res.row b 111 [.map (some bm), .map (some lm), Vi now, Vn cnt], Res.mp yA zZ lm kl])) w1 (hw.frameL [0, 2] rfl hO)
     refine zD rfl (zD rfl (zA ?_))
     exact zM (xK (v := Vi n2_) (v' := Vi 0) rfl rfl rfl (fun w' hw => ⟨n2_, 0, xJ k a kb, rfl, (zDa c1 c3).symm, zIG (zDa c1 c3) c2, hf9_2, hw.sel [1, 0, 2] rfl (by decide)⟩))
theorem zJi {S : List Nat} (b bm lm : Nat) (now : Int) (cnt : Nat) (kb : List (ByteArray × Int)) (kl : List (Nat × LeaD)) (k : ByteArray) (w : World) (hin : Own w S [Res.row b 111 [.map (some bm), .map (some lm), Vi now, Vn cnt], Res.mp Value.string yD bm kb, Res.mp yA zZ lm kl] w) : Rets Tryz.prog 71 #[.pointer (some ⟨b, 0, none⟩), .string k] w fun u_ w' => ∃ (n : Int), u_ = .tuple #[Vi ((zu k kb).getD 0), Vi n] ∧ n = ye k kl ∧ Own w S [Res.row b 111 [.map (some bm), .map (some lm), Vi now, Vn cnt], Res.mp Value.string yD bm kb, Res.mp yA zZ lm kl] w' := by
  refine zW Tryz.func71 rfl Tryz.ntmps71 hin ?_
  refine zB (zD rfl (zD rfl (zA (zL (zB (zC rfl (xE (by kernel_rfl) rfl rfl rfl (zA (xQ rfl (zK (zL (zg [1] rfl (by decide) (by kernel_rfl) (fun w' hw hS => ?_)))))))))))))
  refine zF 0 rfl (zQ) hS (zF 1 rfl (z7 rfl) hS (zF 2 rfl (zi (o := 0) rfl) hS (zF 4 rfl (zQ) hS (zF 6 rfl (zQ) hS (zF 7 rfl (zQ) hS (zk 3 8 ?_ ?_))))))
  ·
   refine zX 3 rfl hw (zS 0 (v := .map (some bm)) rfl rfl rfl rfl (zG [1] rfl (by decide) (fun w' hw hS => zF 5 rfl (zEW (k := k) (kv := kb) (zv := 0) zCC zBX zC1 rfl rfl (fun w' hw' => Own.holds hw' 0 _ rfl)) hS (zY 8 rfl hw (zJ rfl rfl (fun w' hw => (zAN b bm lm now cnt kl k w' (hw.give [0, 2] rfl (by decide))).mono ?_))))))
   rintro _ w1 ⟨n1_, rfl, hf3_8, hO⟩
   refine (?_ : CL _ _ _ _ _ _ (Own w S [Res.mp Value.string yD bm kb, Res.row b 111 [.map (some bm), .map (some lm), Vi now, Vn cnt], Res.mp yA zZ lm kl])) w1 (hw.frameL [0, 2] rfl hO)
   refine zG [0] rfl (by decide) (fun w' hw hS => zF 9 rfl (yx) hS (zF 10 rfl (yx) hS (zR ?_)))
   refine (?_ : C _ _ _ _ _ _ _ (Own w S [Res.mp Value.string yD bm kb, Res.row b 111 [.map (some bm), .map (some lm), Vi now, Vn cnt], Res.mp yA zZ lm kl])) _ hw
   exact zM (xK (v := Vi ((zu k kb).getD 0)) (v' := Vi n1_) rfl rfl rfl (fun w' hw => ⟨n1_, rfl, hf3_8, hw.sel [1, 0, 2] rfl (by decide)⟩))
  ·
   refine zX 8 rfl hw (zJ rfl rfl (fun w' hw => (zAN b bm lm now cnt kl k w' (hw.give [0, 2] rfl (by decide))).mono ?_))
   rintro _ w1 ⟨n2_, rfl, hf3_8, hO⟩
   refine (?_ : CL _ _ _ _ _ _ (Own w S [Res.mp Value.string yD bm kb, Res.row b 111 [.map (some bm), .map (some lm), Vi now, Vn cnt], Res.mp yA zZ lm kl])) w1 (hw.frameL [0, 2] rfl hO)
   refine zG [0] rfl (by decide) (fun w' hw hS => zY 3 rfl hw (zS 1 (v := .map (some bm)) rfl rfl rfl rfl (zG [0] rfl (by decide) (fun w' hw hS => zF 5 rfl (zEW (k := k) (kv := kb) (zv := 0) zCC zBX zC1 rfl rfl (fun w' hw' => Own.holds hw' 0 _ rfl)) hS (zF 9 rfl (yx) hS (zF 10 rfl (yx) hS (zR ?_)))))))
   refine (?_ : C _ _ _ _ _ _ _ (Own w S [Res.mp Value.string yD bm kb, Res.row b 111 [.map (some bm), .map (some lm), Vi now, Vn cnt], Res.mp yA zZ lm kl])) _ hw
   exact zM (xK (v := Vi ((zu k kb).getD 0)) (v' := Vi n2_) rfl rfl rfl (fun w' hw => ⟨n2_, rfl, hf3_8, hw.sel [1, 0, 2] rfl (by decide)⟩))
theorem zK1 (w : World) : Rets Tryz.prog 20 #[] w fun u_ w' => ∃ (b bm lm : Nat), u_ = .pointer (some ⟨b, 0, none⟩) ∧ Own w [] [Res.row b 111 [.map (some bm), .map (some lm), Vi 0, Vn 0], Res.mp Value.string yD bm ([] : List (ByteArray × Int)), Res.mp yA zZ lm ([] : List (Nat × LeaD))] w' := by
  refine zW Tryz.func20 rfl Tryz.ntmps20 (Own.start w) ?_
  refine zB (zD rfl (zA (zB (zBA (α := Int) Value.string yD rfl rfl (fun m1 => zBA (α := LeaD) yA zZ rfl rfl (fun m2 => yQ (cs := [.map (some m1), .map (some m2), Vi 0, Vn 0]) (z := [.map none, .map none, Vi 0, Vn 0]) (pl := [(0, 1), (1, 1), (2, 1), (3, 1)]) (by kernel_rfl) (by kernel_rfl) rfl (yc rfl rfl (fun b4 => zD rfl (zA ?_)))))))))
  exact zM (z6 (v := .pointer (some ⟨b4, 0, none⟩)) rfl rfl (fun w' hw => ⟨b4, m1, m2, rfl, hw.sel [2, 0, 1] rfl (by decide)⟩))
theorem zLb {S : List Nat} (b bm lm : Nat) (now : Int) (cnt : Nat) (kb : List (ByteArray × Int)) (kl : List (Nat × LeaD)) (s : Nat) (k : ByteArray) (a sp : Int) (w : World) (hlen : 0 ≤ ye k kl ∧ ye k kl ≤ 9223372036854775807) (ha : xY a) (ht : 0 ≤ now ∧ now ≤ 2305843009213693952) (hc : cnt ≤ 1000000000) (hin : Own w S [Res.row b 111 [.map (some bm), .map (some lm), Vi now, Vn cnt], Res.mp Value.string yD bm kb, Res.mp yA zZ lm kl] w) : Rets Tryz.prog 64 #[.pointer (some ⟨b, 0, none⟩), Vn s, .string k, Vi a, Vi sp] w fun u_ w' => ∃ (x : LeaD) (e : Int) (cnt' : Nat) (kl' : List (Nat × LeaD)), u_ = .tuple #[.agg (LeaD.cells x).toArray, Vi e] ∧ e = kB s k a sp kb kl ∧ x = jV e cnt s k a (now + sp) ∧ cnt' = zCb e cnt ∧ kl' = zGJ e x kl ∧ Own w S [Res.row b 111 [.map (some bm), .map (some lm), Vi now, Vn cnt'], Res.mp Value.string yD bm kb, Res.mp yA zZ lm kl'] w' := by
  refine zW Tryz.func64 rfl Tryz.ntmps64 hin ?_
  refine zB (yF (v := .agg #[Vn 0, Vn 0, .string (⟨#[]⟩ : ByteArray), Vi 0, Vi 0]) (by kernel_rfl) rfl (fun b10 => zD rfl (zA (zL (zB (zC rfl (xE (by kernel_rfl) rfl rfl rfl (zC rfl (zO rfl rfl (zC rfl (zO rfl rfl (yo rfl rfl rfl ?_))))))))))))
  refine kL rfl rfl (zC rfl (yY (q := ((s : Nat) : Int) = ((0 : Nat) : Int)) 3 6 [26, 25, 24] (¬ (yZ k)) rfl rfl rfl rfl rfl rfl trivial rfl (fun h1_6 => ?_) (fun g1_10 => ?_)))
  ·
   refine zO rfl (gF h1_6) (zC rfl (zO rfl (gF h1_6) (zJ rfl rfl (fun w' hw => (zB9 k w').mono ?_))))
   rintro _ w1 ⟨rfl, hO⟩
   refine (?_ : CL _ _ _ _ _ _ (Own w S [Res.row b 111 [.map (some bm), .map (some lm), Vi now, Vn cnt], Res.mp Value.string yD bm kb, Res.mp yA zZ lm kl, Res.row b10 76 [Vn 0, Vn 0, .string (⟨#[]⟩ : ByteArray), Vi 0, Vi 0]])) w1 (hw.frame0 hO)
   refine zO rfl (gF h1_6) (xo (q := yZ k) rfl rfl ?_)
   exact yL rfl (fun _ hw => hw)
  refine zC rfl (yY (q := (((s : Nat) : Int) = ((0 : Nat) : Int)) ∨ (¬ (yZ k))) 2 11 [30, 29] (a < 1) rfl rfl rfl rfl rfl rfl trivial rfl (fun h1_11 => ?_) (fun g1_14 => ?_))
  ·
   refine zO rfl (gF h1_11) (zC rfl (zO rfl (gF h1_11) (yI rfl rfl rfl ?_)))
   exact yL rfl (fun _ hw => hw)
  refine zC rfl (yY (q := ((((s : Nat) : Int) = ((0 : Nat) : Int)) ∨ (¬ (yZ k))) ∨ (a < 1)) 3 15 [35, 34, 33] (¬ (y3 sp)) rfl rfl rfl rfl rfl rfl trivial rfl (fun h1_15 => ?_) (fun g1_19 => ?_))
  ·
   refine zO rfl (gF h1_15) (zC rfl (zO rfl (gF h1_15) (zJ rfl rfl (fun w' hw => (zHu sp w').mono ?_))))
   rintro _ w1 ⟨rfl, hO⟩
   refine (?_ : CL _ _ _ _ _ _ (Own w S [Res.row b 111 [.map (some bm), .map (some lm), Vi now, Vn cnt], Res.mp Value.string yD bm kb, Res.mp yA zZ lm kl, Res.row b10 76 [Vn 0, Vn 0, .string (⟨#[]⟩ : ByteArray), Vi 0, Vi 0]])) w1 (hw.frame0 hO)
   refine zO rfl (gF h1_15) (xo (q := y3 sp) rfl rfl ?_)
   exact yL rfl (fun _ hw => hw)
  refine zA (zU rfl (fun c1 => ?_) (fun c1 => ?_))
  ·
   refine zB (yQ (cs := [Vn 0, Vn 0, .string (⟨#[]⟩ : ByteArray), Vi 0, Vi 0]) (z := [Vn 0, Vn 0, .string (⟨#[]⟩ : ByteArray), Vi 0, Vi 0]) (pl := [(0, 1), (1, 1), (2, 1), (3, 1), (4, 1)]) (by kernel_rfl) (by kernel_rfl) rfl (zh 3 rfl rfl rfl (z8 rfl) rfl (zD rfl (zA ?_))))
   exact zM (yH (cs := [Vn 0, Vn 0, .string (⟨#[]⟩ : ByteArray), Vi 0, Vi 0]) (v := Vi 1) rfl rfl rfl (by kernel_rfl) (Own.rowCells (i := 3) rfl) (fun w' hw => ⟨LeaD.zero, 1, cnt, kl, rfl, (zK7 (larg.1 c1)).symm, rfl, rfl, rfl, hw.sel [0, 1, 2] rfl (by decide)⟩))
  ·
   have hla : ¬ y9 s k a sp := fun q => c1 (larg.2 q)
   have hsp : y3 sp := Decidable.by_contra fun q => c1 (.inr q)
   have ha1 : 1 ≤ a := Int.not_lt.1 fun q => c1 (.inl (.inr q))
   unfold y3 at hsp
   refine zK (zB (zC rfl (zm rfl rfl (zP (o := 0) rfl rfl (zS 0 (v := .map (some bm)) rfl rfl rfl rfl (zC rfl (zD9 (k := k) (kv := kb) (zv := 0) zCC zBX zC1 rfl rfl (fun w' hw' => Own.holds hw' 1 _ rfl) rfl (zC rfl (zp (vs := [Vi ((zu k kb).getD 0), .bool ((zu k kb).isSome)]) rfl rfl rfl (zp (vs := [Vi ((zu k kb).getD 0), .bool ((zu k kb).isSome)]) rfl rfl rfl (zD rfl (zD rfl ?_))))))))))))
   refine zA (zL (zB (zC rfl (kY (b := (zu k kb).isSome) rfl rfl (zA (zCx rfl (fun c2 => ?_) (fun c2 => ?_)))))))
   ·
    refine zB (yQ (cs := [Vn 0, Vn 0, .string (⟨#[]⟩ : ByteArray), Vi 0, Vi 0]) (z := [Vn 0, Vn 0, .string (⟨#[]⟩ : ByteArray), Vi 0, Vi 0]) (pl := [(0, 1), (1, 1), (2, 1), (3, 1), (4, 1)]) (by kernel_rfl) (by kernel_rfl) rfl (zh 3 rfl rfl rfl (z8 rfl) rfl (zD rfl (zA ?_))))
    exact zM (yH (cs := [Vn 0, Vn 0, .string (⟨#[]⟩ : ByteArray), Vi 0, Vi 0]) (v := Vi 8) rfl rfl rfl (by kernel_rfl) (Own.rowCells (i := 3) rfl) (fun w' hw => ⟨LeaD.zero, 8, cnt, kl, rfl, (zNL hla c2).symm, rfl, rfl, rfl, hw.sel [0, 1, 2] rfl (by decide)⟩))
   ·
    have hc2 : ¬ (!(zu k kb).isSome) = true := by rw [c2]; decide
    refine zK (zB (zC rfl (zC rfl (zJ rfl rfl (fun w' hw => (zAN b bm lm now cnt kl k w' (hw.give [0, 2] rfl (by decide))).mono ?_)))))
    rintro _ w1 ⟨n1_, rfl, hf6_2, hO⟩
    refine (?_ : CL _ _ _ _ _ _ (Own w S [Res.mp Value.string yD bm kb, Res.row b10 76 [Vn 0, Vn 0, .string (⟨#[]⟩ : ByteArray), Vi 0, Vi 0], Res.row b 111 [.map (some bm), .map (some lm), Vi now, Vn cnt], Res.mp yA zZ lm kl])) w1 (hw.frameL [0, 2] rfl hO)
    refine zC rfl (yj (e := 2) (sz := 1) (vs := [Vi n1_, Vi a]) (by kernel_rfl) rfl rfl (by simp [Value.cells]) (by decide) rfl (fun b55 => zJ rfl rfl (fun w' hw => (zGf (.slice (some ⟨b55, 0, none⟩) 2 2) [n1_, a] w' rfl (by show 0 ≤ n1_ ∧ n1_ ≤ _; rw [hf6_2]; exact hlen) (by show _ ≤ a ∧ a ≤ _; exact ⟨by omega, ha.2⟩) (hw.rdVec0 4 rfl)).mono ?_)))
    rintro _ w1 ⟨n2_, e3_, rfl, hf6_5, hO⟩
    have hsum := zId hf6_5 hf6_2
    refine (?_ : CL _ _ _ _ _ _ (Own w S [Res.mp Value.string yD bm kb, Res.row b10 76 [Vn 0, Vn 0, .string (⟨#[]⟩ : ByteArray), Vi 0, Vi 0], Res.row b 111 [.map (some bm), .map (some lm), Vi now, Vn cnt], Res.mp yA zZ lm kl, Res.vec 2 1 (.slice (some ⟨b55, 0, none⟩) 2 2) [n1_, a].length ([n1_, a].flatMap I1)])) w1 (hw.frame0 hO)
    refine zC rfl (zp (vs := [Vi n2_, Vi e3_]) rfl rfl rfl (zp (vs := [Vi n2_, Vi e3_]) rfl rfl rfl (zD rfl (zD rfl (zA (zL (zT (zB (zC rfl (xn rfl rfl rfl (zD rfl (zA ?_))))))))))))
    refine zU rfl (fun c3 => ?_) (fun c3 => ?_)
    ·
     refine zB (yQ (cs := [Vn 0, Vn 0, .string (⟨#[]⟩ : ByteArray), Vi 0, Vi 0]) (z := [Vn 0, Vn 0, .string (⟨#[]⟩ : ByteArray), Vi 0, Vi 0]) (pl := [(0, 1), (1, 1), (2, 1), (3, 1), (4, 1)]) (by kernel_rfl) (by kernel_rfl) rfl (zC rfl (zh 1 rfl rfl rfl (z8 rfl) rfl (zD rfl (zA ?_)))))
     exact zM (yH (cs := [Vn 0, Vn 0, .string (⟨#[]⟩ : ByteArray), Vi 0, Vi 0]) (v := Vi e3_) rfl rfl rfl (by kernel_rfl) (Own.rowCells (i := 1) rfl) (fun w' hw => ⟨LeaD.zero, e3_, cnt, kl, rfl, (by rw [(zAE hsum c3).2]; exact (zND hla hc2 (zAE hsum c3).1).symm), (by rw [(zAE hsum c3).2]; rfl), (by rw [(zAE hsum c3).2]; rfl), (by rw [(zAE hsum c3).2]; rfl), hw.sel [2, 0, 3] rfl (by decide)⟩))
    ·
     refine zB (zC rfl (zC rfl (yg rfl rfl rfl (zD rfl (zA (zU rfl (fun c4 => ?_) (fun c4 => ?_)))))))
     ·
      refine zB (yQ (cs := [Vn 0, Vn 0, .string (⟨#[]⟩ : ByteArray), Vi 0, Vi 0]) (z := [Vn 0, Vn 0, .string (⟨#[]⟩ : ByteArray), Vi 0, Vi 0]) (pl := [(0, 1), (1, 1), (2, 1), (3, 1), (4, 1)]) (by kernel_rfl) (by kernel_rfl) rfl (zh 1 rfl rfl rfl (z8 rfl) rfl (zD rfl (zA ?_))))
      exact zM (yH (cs := [Vn 0, Vn 0, .string (⟨#[]⟩ : ByteArray), Vi 0, Vi 0]) (v := Vi 16) rfl rfl rfl (by kernel_rfl) (Own.rowCells (i := 1) rfl) (fun w' hw => ⟨LeaD.zero, 16, cnt, kl, rfl, (zMJ hla hc2 (jb hsum c3).1 (by rw [← (jb hsum c3).2]; exact c4)).symm, rfl, rfl, rfl, hw.sel [2, 0, 3] rfl (by decide)⟩))
     ·
      refine zB (zC rfl (zm rfl rfl (zP (o := 1) rfl rfl (zS 2 (v := .map (some lm)) rfl rfl rfl rfl (zD8 yA zZ (kv := kl) zBu rfl (fun w' hw' => Own.holds hw' 3 _ rfl) rfl (xC rfl rfl rfl (zD rfl (zA (zU rfl (fun c5 => ?_) (fun c5 => ?_))))))))))
      ·
       refine zB (yQ (cs := [Vn 0, Vn 0, .string (⟨#[]⟩ : ByteArray), Vi 0, Vi 0]) (z := [Vn 0, Vn 0, .string (⟨#[]⟩ : ByteArray), Vi 0, Vi 0]) (pl := [(0, 1), (1, 1), (2, 1), (3, 1), (4, 1)]) (by kernel_rfl) (by kernel_rfl) rfl (zh 1 rfl rfl rfl (z8 rfl) rfl (zD rfl (zA ?_))))
       exact zM (yH (cs := [Vn 0, Vn 0, .string (⟨#[]⟩ : ByteArray), Vi 0, Vi 0]) (v := Vi 7) rfl rfl rfl (by kernel_rfl) (Own.rowCells (i := 1) rfl) (fun w' hw => ⟨LeaD.zero, 7, cnt, kl, rfl, (zMZ hla hc2 (jb hsum c3).1 (by rw [← (jb hsum c3).2]; exact c4) c5).symm, rfl, rfl, rfl, hw.sel [2, 0, 3] rfl (by decide)⟩))
      ·
       refine zK (zB (zC rfl (zm rfl rfl (zP (o := 3) rfl rfl (zS 2 (v := Vn cnt) rfl rfl rfl rfl (zt rfl rfl (kS (by omega)) rfl (zm rfl rfl (zP (o := 3) rfl rfl (yi (cs := [.map (some bm), .map (some lm), Vi now, Vn cnt]) 2 rfl rfl rfl rfl rfl (zA (zL (zg [0, 1, 2, 3, 4] rfl (by decide) (by kernel_rfl) (fun w' hw hS => ?_)))))))))))))
       refine zF 0 rfl (zQ) hS (zF 1 rfl (z7 rfl) hS (zF 2 rfl (zi (o := 3) rfl) hS (zF 3 rfl (zo 2 (v := Vn (cnt + 1)) rfl rfl rfl) hS (zF 4 rfl (zQ) hS (zF 5 rfl (zQ) hS (zF 6 rfl (zQ) hS (zF 7 rfl (zQ) hS (zF 8 rfl (z7 rfl) hS (zF 9 rfl (zi (o := 2) rfl) hS (zF 10 rfl (zo 2 (v := Vi now) rfl rfl rfl) hS (zF 11 rfl (zQ) hS (zF 12 rfl (xy rfl rfl (zr (by omega))) hS ?_))))))))))))
       refine zF 13 rfl (j0 (cs := [Vn (cnt + 1), Vn s, .string k, Vi a, Vi (now + sp)]) (z := [Vn 0, Vn 0, .string (⟨#[]⟩ : ByteArray), Vi 0, Vi 0]) (pl := [(0, 1), (1, 1), (2, 1), (3, 1), (4, 1)]) (by kernel_rfl) (by kernel_rfl)) hS (zY 14 rfl hw (yF (v := .agg #[Vn 0, Vn 0, .string (⟨#[]⟩ : ByteArray), Vi 0, Vi 0]) (by kernel_rfl) rfl (fun b16 => zG [0, 1, 2, 3, 4] rfl (by decide) (fun w' hw hS => zY 15 rfl hw (zh 5 rfl rfl rfl (z8 rfl) rfl (zG [0, 1, 2, 3, 4] rfl (by decide) (fun w' hw hS => zR ?_)))))))
       refine (?_ : C _ _ _ _ _ _ _ (Own w S [Res.mp Value.string yD bm kb, Res.row b10 76 [Vn 0, Vn 0, .string (⟨#[]⟩ : ByteArray), Vi 0, Vi 0], Res.row b 111 [.map (some bm), .map (some lm), Vi now, Vn (cnt + 1)], Res.mp yA zZ lm kl, Res.vec 2 1 (.slice (some ⟨b55, 0, none⟩) 2 2) [n1_, a].length ([n1_, a].flatMap I1), Res.row b16 76 [Vn (cnt + 1), Vn s, .string k, Vi a, Vi (now + sp)]])) _ hw
       refine zL (zg [0, 1, 2, 4, 5] rfl (by decide) (by kernel_rfl) (fun w' hw hS => zF 0 rfl (zQ) hS (zF 1 rfl (z7 rfl) hS (zF 2 rfl (zi (o := 1) rfl) hS (zF 3 rfl (zo 2 (v := .map (some lm)) rfl rfl rfl) hS (zF 4 rfl (zi (o := 0) rfl) hS (zF 5 rfl (zo 4 (v := Vn (cnt + 1)) rfl rfl rfl) hS (zF 6 rfl (kI (cs := [Vn (cnt + 1), Vn s, .string k, Vi a, Vi (now + sp)]) 4 rfl rfl) hS (zY 7 rfl hw (jP 3 (k := cnt + 1) (v := ({ id := cnt + 1, session := s, key := k, amount := a, until_ := now + sp } : LeaD)) zFF zBu rfl rfl rfl rfl (zG [0, 1, 2, 4, 5] rfl (by decide) (fun w' hw hS => zR ?_))))))))))))
       refine (?_ : C _ _ _ _ _ _ _ (Own w S [Res.mp Value.string yD bm kb, Res.row b10 76 [Vn 0, Vn 0, .string (⟨#[]⟩ : ByteArray), Vi 0, Vi 0], Res.row b 111 [.map (some bm), .map (some lm), Vi now, Vn (cnt + 1)], Res.mp yA zZ lm (xJ (cnt + 1) ({ id := cnt + 1, session := s, key := k, amount := a, until_ := now + sp } : LeaD) kl), Res.vec 2 1 (.slice (some ⟨b55, 0, none⟩) 2 2) [n1_, a].length ([n1_, a].flatMap I1), Res.row b16 76 [Vn (cnt + 1), Vn s, .string k, Vi a, Vi (now + sp)]])) _ hw
       refine zB (yN (cs := [Vn (cnt + 1), Vn s, .string k, Vi a, Vi (now + sp)]) 5 rfl rfl rfl (zh 1 rfl rfl rfl (z8 rfl) rfl (zD rfl (zA ?_))))
       exact zM (yH (cs := [Vn (cnt + 1), Vn s, .string k, Vi a, Vi (now + sp)]) (v := Vi 0) rfl rfl rfl (by kernel_rfl) (Own.rowCells (i := 1) rfl) (fun w' hw => ⟨⟨cnt + 1, s, k, a, now + sp⟩, 0, cnt + 1, xJ (cnt + 1) ⟨cnt + 1, s, k, a, now + sp⟩ kl, rfl, (zNB hla hc2 (jb hsum c3).1 (by rw [← (jb hsum c3).2]; exact c4) c5).symm, rfl, rfl, rfl, hw.sel [2, 0, 3] rfl (by decide)⟩))
theorem zKN {S : List Nat} (b bm lm : Nat) (now : Int) (cnt : Nat) (kb : List (ByteArray × Int)) (kl : List (Nat × LeaD)) (s i : Nat) (sp : Int) (w : World) (ht : 0 ≤ now ∧ now ≤ 2305843009213693952) (hin : Own w S [Res.row b 111 [.map (some bm), .map (some lm), Vi now, Vn cnt], Res.mp Value.string yD bm kb, Res.mp yA zZ lm kl] w) : Rets Tryz.prog 65 #[.pointer (some ⟨b, 0, none⟩), Vn s, Vn i, Vi sp] w fun u_ w' => ∃ (x : LeaD) (e : Int) (kl' : List (Nat × LeaD)), u_ = .tuple #[.agg (LeaD.cells x).toArray, Vi e] ∧ zBY now kb kl s i sp x e kl' ∧ Own w S [Res.row b 111 [.map (some bm), .map (some lm), Vi now, Vn cnt], Res.mp Value.string yD bm kb, Res.mp yA zZ lm kl'] w' := by
  refine zW Tryz.func65 rfl Tryz.ntmps65 hin ?_
  refine zB (yF (v := .agg #[Vn 0, Vn 0, .string (⟨#[]⟩ : ByteArray), Vi 0, Vi 0]) (by kernel_rfl) rfl (fun b8 => zD rfl (zA (zL (zB (zC rfl (xE (by kernel_rfl) rfl rfl rfl (zC rfl (zO rfl rfl (zC rfl (zO rfl rfl (zJ rfl rfl (fun w' hw => ?_)))))))))))))
  refine (zHu sp w').mono ?_
  rintro _ w1 ⟨rfl, hO⟩
  refine (?_ : CL _ _ _ _ _ _ (Own w S [Res.row b 111 [.map (some bm), .map (some lm), Vi now, Vn cnt], Res.mp Value.string yD bm kb, Res.mp yA zZ lm kl, Res.row b8 76 [Vn 0, Vn 0, .string (⟨#[]⟩ : ByteArray), Vi 0, Vi 0]])) w1 (hw.frame0 hO)
  refine zO rfl rfl (xo (q := y3 sp) rfl rfl (kL rfl rfl (zA (zU rfl (fun c1 => ?_) (fun c1 => ?_)))))
  ·
   refine zB (yQ (cs := [Vn 0, Vn 0, .string (⟨#[]⟩ : ByteArray), Vi 0, Vi 0]) (z := [Vn 0, Vn 0, .string (⟨#[]⟩ : ByteArray), Vi 0, Vi 0]) (pl := [(0, 1), (1, 1), (2, 1), (3, 1), (4, 1)]) (by kernel_rfl) (by kernel_rfl) rfl (zh 3 rfl rfl rfl (z8 rfl) rfl (zD rfl (zA ?_))))
   exact zM (yH (cs := [Vn 0, Vn 0, .string (⟨#[]⟩ : ByteArray), Vi 0, Vi 0]) (v := Vi 1) rfl rfl rfl (by kernel_rfl) (Own.rowCells (i := 3) rfl) (fun w' hw => ⟨LeaD.zero, 1, kl, rfl, .inl ⟨c1, rfl, rfl, rfl⟩, hw.sel [0, 1, 2] rfl (by decide)⟩))
  ·
   have hsp : 1 ≤ sp ∧ sp ≤ 1099511627776 := Decidable.not_not.1 c1
   refine zK (zB (zC rfl (zC rfl (zC rfl (zJ rfl rfl (fun w' hw => (zI9 b bm lm now cnt kl s i w' (hw.give [0, 2] rfl (by decide))).mono ?_))))))
   rintro _ w1 ⟨x1_, e2_, rfl, hf3_3, hO⟩
   refine (?_ : CL _ _ _ _ _ _ (Own w S [Res.mp Value.string yD bm kb, Res.row b8 76 [Vn 0, Vn 0, .string (⟨#[]⟩ : ByteArray), Vi 0, Vi 0], Res.row b 111 [.map (some bm), .map (some lm), Vi now, Vn cnt], Res.mp yA zZ lm kl])) w1 (hw.frameL [0, 2] rfl hO)
   refine zC rfl (zp (vs := [.agg (LeaD.cells x1_).toArray, Vi e2_]) rfl rfl rfl (zp (vs := [.agg (LeaD.cells x1_).toArray, Vi e2_]) rfl rfl rfl (yF (v := .agg #[Vn 0, Vn 0, .string (⟨#[]⟩ : ByteArray), Vi 0, Vi 0]) (by kernel_rfl) rfl (fun b10 => zh 4 rfl rfl rfl (z8 rfl) rfl (zD rfl (zA (zL (zT (zB (zC rfl (xn rfl rfl rfl (zD rfl ?_))))))))))))
   refine zA (zU rfl (fun c2 => ?_) (fun c2 => ?_))
   ·
    refine zB (yQ (cs := [Vn 0, Vn 0, .string (⟨#[]⟩ : ByteArray), Vi 0, Vi 0]) (z := [Vn 0, Vn 0, .string (⟨#[]⟩ : ByteArray), Vi 0, Vi 0]) (pl := [(0, 1), (1, 1), (2, 1), (3, 1), (4, 1)]) (by kernel_rfl) (by kernel_rfl) rfl (zC rfl (zh 1 rfl rfl rfl (z8 rfl) rfl (zD rfl (zA ?_)))))
    exact zM (yH (cs := [Vn 0, Vn 0, .string (⟨#[]⟩ : ByteArray), Vi 0, Vi 0]) (v := Vi e2_) rfl rfl rfl (by kernel_rfl) (Own.rowCells (i := 1) rfl) (fun w' hw => ⟨LeaD.zero, e2_, kl, rfl, zG3 c1 hf3_3 c2, hw.sel [2, 0, 3] rfl (by decide)⟩))
   ·
    refine zL (zg [0, 1, 4] rfl (by decide) (by kernel_rfl) (fun w' hw hS => zF 0 rfl (zQ) hS (zF 1 rfl (zi (o := 2) rfl) hS (zF 2 rfl (zo 2 (v := .string x1_.key) rfl rfl rfl) hS (zF 4 rfl (zQ) hS (zF 5 rfl (z7 rfl) hS (zF 6 rfl (zi (o := 0) rfl) hS (zF 8 rfl (zi (o := 2) rfl) hS (zF 9 rfl (zo 2 (v := .string x1_.key) rfl rfl rfl) hS (zk 3 7 ?_ ?_))))))))))
    ·
     refine zX 3 rfl hw (zJ rfl rfl (fun w' hw => (zAN b bm lm now cnt kl x1_.key w' (hw.give [2, 3] rfl (by decide))).mono ?_))
     rintro _ w1 ⟨n3_, rfl, hf6_3, hO⟩
     refine (?_ : CL _ _ _ _ _ _ (Own w S [Res.mp Value.string yD bm kb, Res.row b8 76 [Vn 0, Vn 0, .string (⟨#[]⟩ : ByteArray), Vi 0, Vi 0], Res.row b10 76 (LeaD.cells x1_), Res.row b 111 [.map (some bm), .map (some lm), Vi now, Vn cnt], Res.mp yA zZ lm kl])) w1 (hw.frameL [2, 3] rfl hO)
     refine zG [0, 1, 2] rfl (by decide) (fun w' hw hS => zY 7 rfl hw (zS 3 (v := .map (some bm)) rfl rfl rfl rfl (zG [0, 1, 2] rfl (by decide) (fun w' hw hS => zF 10 rfl (zEW (k := x1_.key) (kv := kb) (zv := 0) zCC zBX zC1 rfl rfl (fun w' hw' => Own.holds hw' 0 _ rfl)) hS (zF 11 rfl (zBO rfl rfl) hS (zF 12 rfl (yx) hS (zR ?_)))))))
     refine (?_ : C _ _ _ _ _ _ _ (Own w S [Res.mp Value.string yD bm kb, Res.row b8 76 [Vn 0, Vn 0, .string (⟨#[]⟩ : ByteArray), Vi 0, Vi 0], Res.row b10 76 (LeaD.cells x1_), Res.row b 111 [.map (some bm), .map (some lm), Vi now, Vn cnt], Res.mp yA zZ lm kl])) _ hw
     refine zU rfl (fun c3 => ?_) (fun c3 => ?_)
     ·
      refine zB (yQ (cs := [Vn 0, Vn 0, .string (⟨#[]⟩ : ByteArray), Vi 0, Vi 0]) (z := [Vn 0, Vn 0, .string (⟨#[]⟩ : ByteArray), Vi 0, Vi 0]) (pl := [(0, 1), (1, 1), (2, 1), (3, 1), (4, 1)]) (by kernel_rfl) (by kernel_rfl) rfl (zh 1 rfl rfl rfl (z8 rfl) rfl (zD rfl (zA ?_))))
      exact zM (yH (cs := [Vn 0, Vn 0, .string (⟨#[]⟩ : ByteArray), Vi 0, Vi 0]) (v := Vi 16) rfl rfl rfl (by kernel_rfl) (Own.rowCells (i := 1) rfl) (fun w' hw => ⟨LeaD.zero, 16, kl, rfl, zFI c1 hf3_3 c2 hf6_3 c3, hw.sel [3, 0, 4] rfl (by decide)⟩))
     ·
      refine zK (zL (zg [0, 1, 3, 4] rfl (by decide) (by kernel_rfl) (fun w' hw hS => zF 0 rfl (zi (o := 4) rfl) hS (zF 2 rfl (zQ) hS (zF 3 rfl (z7 rfl) hS (zF 4 rfl (zi (o := 2) rfl) hS (zF 5 rfl (zo 2 (v := Vi now) rfl rfl rfl) hS (zF 6 rfl (zQ) hS (zF 7 rfl (xy rfl rfl (zr (by omega))) hS (zY 1 rfl hw (zS 2 (v := Vi x1_.until_) rfl rfl rfl rfl (zG [0, 1, 3, 4] rfl (by decide) (fun w' hw hS => ?_)))))))))))))
      refine zF 8 rfl (zJW (c := max x1_.until_ (now + sp)) rfl rfl (zNI _ _)) hS (zF 9 rfl (zi (o := 4) rfl) hS (zY 10 rfl hw (yi (cs := (LeaD.cells x1_)) 2 rfl rfl rfl rfl rfl (zG [0, 1, 3, 4] rfl (by decide) (fun w' hw hS => zR ?_)))))
      refine (?_ : C _ _ _ _ _ _ _ (Own w S [Res.mp Value.string yD bm kb, Res.row b8 76 [Vn 0, Vn 0, .string (⟨#[]⟩ : ByteArray), Vi 0, Vi 0], Res.row b10 76 [Vn x1_.id, Vn x1_.session, .string x1_.key, Vi x1_.amount, Vi (max x1_.until_ (now + sp))], Res.row b 111 [.map (some bm), .map (some lm), Vi now, Vn cnt], Res.mp yA zZ lm kl])) _ hw
      refine zL (zg [0, 1, 2, 3] rfl (by decide) (by kernel_rfl) (fun w' hw hS => zF 0 rfl (zQ) hS (zF 1 rfl (z7 rfl) hS (zF 2 rfl (zi (o := 1) rfl) hS (zF 3 rfl (zo 3 (v := .map (some lm)) rfl rfl rfl) hS (zF 4 rfl (zQ) hS (zF 5 rfl (kI 2 rfl rfl) hS (zY 6 rfl hw (jP 4 (k := i) (v := ({ x1_ with until_ := max x1_.until_ (now + sp) } : LeaD)) zFF zBu rfl rfl rfl rfl (zG [0, 1, 2, 3] rfl (by decide) (fun w' hw hS => zR ?_)))))))))))
      refine (?_ : C _ _ _ _ _ _ _ (Own w S [Res.mp Value.string yD bm kb, Res.row b8 76 [Vn 0, Vn 0, .string (⟨#[]⟩ : ByteArray), Vi 0, Vi 0], Res.row b10 76 [Vn x1_.id, Vn x1_.session, .string x1_.key, Vi x1_.amount, Vi (max x1_.until_ (now + sp))], Res.row b 111 [.map (some bm), .map (some lm), Vi now, Vn cnt], Res.mp yA zZ lm (xJ i ({ x1_ with until_ := max x1_.until_ (now + sp) } : LeaD) kl)])) _ hw
      refine zB (yN 2 rfl rfl rfl (zh 1 rfl rfl rfl (z8 rfl) rfl (zD rfl (zA ?_))))
      exact zM (yH (cs := [Vn x1_.id, Vn x1_.session, .string x1_.key, Vi x1_.amount, Vi (max x1_.until_ (now + sp))]) (v := Vi 0) rfl rfl rfl (by kernel_rfl) (Own.rowCells (i := 1) rfl) (fun w' hw => ⟨xa x1_ (now + sp), 0, xJ i (xa x1_ (now + sp)) kl, rfl, zGe c1 hf3_3 c2 hf6_3 c3, hw.sel [3, 0, 4] rfl (by decide)⟩))
    ·
     refine zX 7 rfl hw (zS 2 (v := .map (some bm)) rfl rfl rfl rfl (zG [0, 1, 4] rfl (by decide) (fun w' hw hS => zF 10 rfl (zEW (k := x1_.key) (kv := kb) (zv := 0) zCC zBX zC1 rfl rfl (fun w' hw' => Own.holds hw' 0 _ rfl)) hS (zY 3 rfl hw (zJ rfl rfl (fun w' hw => (zAN b bm lm now cnt kl x1_.key w' (hw.give [2, 3] rfl (by decide))).mono ?_))))))
     rintro _ w1 ⟨n4_, rfl, hf6_3, hO⟩
     refine (?_ : CL _ _ _ _ _ _ (Own w S [Res.mp Value.string yD bm kb, Res.row b8 76 [Vn 0, Vn 0, .string (⟨#[]⟩ : ByteArray), Vi 0, Vi 0], Res.row b10 76 (LeaD.cells x1_), Res.row b 111 [.map (some bm), .map (some lm), Vi now, Vn cnt], Res.mp yA zZ lm kl])) w1 (hw.frameL [2, 3] rfl hO)
     refine zG [0, 1, 2] rfl (by decide) (fun w' hw hS => zF 11 rfl (zBO rfl rfl) hS (zF 12 rfl (yx) hS (zR ?_)))
     refine (?_ : C _ _ _ _ _ _ _ (Own w S [Res.mp Value.string yD bm kb, Res.row b8 76 [Vn 0, Vn 0, .string (⟨#[]⟩ : ByteArray), Vi 0, Vi 0], Res.row b10 76 (LeaD.cells x1_), Res.row b 111 [.map (some bm), .map (some lm), Vi now, Vn cnt], Res.mp yA zZ lm kl])) _ hw
     refine zU rfl (fun c4 => ?_) (fun c4 => ?_)
     ·
      refine zB (yQ (cs := [Vn 0, Vn 0, .string (⟨#[]⟩ : ByteArray), Vi 0, Vi 0]) (z := [Vn 0, Vn 0, .string (⟨#[]⟩ : ByteArray), Vi 0, Vi 0]) (pl := [(0, 1), (1, 1), (2, 1), (3, 1), (4, 1)]) (by kernel_rfl) (by kernel_rfl) rfl (zh 1 rfl rfl rfl (z8 rfl) rfl (zD rfl (zA ?_))))
      exact zM (yH (cs := [Vn 0, Vn 0, .string (⟨#[]⟩ : ByteArray), Vi 0, Vi 0]) (v := Vi 16) rfl rfl rfl (by kernel_rfl) (Own.rowCells (i := 1) rfl) (fun w' hw => ⟨LeaD.zero, 16, kl, rfl, zFI c1 hf3_3 c2 hf6_3 c4, hw.sel [3, 0, 4] rfl (by decide)⟩))
     ·
      refine zK (zL (zg [0, 1, 3, 4] rfl (by decide) (by kernel_rfl) (fun w' hw hS => zF 0 rfl (zi (o := 4) rfl) hS (zF 2 rfl (zQ) hS (zF 3 rfl (z7 rfl) hS (zF 4 rfl (zi (o := 2) rfl) hS (zF 5 rfl (zo 2 (v := Vi now) rfl rfl rfl) hS (zF 6 rfl (zQ) hS (zF 7 rfl (xy rfl rfl (zr (by omega))) hS (zY 1 rfl hw (zS 2 (v := Vi x1_.until_) rfl rfl rfl rfl (zG [0, 1, 3, 4] rfl (by decide) (fun w' hw hS => ?_)))))))))))))
      refine zF 8 rfl (zJW (c := max x1_.until_ (now + sp)) rfl rfl (zNI _ _)) hS (zF 9 rfl (zi (o := 4) rfl) hS (zY 10 rfl hw (yi (cs := (LeaD.cells x1_)) 2 rfl rfl rfl rfl rfl (zG [0, 1, 3, 4] rfl (by decide) (fun w' hw hS => zR ?_)))))
      refine (?_ : C _ _ _ _ _ _ _ (Own w S [Res.mp Value.string yD bm kb, Res.row b8 76 [Vn 0, Vn 0, .string (⟨#[]⟩ : ByteArray), Vi 0, Vi 0], Res.row b10 76 [Vn x1_.id, Vn x1_.session, .string x1_.key, Vi x1_.amount, Vi (max x1_.until_ (now + sp))], Res.row b 111 [.map (some bm), .map (some lm), Vi now, Vn cnt], Res.mp yA zZ lm kl])) _ hw
      refine zL (zg [0, 1, 2, 3] rfl (by decide) (by kernel_rfl) (fun w' hw hS => zF 0 rfl (zQ) hS (zF 1 rfl (z7 rfl) hS (zF 2 rfl (zi (o := 1) rfl) hS (zF 3 rfl (zo 3 (v := .map (some lm)) rfl rfl rfl) hS (zF 4 rfl (zQ) hS (zF 5 rfl (kI 2 rfl rfl) hS (zY 6 rfl hw (jP 4 (k := i) (v := ({ x1_ with until_ := max x1_.until_ (now + sp) } : LeaD)) zFF zBu rfl rfl rfl rfl (zG [0, 1, 2, 3] rfl (by decide) (fun w' hw hS => zR ?_)))))))))))
      refine (?_ : C _ _ _ _ _ _ _ (Own w S [Res.mp Value.string yD bm kb, Res.row b8 76 [Vn 0, Vn 0, .string (⟨#[]⟩ : ByteArray), Vi 0, Vi 0], Res.row b10 76 [Vn x1_.id, Vn x1_.session, .string x1_.key, Vi x1_.amount, Vi (max x1_.until_ (now + sp))], Res.row b 111 [.map (some bm), .map (some lm), Vi now, Vn cnt], Res.mp yA zZ lm (xJ i ({ x1_ with until_ := max x1_.until_ (now + sp) } : LeaD) kl)])) _ hw
      refine zB (yN 2 rfl rfl rfl (zh 1 rfl rfl rfl (z8 rfl) rfl (zD rfl (zA ?_))))
      exact zM (yH (cs := [Vn x1_.id, Vn x1_.session, .string x1_.key, Vi x1_.amount, Vi (max x1_.until_ (now + sp))]) (v := Vi 0) rfl rfl rfl (by kernel_rfl) (Own.rowCells (i := 1) rfl) (fun w' hw => ⟨xa x1_ (now + sp), 0, xJ i (xa x1_ (now + sp)) kl, rfl, zGe c1 hf3_3 c2 hf6_3 c4, hw.sel [3, 0, 4] rfl (by decide)⟩))
theorem zMX {S : List Nat} (b bm lm : Nat) (now : Int) (cnt : Nat) (kl : List (Nat × LeaD)) (s i : Nat) (w : World) (hin : Own w S [Res.row b 111 [.map (some bm), .map (some lm), Vi now, Vn cnt], Res.mp yA zZ lm kl] w) : Rets Tryz.prog 66 #[.pointer (some ⟨b, 0, none⟩), Vn s, Vn i] w fun u_ w' => ∃ (x : LeaD) (e : Int) (kl' : List (Nat × LeaD)), u_ = .tuple #[.agg (LeaD.cells x).toArray, Vi e] ∧ zE1 kl s i x e kl' ∧ Own w S [Res.row b 111 [.map (some bm), .map (some lm), Vi now, Vn cnt], Res.mp yA zZ lm kl'] w' := by
  refine zW Tryz.func66 rfl Tryz.ntmps66 hin ?_
  refine zB (yF (v := .agg #[Vn 0, Vn 0, .string (⟨#[]⟩ : ByteArray), Vi 0, Vi 0]) (by kernel_rfl) rfl (fun b6 => zD rfl (zA (zL (zB (zC rfl (xE (by kernel_rfl) rfl rfl rfl (zA (xQ rfl (zK (zB (zC rfl ?_))))))))))))
  refine zC rfl (zC rfl (zJ rfl rfl (fun w' hw => (zI9 b bm lm now cnt kl s i w' (hw.give [0, 1] rfl (by decide))).mono ?_)))
  rintro _ w1 ⟨x1_, e2_, rfl, hf3_3, hO⟩
  refine (?_ : CL _ _ _ _ _ _ (Own w S [Res.row b6 76 [Vn 0, Vn 0, .string (⟨#[]⟩ : ByteArray), Vi 0, Vi 0], Res.row b 111 [.map (some bm), .map (some lm), Vi now, Vn cnt], Res.mp yA zZ lm kl])) w1 (hw.frameL [0, 1] rfl hO)
  refine zC rfl (zp (vs := [.agg (LeaD.cells x1_).toArray, Vi e2_]) rfl rfl rfl (zp (vs := [.agg (LeaD.cells x1_).toArray, Vi e2_]) rfl rfl rfl (yF (v := .agg #[Vn 0, Vn 0, .string (⟨#[]⟩ : ByteArray), Vi 0, Vi 0]) (by kernel_rfl) rfl (fun b8 => zh 3 rfl rfl rfl (z8 rfl) rfl (zD rfl (zA (zL (zB (zC rfl (yo rfl rfl rfl (zA (zU rfl (fun c2 => ?_) (fun c2 => ?_)))))))))))))
  ·
   refine zd (zC rfl (zm rfl rfl (zP (o := 1) rfl rfl (zS 1 (v := .map (some lm)) rfl rfl rfl rfl (zC rfl (zFA 2 (k := i) zFF zBu rfl rfl rfl (zA (zB (yN (cs := (LeaD.cells x1_)) 3 rfl rfl rfl (zC rfl (zh 0 rfl rfl rfl (z8 rfl) rfl (zD rfl ?_))))))))))))
   refine zA ?_
   exact zM (yH (cs := (LeaD.cells x1_)) (v := Vi e2_) rfl rfl rfl (by kernel_rfl) (Own.rowCells (i := 0) rfl) (fun w' hw => ⟨x1_, e2_, kp i kl, rfl, zHi hf3_3 c2, hw.sel [1, 2] rfl (by decide)⟩))
  ·
   refine zK (zB (yN (cs := (LeaD.cells x1_)) 3 rfl rfl rfl (zC rfl (zh 0 rfl rfl rfl (z8 rfl) rfl (zD rfl (zA ?_))))))
   exact zM (yH (cs := (LeaD.cells x1_)) (v := Vi e2_) rfl rfl rfl (by kernel_rfl) (Own.rowCells (i := 0) rfl) (fun w' hw => ⟨x1_, e2_, kl, rfl, zJx hf3_3 c2, hw.sel [1, 2] rfl (by decide)⟩))
theorem zL1 {S : List Nat} (b bm lm : Nat) (now : Int) (cnt : Nat) (kl : List (Nat × LeaD)) (n : Int) (w : World) (ht : 0 ≤ now ∧ now ≤ 2305843009213693952) (hn : xY n) (hk : KNd kl) (hl : kl.length ≤ 128) (hin : Own w S [Res.row b 111 [.map (some bm), .map (some lm), Vi now, Vn cnt], Res.mp yA zZ lm kl] w) : Rets Tryz.prog 55 #[.pointer (some ⟨b, 0, none⟩), Vi n] w fun u_ w' => ∃ (gv : Value) (gs : List Nat) (e now' : Int) (kl' : List (Nat × LeaD)), u_ = .tuple #[gv, Vi e] ∧ e = xz now n ∧ now' = kW now n ∧ kl' = kA now n kl ∧ gs.Perm (zCK now n kl) ∧ gs.Pairwise (fun x y => x ≤ y) ∧ Own w S [Res.row b 111 [.map (some bm), .map (some lm), Vi now', Vn cnt], Res.mp yA zZ lm kl', Res.vec 28 1 gv gs.length (gs.flatMap U1)] w' := by
  refine zW Tryz.func55 rfl Tryz.ntmps55 hin ?_
  refine zB (zD rfl (zD rfl (zA (zL (zT (zB (zC rfl (xE (by kernel_rfl) rfl rfl rfl (zC rfl (zO rfl rfl (zC rfl (zO rfl rfl ?_))))))))))))
  refine yI rfl rfl rfl (kL rfl rfl (zC rfl (yY (q := n < 0) 2 6 [17, 16] (1099511627776 < n) rfl rfl rfl rfl rfl rfl trivial rfl (fun h1_6 => ?_) (fun g1_9 => ?_))))
  ·
   refine zO rfl (gF h1_6) (zC rfl (zO rfl (gF h1_6) (yg rfl rfl rfl ?_)))
   exact yL rfl (fun _ hw => hw)
  refine zD rfl (zA (zU rfl (fun c1 => ?_) (fun c1 => ?_)))
  ·
   refine zB (zD rfl (zD rfl (zA ?_)))
   exact zM (xK (v := .slice none 0 0) (v' := Vi 1) rfl rfl rfl (fun w' hw => ⟨.slice none 0 0, [], 1, now, kl, rfl, (kX (kl := kl) (zAB c1) (by decide)).1, (kX (kl := kl) (zAB c1) (by decide)).2.1, (kX (kl := kl) (zAB c1) (by decide)).2.2.1, (kX (kl := kl) (zAB c1) (by decide)).2.2.2, List.Pairwise.nil, (yK hw 28 1)⟩))
  ·
   refine zB (zC rfl (zm rfl rfl (zP (o := 2) rfl rfl (zS 0 (v := Vi now) rfl rfl rfl rfl (zC rfl (yX rfl rfl (zr (by omega)) rfl (yg rfl rfl rfl (zD rfl (zA (zU rfl (fun c2 => ?_) (fun c2 => ?_)))))))))))
   ·
    refine zB (zD rfl (zD rfl (zA ?_)))
    exact zM (xK (v := .slice none 0 0) (v' := Vi 3) rfl rfl rfl (fun w' hw => ⟨.slice none 0 0, [], 3, now, kl, rfl, (kX (kl := kl) (zAC c1 c2) (by decide)).1, (kX (kl := kl) (zAC c1 c2) (by decide)).2.1, (kX (kl := kl) (zAC c1 c2) (by decide)).2.2.1, (kX (kl := kl) (zAC c1 c2) (by decide)).2.2.2, List.Pairwise.nil, (yK hw 28 1)⟩))
   ·
    refine zK (zB (zC rfl (zm rfl rfl (zP (o := 2) rfl rfl (zS 0 (v := Vi now) rfl rfl rfl rfl (zC rfl (zt rfl rfl (zr (by omega)) rfl (zm rfl rfl (zP (o := 2) rfl rfl (yi (cs := [.map (some bm), .map (some lm), Vi now, Vn cnt]) 0 rfl rfl rfl rfl rfl (zA (zL ?_))))))))))))
    refine zB (zC rfl (zm rfl rfl (zP (o := 1) rfl rfl (zS 0 (v := .map (some lm)) rfl rfl rfl rfl (zAD 1 zBu rfl rfl rfl (fun r39 => zA (zT ?_)))))))
    refine zB6 (fun (todo kv : List (Nat × LeaD)) (gv : Value) (gs : List Nat) => [(0, .pointer (some ⟨b, 0, none⟩)), (4, gv), (39, .pointer (some ⟨r39, 0, none⟩))]) (fun (todo kv : List (Nat × LeaD)) (gv : Value) (gs : List Nat) => PassI (now + n) kl todo kv gs) (fun (todo kv : List (Nat × LeaD)) (gv : Value) (gs : List Nat) => [Res.row b 111 [.map (some bm), .map (some lm), Vi (now + n), Vn cnt], Res.rg yA zZ lm r39 kv todo, Res.vec 28 1 gv gs.length (gs.flatMap U1)]) (fun (todo kv : List (Nat × LeaD)) (gv : Value) (gs : List Nat) => todo.length) (fun w' hw => ⟨kl, kl, .slice none 0 0, [], ⟨rfl, rfl, rfl, trivial⟩, PassI.start _ _, (yK hw 28 1)⟩) (fun todo kv gv gs g hΦ => ?_)
    have hgl : gs.length ≤ 128 := Nat.le_trans (PassI.len hΦ) hl
    refine zB (zBC 1 rfl rfl rfl (fun hq0 => ?_) (fun q1 k v q2 hq1 => ?_))
    ·
     refine zp (vs := [.bool false]) rfl rfl rfl (zA (zL (xQ rfl (yG rfl (zB (zC rfl (zJ rfl rfl (fun w' hw => (zJD gv gs w' (by first | assumption | omega | (simp <;> omega) | (constructor <;> (first | omega | (simp only [zb]; omega) | (simp <;> omega)))) (hw.give [2] rfl (by decide))).mono ?_))))))))
     rintro _ w1 ⟨l'1_, rfl, hf12_1, hf12_1_1, hO⟩
     refine (?_ : CL _ _ _ _ _ _ (Own w S [Res.row b 111 [.map (some bm), .map (some lm), Vi (now + n), Vn cnt], Res.rg yA zZ lm r39 kv todo, Res.vec 28 1 gv l'1_.length (l'1_.flatMap U1)])) w1 (hw.frameL [2] rfl hO)
     refine zA (zB (zC rfl (zD rfl (zD rfl (zA ?_)))))
     exact zM (xK (v := gv) (v' := Vi 0) rfl rfl rfl (fun w' hw => ⟨gv, l'1_, 0, now + n, kv, rfl, (hΦ.done hq0 hk (zAH c1 c2)).1, (hΦ.done hq0 hk (zAH c1 c2)).2.1, (hΦ.done hq0 hk (zAH c1 c2)).2.2.1, hf12_1.trans (hΦ.done hq0 hk (zAH c1 c2)).2.2.2, hf12_1_1.imp (fun q => ole_nat.1 q), (Own.rgEnd 1 hw rfl)⟩))
    ·
     refine zp (vs := [.bool true, Vn k, .agg (LeaD.cells v).toArray]) rfl rfl rfl (zA (zL (jz rfl (zK (zT (zB (zAP 1 rfl rfl rfl (zp (vs := [Vn k, .agg (LeaD.cells v).toArray]) rfl rfl rfl (zp (vs := [Vn k, .agg (LeaD.cells v).toArray]) rfl rfl rfl (yF (v := .agg #[Vn 0, Vn 0, .string (⟨#[]⟩ : ByteArray), Vi 0, Vi 0]) (by kernel_rfl) rfl (fun b7 => zD rfl (zh 3 rfl rfl rfl (z8 rfl) rfl ?_))))))))))))
     refine zA (xb (by kernel_rfl) (by kernel_rfl) (zf rfl (zi (o := 4) rfl) (zf rfl (zo 3 (v := Vi v.until_) rfl rfl rfl) (zf rfl (zQ) (zf rfl (z7 rfl) (zf rfl (zi (o := 2) rfl) (zf rfl (zo 0 (v := Vi (now + n)) rfl rfl rfl) (zf rfl (zAj rfl rfl) (j9 (zU rfl (fun c5 => ?_) (fun c5 => ?_)))))))))))
     ·
      refine zB (zC rfl (zC rfl (yj (e := 28) (sz := 1) (vs := [Vn k]) (by kernel_rfl) rfl rfl (by simp [Value.cells]) (by decide) rfl (fun b54 => yu (g := U1) (sz := 1) (by' := 8) (fun _ => rfl) (l := gs) (l' := [k]) (by simp [cell1, U1]) 2 (by kernel_rfl) rfl rfl rfl (fun w' hw' => Vec.sl (Own.holds hw' 4 _ rfl)) (by first | omega | (simp; omega)) (by decide) rfl (fun v55 => zD rfl (zA (zd (zC rfl (zm rfl rfl (zP (o := 1) rfl rfl (zS 0 (v := .map (some lm)) rfl rfl rfl rfl (zC rfl ?_))))))))))))
      refine zJQ 1 (k := k) zFF zBu rfl rfl rfl (hΦ.out hk hq1) ?_
      exact zj (fun w' hw => ⟨q1 ++ q2, kp k kv, v55, gs ++ [k], ⟨rfl, rfl, rfl, trivial⟩, hΦ.yes hk hq1 c5, hw.sel [0, 1, 2] rfl (by decide), (by rw [hq1, List.length_append, List.length_append, List.length_cons]; omega)⟩)
     ·
      exact xj (fun w' hw => ⟨q1 ++ q2, kv, gv, gs, ⟨rfl, rfl, rfl, trivial⟩, hΦ.no hq1 c5, hw.sel [0, 1, 2] rfl (by decide), (by rw [hq1, List.length_append, List.length_append, List.length_cons]; omega)⟩)
end Go.Proofs.YthincafbmpialaaGreat
